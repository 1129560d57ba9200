/- Printed by an own program for this claim: the machine's code of functions, or their typed forms with their equations; no conditions. -/
import Derived.Test.YtggppceiapjadaaFwB1
set_option linter.unusedVariables false
set_option linter.unusedSimpArgs false
namespace Go.Fw.L19
open Go Go.Fw
abbrev U0 : Ty := (.sl .str)
abbrev U1 : Ty := (.int .u8)
abbrev V0 : Type := (List Int)
abbrev U2 : Ty := (.int .i64)
abbrev U3 : Ty := (.int .i32)
abbrev V1 : Type := (List UInt8)
abbrev V2 : Type := (Int × Unit)
abbrev V3 : Type := (V0)
abbrev V4 : Type := (Int × Bool)
abbrev V5 : Type := (V1)
abbrev U4 : Ty := (.sl U1)
abbrev V6 : Type := (List V0)
abbrev U5 : Ty := (.pair .str .unit)
abbrev V7 : Type := (List V1)
abbrev V8 : Type := (Int × V2)
abbrev V9 : Type := (V1 × Int)
abbrev V10 : Type := (V1 × Unit)
abbrev U6 : Ty := (.pair U0 .unit)
abbrev U7 : Ty := (.pair U1 .unit)
abbrev U8 : Ty := (.pair U3 .unit)
abbrev U9 : Ty := (.pair U2 .unit)
abbrev U10 : Ty := (.arr 2 U4)
abbrev V11 : Type := (List V8)
abbrev V12 : Type := (V7 × Unit)
abbrev V13 : Type := (V2 → Option Bool)
abbrev V14 : Type := (Int × V10)
abbrev V15 : Type := (V11 × Int)
abbrev U11 : Ty := (.fn U7 .bool)
abbrev V16 : Type := (Int × V12)
abbrev U12 : Ty := (.fn U8 .bool)
abbrev V17 : Type := (Int × V14)
abbrev U13 : Ty := (.pair U2 U5)
abbrev U14 : Ty := (.pair .str U9)
abbrev V18 : Type := (V17)
abbrev U15 : Ty := (.pair U2 U6)
abbrev V19 : Type := (List V17)
abbrev V20 : Type := (Int × V16)
abbrev U16 : Ty := (.pair U2 U9)
abbrev V21 : Type := ((V8 × Unit) → Option Bool)
abbrev V22 : Type := (V19)
abbrev U17 : Ty := (.sl U16)
abbrev V23 : Type := (List V20)
abbrev U18 : Ty := (.pair U2 U13)
abbrev U19 : Ty := (.pair U2 U14)
abbrev U20 : Ty := (.pair U16 .unit)
abbrev V24 : Type := (V23 × Unit)
abbrev V25 : Type := ((V17 × Unit) → Option Bool)
abbrev U21 : Ty := (.pair U2 U15)
abbrev U22 : Ty := (.sl U18)
abbrev U23 : Ty := (.sl U21)
abbrev U24 : Ty := (.fn U20 .bool)
abbrev U25 : Ty := (.pair U18 .unit)
abbrev V26 : Type := (V1 × V24)
abbrev U26 : Ty := (.pair U23 .unit)
abbrev U27 : Ty := (.fn U25 .bool)
abbrev V27 : Type := (V26 × Int)
abbrev U28 : Ty := (.pair .str U26)
instance (n : Nat) : OfNat Od n := ⟨.t n⟩
abbrev w (d : Nat) (o : AOp) : AI := { dst := some d, op := o }
abbrev m (d : Nat) (k : Nat) : AI := { dst := some d, op := .mv (.t k) }
def c33_0 : AC := .out [0, 1] (.reg [0, 1] [w 4 (.asg (.c U2 0))])
def c33_1 : AC := .out [0, 1, 5] (.reg [0, 1] [w 5 (.asg (.c U2 0))])
def c33_2 : AC := .out [0, 1, 5, 6] (.reg [0, 1, 5] [w 6 (.asg (.c U2 0))])
def c33_3 : AC := .out [0, 1, 5, 6, 15] (.reg [0, 1, 5, 6] [m 7 6,m 8 0,w 9 (.lenL 8),w 10 (.bin .lss 7 9),m 11 10,⟨some 12, .mv 5, some (11, true)⟩,⟨some 13, .mv 1, some (11, true)⟩,⟨some 14, .bin .leq 12 13, some (11, true)⟩,w 15 (.pick 11 14 (.c .bool false))])
def c33_4 : AC := .out [0, 1, 5, 6] (.cond (.t 15) .skip (.exit 0))
def c33_5 : AC := .out [0, 1, 5, 6] (.reg [0, 1, 5, 6] [m 18 5,w 19 (.bin .add 18 (.c U2 1)),m 20 0,m 21 6,w 22 (.indexAddr .str 20 21),w 23 (.load .str 22),w 24 (.lenS 23),w 25 (.bin .add 19 24),w 5 (.asg 25)])
def c33_6 : AC := .out [0, 1, 5, 6] (.block 1 c33_5)
def c33_7 : AC := .out [0, 1, 5, 6] (.reg [0, 1, 5, 6] [m 16 6,w 17 (.bin .add 16 (.c U2 1)),w 6 (.asg 17)])
def c33_8 : AC := (.seq (.seq c33_3 c33_4) (.seq c33_6 c33_7))
def c33_9 : AC := .out [5] (.loop [0, 1, 5, 6] c33_8)
def c33_10 : AC := .out [5] (.block 0 c33_9)
def c33_11 : AC := .out [4] (.reg [5] [m 26 5,w 4 (.asg 26)])
def c33_12 : AC := (.seq c33_0 (.seq c33_1 (.seq (.seq c33_2 c33_10) (.seq c33_11 .ret))))
def c33 : AC := c33_12
def d33 : FD := { nargs := 2, body := c33, res := [.t 4] }
def c9_0 : AC := .out [1] (.reg [0] [w 1 (.box U28 0),w 2 (.asg (.c .bool false))])
def c9_1 : AC := .out [1, 3] (.reg [1] [w 5 (.fieldAddr U28 [.l] 1),w 6 (.load .str 5),w 7 (.lenS 6),w 3 (.asg 7)])
def c9_2 : AC := .out [1, 3, 4] (.reg [1, 3] [w 4 (.asg (.c U2 0))])
def c9_3 : AC := .out [1, 3, 4, 16] (.reg [1, 3, 4] [m 8 4,w 9 (.fieldAddr U28 [.r, .l] 1),w 10 (.load U23 9),w 11 (.lenL 10),w 12 (.bin .lss 8 11),m 13 12,⟨some 14, .mv 4, some (13, true)⟩,⟨some 15, .bin .lss 14 (.c U2 50), some (13, true)⟩,w 16 (.pick 13 15 (.c .bool false))])
def c9_4 : AC := .out [1, 3, 4] (.cond (.t 16) .skip (.exit 0))
def c9_5 : AC := .out [1, 3, 4] (.reg [1, 3, 4] [m 19 3,w 20 (.fieldAddr U28 [.r, .l] 1),w 21 (.load U23 20),m 22 4,w 23 (.indexAddr U21 21 22),w 24 (.fieldAddr U21 [.r, .r, .l] 23),w 25 (.load U0 24),w 26 (.call 33 [25, (.c U2 1500)]),w 27 (.bin .add 19 26),w 3 (.asg 27)])
def c9_6 : AC := .out [1, 3, 4] (.block 1 c9_5)
def c9_7 : AC := .out [1, 3, 4] (.reg [1, 3, 4] [m 17 4,w 18 (.bin .add 17 (.c U2 1)),w 4 (.asg 18)])
def c9_8 : AC := (.seq (.seq c9_3 c9_4) (.seq c9_6 c9_7))
def c9_9 : AC := .out [1, 3] (.loop [1, 3, 4] c9_8)
def c9_10 : AC := .out [1, 3] (.block 0 c9_9)
def c9_11 : AC := .out [2] (.reg [1, 3] [w 28 (.fieldAddr U28 [.r, .l] 1),w 29 (.load U23 28),w 30 (.lenL 29),w 31 (.bin .leq 30 (.c U2 40)),m 32 31,⟨some 33, .mv 3, some (32, true)⟩,⟨some 34, .bin .leq 33 (.c U2 1500), some (32, true)⟩,w 35 (.pick 32 34 (.c .bool false)),w 2 (.asg 35)])
def c9_12 : AC := (.seq c9_0 (.seq c9_1 (.seq (.seq c9_2 c9_10) (.seq c9_11 .ret))))
def c9 : AC := c9_12
def d9 : FD := { nargs := 1, body := c9, res := [.t 2] }
def c34_0 : AC := .out [0, 2] (.reg [0] [w 2 (.alloc U18 .no)])
def c34_1 : AC := .out [0, 2, 3] (.reg [0, 2] [w 4 (.build U18 [([.l], (.c U2 1)), ([.r, .l], (.c U2 3)), ([.r, .r, .l], (.c .str [97]))]),w 5 (.build U18 [([.l], (.c U2 1)), ([.r, .l], (.c U2 1)), ([.r, .r, .l], (.c .str [101]))]),w 6 (.build U18 [([.l], (.c U2 1)), ([.r, .l], (.c U2 2)), ([.r, .r, .l], (.c .str [111]))]),w 7 (.build U18 [([.l], (.c U2 1)), ([.r, .l], (.c U2 3)), ([.r, .r, .l], (.c .str [105]))]),w 8 (.build U18 [([.l], (.c U2 2)), ([.r, .l], (.c U2 2)), ([.r, .r, .l], (.c .str [97, 101]))]),w 9 (.build U18 [([.l], (.c U2 3)), ([.r, .r, .l], (.c .str [116]))]),w 10 (.build U18 [([.l], (.c U2 3)), ([.r, .r, .l], (.c .str [98]))]),w 11 (.build U18 [([.l], (.c U2 4)), ([.r, .r, .l], (.c .str [114]))]),w 12 (.build U18 [([.l], (.c U2 4)), ([.r, .r, .l], (.c .str [108]))]),w 13 (.build U18 [([.l], (.c U2 5)), ([.r, .r, .l], (.c .str [109]))]),w 14 (.build U18 [([.l], (.c U2 5)), ([.r, .r, .l], (.c .str [110]))]),w 15 (.build U18 [([.l], (.c U2 6)), ([.r, .r, .l], (.c .str [115]))]),w 16 (.build U18 [([.l], (.c U2 7)), ([.r, .r, .l], (.c .str [120]))]),w 17 (.build U18 [([.l], (.c U2 8)), ([.r, .r, .l], (.c .str [118]))]),w 18 (.build U18 [([.l], (.c U2 9)), ([.r, .r, .l], (.c .str [104]))]),w 19 (.build U18 [([.l], (.c U2 1)), ([.r, .l], (.c U2 3)), ([.r, .r, .l], (.c .str [117]))]),w 20 (.buildSlice 55 U18 [4, 5, 6, 7, 8, 9, 10, 11, 12, 13, 14, 15, 16, 17, 18, 19]),w 3 (.asg 20)])
def c34_2 : AC := .out [2] (.reg [0, 2, 3] [m 21 3,m 22 0,w 23 (.convI .i64 22),m 24 3,w 25 (.lenL 24),w 26 (.bin .rem 23 25),w 27 (.indexAddr U18 21 26),w 28 (.load U18 27),⟨none, .store U18 2 28, none⟩])
def c34_3 : AC := (.seq c34_0 (.seq c34_1 (.seq c34_2 .ret)))
def c34 : AC := c34_3
def d34 : FD := { nargs := 1, body := c34, res := [.cell 2 U18] }
def c10_0 : AC := .out [0] (.reg [0] [w 2 (.asg (.nil 55 U18))])
def c10_1 : AC := .out [0, 3] (.reg [0] [w 3 (.asg (.nil 55 U18))])
def c10_2 : AC := .out [0, 3, 4] (.reg [0, 3] [w 4 (.asg (.c U2 0))])
def c10_3 : AC := .out [0, 3, 4, 8] (.reg [0, 3, 4] [m 5 4,m 6 0,w 7 (.lenL 6),w 8 (.bin .lss 5 7)])
def c10_4 : AC := .out [0, 3, 4] (.cond (.t 8) .skip (.exit 0))
def c10_5 : AC := .out [0, 3, 4] (.reg [0, 3, 4] [m 11 3,m 12 0,m 13 4,w 14 (.indexAddr U1 12 13),w 15 (.load U1 14),w 16 (.call 34 [15]),w 17 (.buildSlice 55 U18 [16]),w 18 (.append 55 U18 4398046511104 11 17),w 3 (.asg 18)])
def c10_6 : AC := .out [0, 3, 4] (.block 1 c10_5)
def c10_7 : AC := .out [0, 3, 4] (.reg [0, 3, 4] [m 9 4,w 10 (.bin .add 9 (.c U2 1)),w 4 (.asg 10)])
def c10_8 : AC := (.seq (.seq c10_3 c10_4) (.seq c10_6 c10_7))
def c10_9 : AC := .out [3] (.loop [0, 3, 4] c10_8)
def c10_10 : AC := .out [3] (.block 0 c10_9)
def c10_11 : AC := .out [2, 3] (.reg [3] [m 19 3,w 2 (.asg 19)])
def c10_12 : AC := (.seq c10_0 (.seq c10_1 (.seq (.seq c10_2 c10_10) (.seq c10_11 .ret))))
def c10 : AC := c10_12
def d10 : FD := { nargs := 1, body := c10, res := [.t 2] }
def c76_0 : AC := .out [0] (.reg [0] [w 2 (.asg (.c .bool false))])
def c76_1 : AC := .out [2] (.reg [0] [m 3 0,w 4 (.bin .geq 3 (.c U1 97)),m 5 4,⟨some 6, .mv 0, some (5, true)⟩,⟨some 7, .bin .leq 6 (.c U1 122), some (5, true)⟩,w 8 (.pick 5 7 (.c .bool false)),w 2 (.asg 8)])
def c76_2 : AC := (.seq c76_0 (.seq c76_1 .ret))
def c76 : AC := c76_2
def d76 : FD := { nargs := 1, body := c76, res := [.t 2] }
def c77_0 : AC := .out [0] (.reg [0] [w 2 (.asg (.c .bool false))])
def c77_1 : AC := .out [2] (.reg [0] [m 3 0,w 4 (.bin .geq 3 (.c U1 48)),m 5 4,⟨some 6, .mv 0, some (5, true)⟩,⟨some 7, .bin .leq 6 (.c U1 57), some (5, true)⟩,w 8 (.pick 5 7 (.c .bool false)),w 2 (.asg 8)])
def c77_2 : AC := (.seq c77_0 (.seq c77_1 .ret))
def c77 : AC := c77_2
def d77 : FD := { nargs := 1, body := c77, res := [.t 2] }
def c58_0 : AC := .out [0] (.reg [0] [w 2 (.asg (.c U2 0))])
def c58_1 : AC := .out [0, 11] (.reg [0] [m 4 0,w 5 (.bin .eql 4 (.c .str [])),m 6 5,⟨some 7, .mv 0, some (6, false)⟩,⟨some 8, .indexS 7 (.c U2 0), some (6, false)⟩,⟨some 9, .call 76 [8], some (6, false)⟩,⟨some 10, .un .not 9, some (6, false)⟩,w 11 (.pick 6 (.c .bool true) 10)])
def c58_2 : AC := .out [2] (.reg [] [w 2 (.asg (.c U2 0))])
def c58_3 : AC := .out [0, 2] (.cond (.t 11) (.seq c58_2 .ret) .skip)
def c58_4 : AC := .out [0, 3] (.reg [0] [w 3 (.asg (.c U2 1))])
def c58_5 : AC := .out [0, 3, 15] (.reg [0, 3] [m 12 3,m 13 0,w 14 (.lenS 13),w 15 (.bin .lss 12 14)])
def c58_6 : AC := .out [0, 3] (.cond (.t 15) .skip (.exit 0))
def c58_7 : AC := .out [0, 3, 25] (.reg [0, 3] [m 16 0,m 17 3,w 18 (.indexS 16 17),w 19 (.call 76 [18]),m 20 19,⟨some 21, .mv 0, some (20, false)⟩,⟨some 22, .mv 3, some (20, false)⟩,⟨some 23, .indexS 21 22, some (20, false)⟩,⟨some 24, .call 77 [23], some (20, false)⟩,w 25 (.pick 20 (.c .bool true) 24)])
def c58_8 : AC := .out [0, 3] (.reg [0, 3] [m 26 3,w 27 (.bin .add 26 (.c U2 1)),w 3 (.asg 27)])
def c58_9 : AC := .out [0, 3] (.cond (.t 25) (.seq c58_8 (.exit 1)) .skip)
def c58_10 : AC := .out [0, 3, 54] (.reg [0, 3] [m 28 0,m 29 3,w 30 (.indexS 28 29),w 31 (.bin .neq 30 (.c U1 45)),m 32 31,⟨some 33, .mv 3, some (32, false)⟩,⟨some 34, .bin .add 33 (.c U2 1), some (32, false)⟩,⟨some 35, .mv 0, some (32, false)⟩,⟨some 36, .lenS 35, some (32, false)⟩,⟨some 37, .bin .eql 34 36, some (32, false)⟩,w 38 (.pick 32 (.c .bool true) 37),m 39 38,⟨some 40, .mv 0, some (39, false)⟩,⟨some 41, .mv 3, some (39, false)⟩,⟨some 42, .bin .add 41 (.c U2 1), some (39, false)⟩,⟨some 43, .indexS 40 42, some (39, false)⟩,⟨some 44, .call 76 [43], some (39, false)⟩,⟨some 45, .un .not 44, some (39, false)⟩,⟨some 46, .mv 45, some (39, false)⟩,⟨some 47, .mv 0, some (46, true)⟩,⟨some 48, .mv 3, some (46, true)⟩,⟨some 49, .bin .add 48 (.c U2 1), some (46, true)⟩,⟨some 50, .indexS 47 49, some (46, true)⟩,⟨some 51, .call 77 [50], some (46, true)⟩,⟨some 52, .un .not 51, some (46, true)⟩,⟨some 53, .pick 46 52 (.c .bool false), some (39, false)⟩,w 54 (.pick 39 (.c .bool true) 53)])
def c58_11 : AC := .out [0, 3] (.cond (.t 54) (.exit 0) .skip)
def c58_12 : AC := .out [0, 3] (.reg [0, 3] [m 55 3,w 56 (.bin .add 55 (.c U2 2)),w 3 (.asg 56)])
def c58_13 : AC := .out [0, 3] (.block 1 (.seq (.seq c58_7 c58_9) (.seq (.seq c58_10 c58_11) c58_12)))
def c58_14 : AC := (.seq (.seq c58_5 c58_6) c58_13)
def c58_15 : AC := .out [3] (.loop [0, 3] c58_14)
def c58_16 : AC := .out [3] (.block 0 c58_15)
def c58_17 : AC := .out [2] (.reg [3] [m 57 3,w 2 (.asg 57)])
def c58_18 : AC := (.seq c58_0 (.seq (.seq c58_1 c58_3) (.seq c58_4 (.seq c58_16 (.seq c58_17 .ret)))))
def c58 : AC := c58_18
def d58 : FD := { nargs := 1, body := c58, res := [.t 2] }
def c40_0 : AC := .out [0] (.reg [0] [w 2 (.asg (.c .bool false))])
def c40_1 : AC := .out [2] (.reg [0] [m 3 0,w 4 (.bin .neq 3 (.c .str [])),m 5 4,⟨some 6, .mv 0, some (5, true)⟩,⟨some 7, .lenS 6, some (5, true)⟩,⟨some 8, .bin .leq 7 (.c U2 20), some (5, true)⟩,w 9 (.pick 5 8 (.c .bool false)),m 10 9,⟨some 11, .mv 0, some (10, true)⟩,⟨some 12, .call 58 [11], some (10, true)⟩,⟨some 13, .mv 0, some (10, true)⟩,⟨some 14, .lenS 13, some (10, true)⟩,⟨some 15, .bin .eql 12 14, some (10, true)⟩,w 16 (.pick 10 15 (.c .bool false)),w 2 (.asg 16)])
def c40_2 : AC := (.seq c40_0 (.seq c40_1 .ret))
def c40 : AC := c40_2
def d40 : FD := { nargs := 1, body := c40, res := [.t 2] }
def c78_0 : AC := .out [0] (.reg [0] [w 2 (.asg (.c .str []))])
def c78_1 : AC := .out [0, 3] (.reg [0] [m 5 0,w 6 (.lenS 5),w 7 (.mkSlice 5 U1 140737488355328 6 6),w 3 (.asg 7)])
def c78_2 : AC := .out [0, 3, 4] (.reg [0, 3] [w 4 (.asg (.c U2 0))])
def c78_3 : AC := .out [0, 3, 4, 11] (.reg [0, 3, 4] [m 8 4,m 9 0,w 10 (.lenS 9),w 11 (.bin .lss 8 10)])
def c78_4 : AC := .out [0, 3, 4] (.cond (.t 11) .skip (.exit 0))
def c78_5 : AC := .out [0, 3, 4] (.reg [0, 3, 4] [m 14 3,m 15 4,m 16 0,m 17 4,w 18 (.indexS 16 17),w 19 (.indexAddr U1 14 15),⟨none, .store U1 19 18, none⟩])
def c78_6 : AC := .out [0, 3, 4, 29] (.reg [0, 3, 4] [m 20 0,m 21 4,w 22 (.indexS 20 21),w 23 (.bin .geq 22 (.c U1 65)),m 24 23,⟨some 25, .mv 0, some (24, true)⟩,⟨some 26, .mv 4, some (24, true)⟩,⟨some 27, .indexS 25 26, some (24, true)⟩,⟨some 28, .bin .leq 27 (.c U1 90), some (24, true)⟩,w 29 (.pick 24 28 (.c .bool false))])
def c78_7 : AC := .out [0, 3, 4] (.reg [0, 3, 4] [m 30 3,m 31 4,m 32 0,m 33 4,w 34 (.indexS 32 33),w 35 (.bin .sub 34 (.c U1 65)),w 36 (.bin .add 35 (.c U1 97)),w 37 (.indexAddr U1 30 31),⟨none, .store U1 37 36, none⟩])
def c78_8 : AC := .out [0, 3, 4] (.cond (.t 29) c78_7 .skip)
def c78_9 : AC := .out [0, 3, 4] (.block 1 (.seq c78_5 (.seq c78_6 c78_8)))
def c78_10 : AC := .out [0, 3, 4] (.reg [0, 3, 4] [m 12 4,w 13 (.bin .add 12 (.c U2 1)),w 4 (.asg 13)])
def c78_11 : AC := (.seq (.seq c78_3 c78_4) (.seq c78_9 c78_10))
def c78_12 : AC := .out [3] (.loop [0, 3, 4] c78_11)
def c78_13 : AC := .out [3] (.block 0 c78_12)
def c78_14 : AC := .out [2] (.reg [3] [m 38 3,w 39 (.toStr 38),w 2 (.asg 39)])
def c78_15 : AC := (.seq c78_0 (.seq c78_1 (.seq (.seq c78_2 c78_13) (.seq c78_14 .ret))))
def c78 : AC := c78_15
def d78 : FD := { nargs := 1, body := c78, res := [.t 2] }
def c79_0 : AC := .out [0] (.reg [0] [w 2 (.asg (.c .bool false))])
def c79_1 : AC := .out [0, 9] (.reg [0] [m 4 0,w 5 (.bin .lss 4 (.c U1 32)),m 6 5,⟨some 7, .mv 0, some (6, false)⟩,⟨some 8, .bin .gtr 7 (.c U1 126), some (6, false)⟩,w 9 (.pick 6 (.c .bool true) 8)])
def c79_2 : AC := .out [2] (.reg [] [w 2 (.asg (.c .bool false))])
def c79_3 : AC := .out [0, 2] (.cond (.t 9) (.seq c79_2 .ret) .skip)
def c79_4 : AC := .out [0, 3] (.reg [0] [w 3 (.asg (.c U2 0))])
def c79_5 : AC := .out [0, 3, 11] (.reg [0, 3] [m 10 3,w 11 (.bin .lss 10 (.c U2 15))])
def c79_6 : AC := .out [0, 3] (.cond (.t 11) .skip (.exit 0))
def c79_7 : AC := .out [0, 3, 17] (.reg [0, 3] [m 14 3,w 15 (.indexS (.c .str [32, 46, 44, 59, 58, 33, 63, 34, 45, 91, 93, 60, 62, 123, 125]) 14),m 16 0,w 17 (.bin .eql 15 16)])
def c79_8 : AC := .out [2] (.reg [] [w 2 (.asg (.c .bool false))])
def c79_9 : AC := .out [0, 2, 3] (.cond (.t 17) (.seq c79_8 .ret) .skip)
def c79_10 : AC := .out [0, 2, 3] (.block 1 (.seq c79_7 c79_9))
def c79_11 : AC := .out [0, 3] (.reg [0, 3] [m 12 3,w 13 (.bin .add 12 (.c U2 1)),w 3 (.asg 13)])
def c79_12 : AC := (.seq (.seq c79_5 c79_6) (.seq c79_10 c79_11))
def c79_13 : AC := .out [2] (.loop [0, 3] c79_12)
def c79_14 : AC := .out [2] (.block 0 c79_13)
def c79_15 : AC := .out [2] (.reg [] [w 2 (.asg (.c .bool true))])
def c79_16 : AC := (.seq c79_0 (.seq (.seq c79_1 c79_3) (.seq (.seq c79_4 c79_14) (.seq c79_15 .ret))))
def c79 : AC := c79_16
def d79 : FD := { nargs := 1, body := c79, res := [.t 2] }
def c59_0 : AC := .out [0] (.reg [0] [w 2 (.asg (.c U2 0))])
def c59_1 : AC := .out [0, 6] (.reg [0] [m 4 0,w 5 (.lenS 4),w 6 (.bin .gtr 5 (.c U2 16))])
def c59_2 : AC := .out [2] (.reg [] [w 2 (.asg (.c U2 3))])
def c59_3 : AC := .out [0, 2] (.cond (.t 6) (.seq c59_2 .ret) .skip)
def c59_4 : AC := .out [0, 14] (.reg [0] [m 7 0,w 8 (.bin .eql 7 (.c .str [])),m 9 8,⟨some 10, .mv 0, some (9, false)⟩,⟨some 11, .call 78 [10], some (9, false)⟩,⟨some 12, .mv 0, some (9, false)⟩,⟨some 13, .bin .neq 11 12, some (9, false)⟩,w 14 (.pick 9 (.c .bool true) 13)])
def c59_5 : AC := .out [2] (.reg [] [w 2 (.asg (.c U2 2))])
def c59_6 : AC := .out [0, 2] (.cond (.t 14) (.seq c59_5 .ret) .skip)
def c59_7 : AC := .out [0, 3] (.reg [0] [w 3 (.asg (.c U2 0))])
def c59_8 : AC := .out [0, 3, 18] (.reg [0, 3] [m 15 3,m 16 0,w 17 (.lenS 16),w 18 (.bin .lss 15 17)])
def c59_9 : AC := .out [0, 3] (.cond (.t 18) .skip (.exit 0))
def c59_10 : AC := .out [0, 3, 25] (.reg [0, 3] [m 21 0,m 22 3,w 23 (.indexS 21 22),w 24 (.call 79 [23]),w 25 (.un .not 24)])
def c59_11 : AC := .out [2] (.reg [] [w 2 (.asg (.c U2 2))])
def c59_12 : AC := .out [0, 2, 3] (.cond (.t 25) (.seq c59_11 .ret) .skip)
def c59_13 : AC := .out [0, 2, 3] (.block 1 (.seq c59_10 c59_12))
def c59_14 : AC := .out [0, 3] (.reg [0, 3] [m 19 3,w 20 (.bin .add 19 (.c U2 1)),w 3 (.asg 20)])
def c59_15 : AC := (.seq (.seq c59_8 c59_9) (.seq c59_13 c59_14))
def c59_16 : AC := .out [2] (.loop [0, 3] c59_15)
def c59_17 : AC := .out [2] (.block 0 c59_16)
def c59_18 : AC := .out [2] (.reg [] [w 2 (.asg (.c U2 0))])
def c59_19 : AC := (.seq c59_0 (.seq (.seq c59_1 c59_3) (.seq (.seq c59_4 c59_6) (.seq (.seq c59_7 c59_17) (.seq c59_18 .ret)))))
def c59 : AC := c59_19
def d59 : FD := { nargs := 1, body := c59, res := [.t 2] }
def c60_0 : AC := .out [0, 1] (.reg [0, 1] [w 4 (.asg (.c .bool false))])
def c60_1 : AC := .out [0, 1, 5] (.reg [0, 1] [w 5 (.asg (.c U2 0))])
def c60_2 : AC := .out [0, 1, 5, 9] (.reg [0, 1, 5] [m 6 5,m 7 0,w 8 (.lenL 7),w 9 (.bin .lss 6 8)])
def c60_3 : AC := .out [0, 1, 5] (.cond (.t 9) .skip (.exit 0))
def c60_4 : AC := .out [0, 1, 5, 17] (.reg [0, 1, 5] [m 12 0,m 13 5,w 14 (.indexAddr .str 12 13),w 15 (.load .str 14),m 16 1,w 17 (.bin .eql 15 16)])
def c60_5 : AC := .out [4] (.reg [] [w 4 (.asg (.c .bool true))])
def c60_6 : AC := .out [0, 1, 4, 5] (.cond (.t 17) (.seq c60_5 .ret) .skip)
def c60_7 : AC := .out [0, 1, 4, 5] (.block 1 (.seq c60_4 c60_6))
def c60_8 : AC := .out [0, 1, 5] (.reg [0, 1, 5] [m 10 5,w 11 (.bin .add 10 (.c U2 1)),w 5 (.asg 11)])
def c60_9 : AC := (.seq (.seq c60_2 c60_3) (.seq c60_7 c60_8))
def c60_10 : AC := .out [4] (.loop [0, 1, 5] c60_9)
def c60_11 : AC := .out [4] (.block 0 c60_10)
def c60_12 : AC := .out [4] (.reg [] [w 4 (.asg (.c .bool false))])
def c60_13 : AC := (.seq c60_0 (.seq (.seq c60_1 c60_11) (.seq c60_12 .ret)))
def c60 : AC := c60_13
def d60 : FD := { nargs := 2, body := c60, res := [.t 4] }
def c41_0 : AC := .out [1] (.reg [0] [w 1 (.box U21 0),w 2 (.asg (.c U2 0))])
def c41_1 : AC := .out [1, 22] (.reg [1] [w 5 (.fieldAddr U21 [.l] 1),w 6 (.load U2 5),w 7 (.bin .lss 6 (.c U2 1)),m 8 7,⟨some 9, .fieldAddr U21 [.l] 1, some (8, false)⟩,⟨some 10, .load U2 9, some (8, false)⟩,⟨some 11, .bin .gtr 10 (.c U2 12), some (8, false)⟩,w 12 (.pick 8 (.c .bool true) 11),m 13 12,⟨some 14, .fieldAddr U21 [.r, .l] 1, some (13, false)⟩,⟨some 15, .load U2 14, some (13, false)⟩,⟨some 16, .bin .lss 15 (.c U2 0), some (13, false)⟩,w 17 (.pick 13 (.c .bool true) 16),m 18 17,⟨some 19, .fieldAddr U21 [.r, .l] 1, some (18, false)⟩,⟨some 20, .load U2 19, some (18, false)⟩,⟨some 21, .bin .gtr 20 (.c U2 999), some (18, false)⟩,w 22 (.pick 18 (.c .bool true) 21)])
def c41_2 : AC := .out [2] (.reg [] [w 2 (.asg (.c U2 6))])
def c41_3 : AC := .out [1, 2] (.cond (.t 22) (.seq c41_2 .ret) .skip)
def c41_4 : AC := .out [1, 26] (.reg [1] [w 23 (.fieldAddr U21 [.r, .r, .l] 1),w 24 (.load U0 23),w 25 (.lenL 24),w 26 (.bin .gtr 25 (.c U2 20))])
def c41_5 : AC := .out [2] (.reg [] [w 2 (.asg (.c U2 3))])
def c41_6 : AC := .out [1, 2] (.cond (.t 26) (.seq c41_5 .ret) .skip)
def c41_7 : AC := .out [1, 3] (.reg [1] [w 3 (.asg (.c U2 0))])
def c41_8 : AC := .out [1, 3, 31] (.reg [1, 3] [m 27 3,w 28 (.fieldAddr U21 [.r, .r, .l] 1),w 29 (.load U0 28),w 30 (.lenL 29),w 31 (.bin .lss 27 30)])
def c41_9 : AC := .out [1, 3] (.cond (.t 31) .skip (.exit 0))
def c41_10 : AC := .out [1, 3, 4] (.reg [1, 3] [w 34 (.fieldAddr U21 [.r, .r, .l] 1),w 35 (.load U0 34),m 36 3,w 37 (.indexAddr .str 35 36),w 38 (.load .str 37),w 39 (.call 59 [38]),w 4 (.asg 39)])
def c41_11 : AC := .out [1, 3, 4, 41] (.reg [1, 3, 4] [m 40 4,w 41 (.bin .neq 40 (.c U2 0))])
def c41_12 : AC := .out [2] (.reg [4] [m 42 4,w 2 (.asg 42)])
def c41_13 : AC := .out [1, 2, 3] (.cond (.t 41) (.seq c41_12 .ret) .skip)
def c41_14 : AC := .out [1, 3, 52] (.draw [1, 3] [⟨w 43 (.fieldAddr U21 [.r, .r, .l] 1), [45, 47, 48, 49, 50, 51], [43], [], false, []⟩,⟨w 44 (.load U0 43), [45, 47, 48, 49, 50, 51], [44], [0], false, []⟩,⟨m 45 3, [43, 44, 47, 48, 49, 50, 51], [45], [], false, []⟩,⟨w 46 (.sliceL .str 44 none (some 45) none), [47, 48, 49, 50, 51], [46], [0, 1, 2], false, []⟩,⟨w 47 (.fieldAddr U21 [.r, .r, .l] 1), [43, 44, 45, 46, 49], [47], [], false, []⟩,⟨w 48 (.load U0 47), [43, 44, 45, 46, 49], [48], [4], false, []⟩,⟨m 49 3, [43, 44, 45, 46, 47, 48], [49], [], false, []⟩,⟨w 50 (.indexAddr .str 48 49), [43, 44, 45, 46], [50], [4, 5, 6], false, []⟩,⟨w 51 (.load .str 50), [43, 44, 45, 46], [51], [4, 5, 6, 7], false, []⟩,⟨w 52 (.call 60 [46, 51]), [], [52], [0, 1, 2, 3, 4, 5, 6, 7, 8], false, []⟩])
def c41_15 : AC := .out [2] (.reg [] [w 2 (.asg (.c U2 5))])
def c41_16 : AC := .out [1, 2, 3] (.cond (.t 52) (.seq c41_15 .ret) .skip)
def c41_17 : AC := .out [1, 2, 3] (.block 1 (.seq (.seq c41_10 (.seq c41_11 c41_13)) (.seq c41_14 c41_16)))
def c41_18 : AC := .out [1, 3] (.reg [1, 3] [m 32 3,w 33 (.bin .add 32 (.c U2 1)),w 3 (.asg 33)])
def c41_19 : AC := (.seq (.seq c41_8 c41_9) (.seq c41_17 c41_18))
def c41_20 : AC := .out [2] (.loop [1, 3] c41_19)
def c41_21 : AC := .out [2] (.block 0 c41_20)
def c41_22 : AC := .out [2] (.reg [] [w 2 (.asg (.c U2 0))])
def c41_23 : AC := (.seq c41_0 (.seq (.seq c41_1 c41_3) (.seq (.seq c41_4 c41_6) (.seq (.seq c41_7 c41_21) (.seq c41_22 .ret)))))
def c41 : AC := c41_23
def d41 : FD := { nargs := 1, body := c41, res := [.t 2] }
def c12_0 : AC := .out [1] (.reg [0] [w 1 (.box U28 0),w 2 (.asg (.c U2 0))])
def c12_1 : AC := .out [1, 8] (.reg [1] [w 5 (.fieldAddr U28 [.l] 1),w 6 (.load .str 5),w 7 (.call 40 [6]),w 8 (.un .not 7)])
def c12_2 : AC := .out [2] (.reg [] [w 2 (.asg (.c U2 2))])
def c12_3 : AC := .out [1, 2] (.cond (.t 8) (.seq c12_2 .ret) .skip)
def c12_4 : AC := .out [1, 12] (.reg [1] [w 9 (.fieldAddr U28 [.r, .l] 1),w 10 (.load U23 9),w 11 (.lenL 10),w 12 (.bin .gtr 11 (.c U2 30))])
def c12_5 : AC := .out [2] (.reg [] [w 2 (.asg (.c U2 3))])
def c12_6 : AC := .out [1, 2] (.cond (.t 12) (.seq c12_5 .ret) .skip)
def c12_7 : AC := .out [1, 3] (.reg [1] [w 3 (.asg (.c U2 0))])
def c12_8 : AC := .out [1, 3, 17] (.reg [1, 3] [m 13 3,w 14 (.fieldAddr U28 [.r, .l] 1),w 15 (.load U23 14),w 16 (.lenL 15),w 17 (.bin .lss 13 16)])
def c12_9 : AC := .out [1, 3] (.cond (.t 17) .skip (.exit 0))
def c12_10 : AC := .out [1, 3, 4] (.reg [1, 3] [w 20 (.fieldAddr U28 [.r, .l] 1),w 21 (.load U23 20),m 22 3,w 23 (.indexAddr U21 21 22),w 24 (.load U21 23),w 25 (.call 41 [24]),w 4 (.asg 25)])
def c12_11 : AC := .out [1, 3, 4, 27] (.reg [1, 3, 4] [m 26 4,w 27 (.bin .neq 26 (.c U2 0))])
def c12_12 : AC := .out [2] (.reg [4] [m 28 4,w 2 (.asg 28)])
def c12_13 : AC := .out [1, 2, 3] (.cond (.t 27) (.seq c12_12 .ret) .skip)
def c12_14 : AC := .out [1, 2, 3] (.block 1 (.seq c12_10 (.seq c12_11 c12_13)))
def c12_15 : AC := .out [1, 3] (.reg [1, 3] [m 18 3,w 19 (.bin .add 18 (.c U2 1)),w 3 (.asg 19)])
def c12_16 : AC := (.seq (.seq c12_8 c12_9) (.seq c12_14 c12_15))
def c12_17 : AC := .out [2] (.loop [1, 3] c12_16)
def c12_18 : AC := .out [2] (.block 0 c12_17)
def c12_19 : AC := .out [2] (.reg [] [w 2 (.asg (.c U2 0))])
def c12_20 : AC := (.seq c12_0 (.seq (.seq c12_1 c12_3) (.seq (.seq c12_4 c12_6) (.seq (.seq c12_7 c12_18) (.seq c12_19 .ret)))))
def c12 : AC := c12_20
def d12 : FD := { nargs := 1, body := c12, res := [.t 2] }
def c18_0 : AC := .out [2, 3, 4] (.reg [0, 1] [w 2 (.box U28 0),w 3 (.box U28 1),w 4 (.alloc U28 (.pair .no (.pair (.own true 66 .no) .no))),w 5 (.asg (.c U2 0))])
def c18_1 : AC := .out [2, 3, 4, 6] (.reg [2, 3, 4] [w 8 (.load U28 2),w 9 (.call 12 [8]),w 6 (.asg 9)])
def c18_2 : AC := .out [2, 3, 4, 6, 11] (.reg [2, 3, 4, 6] [m 10 6,w 11 (.bin .neq 10 (.c U2 0))])
def c18_3 : AC := .out [4, 5] (.reg [4, 6] [w 12 (.buildN U28 (.pair .no (.pair (.own true 66 .no) .no)) []),m 13 6,⟨none, .store U28 4 12, none⟩,w 5 (.asg 13)])
def c18_4 : AC := .out [2, 3, 4, 5] (.cond (.t 11) (.seq c18_3 .ret) .skip)
def c18_5 : AC := .out [2, 3, 4, 7] (.reg [2, 3, 4] [w 14 (.load U28 3),w 15 (.call 12 [14]),w 7 (.asg 15)])
def c18_6 : AC := .out [2, 3, 4, 7, 17] (.reg [2, 3, 4, 7] [m 16 7,w 17 (.bin .neq 16 (.c U2 0))])
def c18_7 : AC := .out [4, 5] (.reg [4, 7] [w 18 (.buildN U28 (.pair .no (.pair (.own true 66 .no) .no)) []),m 19 7,⟨none, .store U28 4 18, none⟩,w 5 (.asg 19)])
def c18_8 : AC := .out [2, 3, 4, 5] (.cond (.t 17) (.seq c18_7 .ret) .skip)
def c18_9 : AC := .out [2, 3, 4, 27] (.reg [2, 3, 4] [w 20 (.fieldAddr U28 [.r, .l] 2),w 21 (.load U23 20),w 22 (.lenL 21),w 23 (.fieldAddr U28 [.r, .l] 3),w 24 (.load U23 23),w 25 (.lenL 24),w 26 (.bin .add 22 25),w 27 (.bin .gtr 26 (.c U2 30))])
def c18_10 : AC := .out [4, 5] (.reg [4] [w 28 (.buildN U28 (.pair .no (.pair (.own true 66 .no) .no)) []),⟨none, .store U28 4 28, none⟩,w 5 (.asg (.c U2 3))])
def c18_11 : AC := .out [2, 3, 4, 5] (.cond (.t 27) (.seq c18_10 .ret) .skip)
def c18_12 : AC := .out [4, 5] (.draw [2, 3, 4] [⟨w 29 (.fieldAddr U28 [.l] 2), [31, 32, 33, 34, 35, 36, 37], [29], [], false, [31, 34]⟩,⟨w 30 (.load .str 29), [31, 32, 33, 34, 35, 36, 37], [30], [0], false, [31, 34]⟩,⟨w 31 (.buildSlice 66 U21 []), [29, 30, 32, 33, 35, 36], [31], [], false, [31, 34]⟩,⟨w 32 (.fieldAddr U28 [.r, .l] 2), [29, 30, 31, 35, 36], [32], [], false, [31, 34]⟩,⟨w 33 (.load U23 32), [29, 30, 31, 35, 36], [33], [3], false, [31, 34]⟩,⟨w 34 (.append 66 U21 3518437208883 31 33), [29, 30, 35, 36], [31, 34], [2, 3, 4], false, [31, 34]⟩,⟨w 35 (.fieldAddr U28 [.r, .l] 3), [29, 30, 31, 32, 33, 34], [35], [], false, [31, 34]⟩,⟨w 36 (.load U23 35), [29, 30, 31, 32, 33, 34], [36], [6], false, [31, 34]⟩,⟨w 37 (.append 66 U21 3518437208883 34 36), [29, 30], [34, 37], [2, 3, 4, 5, 6, 7], false, [31, 34]⟩,⟨w 38 (.build U28 [([.l], 30), ([.r, .l], 37)]), [], [38], [0, 1, 2, 3, 4, 5, 6, 7, 8], true, [31, 34]⟩,⟨⟨none, .store U28 4 38, none⟩, [], [4], [0, 1, 2, 3, 4, 5, 6, 7, 8, 9], true, [31, 34]⟩,⟨w 5 (.asg (.c U2 0)), [], [5], [0, 1, 2, 3, 4, 5, 6, 7, 8, 9, 10], false, [31, 34]⟩])
def c18_13 : AC := (.seq c18_0 (.seq (.seq c18_1 (.seq c18_2 c18_4)) (.seq (.seq c18_5 (.seq c18_6 c18_8)) (.seq (.seq c18_9 c18_11) (.seq c18_12 .ret)))))
def c18 : AC := c18_13
def d18 : FD := { nargs := 2, body := c18, res := [.cell 4 U28, .t 5] }
def c86_0 : AC := .out [0] (.reg [0] [w 2 (.asg (.c .bool false))])
def c86_1 : AC := .out [2] (.reg [0] [m 3 0,w 4 (.bin .geq 3 (.c U1 97)),m 5 4,⟨some 6, .mv 0, some (5, true)⟩,⟨some 7, .bin .leq 6 (.c U1 122), some (5, true)⟩,w 8 (.pick 5 7 (.c .bool false)),w 2 (.asg 8)])
def c86_2 : AC := (.seq c86_0 (.seq c86_1 .ret))
def c86 : AC := c86_2
def d86 : FD := { nargs := 1, body := c86, res := [.t 2] }
def c87_0 : AC := .out [0] (.reg [0] [w 2 (.asg (.c .bool false))])
def c87_1 : AC := .out [2] (.reg [0] [m 3 0,w 4 (.bin .geq 3 (.c U1 48)),m 5 4,⟨some 6, .mv 0, some (5, true)⟩,⟨some 7, .bin .leq 6 (.c U1 57), some (5, true)⟩,w 8 (.pick 5 7 (.c .bool false)),w 2 (.asg 8)])
def c87_2 : AC := (.seq c87_0 (.seq c87_1 .ret))
def c87 : AC := c87_2
def d87 : FD := { nargs := 1, body := c87, res := [.t 2] }
def c72_0 : AC := .out [0] (.reg [0] [w 2 (.asg (.c U2 0))])
def c72_1 : AC := .out [0, 12] (.reg [0] [m 5 0,w 6 (.bin .eql 5 (.c .str [])),m 7 6,⟨some 8, .mv 0, some (7, false)⟩,⟨some 9, .indexS 8 (.c U2 0), some (7, false)⟩,⟨some 10, .call 86 [9], some (7, false)⟩,⟨some 11, .un .not 10, some (7, false)⟩,w 12 (.pick 7 (.c .bool true) 11)])
def c72_2 : AC := .out [2] (.reg [] [w 2 (.asg (.c U2 0))])
def c72_3 : AC := .out [0, 2] (.cond (.t 12) (.seq c72_2 .ret) .skip)
def c72_4 : AC := .out [0, 3] (.reg [0] [w 3 (.asg (.c U2 1))])
def c72_5 : AC := .out [0, 3, 16] (.reg [0, 3] [m 13 3,m 14 0,w 15 (.lenS 14),w 16 (.bin .lss 13 15)])
def c72_6 : AC := .out [0, 3] (.cond (.t 16) .skip (.exit 0))
def c72_7 : AC := .out [0, 3, 4] (.reg [0, 3] [m 17 0,m 18 3,w 19 (.indexS 17 18),w 4 (.asg 19)])
def c72_8 : AC := .out [0, 3, 4, 21] (.reg [0, 3, 4] [m 22 4,w 23 (.call 86 [22]),m 24 23,⟨some 25, .mv 4, some (24, false)⟩,⟨some 26, .call 87 [25], some (24, false)⟩,w 27 (.pick 24 (.c .bool true) 26),w 21 (.asg 27)])
def c72_9 : AC := .out [0, 3] (.reg [0, 3] [m 28 3,w 29 (.bin .add 28 (.c U2 1)),w 3 (.asg 29)])
def c72_10 : AC := .out [0, 3, 30] (.reg [0, 3, 4] [m 31 4,w 32 (.bin .eql 31 (.c U1 45)),m 33 32,⟨some 34, .mv 3, some (33, true)⟩,⟨some 35, .bin .add 34 (.c U2 1), some (33, true)⟩,⟨some 36, .mv 0, some (33, true)⟩,⟨some 37, .lenS 36, some (33, true)⟩,⟨some 38, .bin .lss 35 37, some (33, true)⟩,w 39 (.pick 33 38 (.c .bool false)),m 40 39,⟨some 41, .mv 0, some (40, true)⟩,⟨some 42, .mv 3, some (40, true)⟩,⟨some 43, .bin .add 42 (.c U2 1), some (40, true)⟩,⟨some 44, .indexS 41 43, some (40, true)⟩,⟨some 45, .call 86 [44], some (40, true)⟩,⟨some 46, .mv 45, some (40, true)⟩,⟨some 47, .mv 0, some (46, false)⟩,⟨some 48, .mv 3, some (46, false)⟩,⟨some 49, .bin .add 48 (.c U2 1), some (46, false)⟩,⟨some 50, .indexS 47 49, some (46, false)⟩,⟨some 51, .call 87 [50], some (46, false)⟩,⟨some 52, .pick 46 (.c .bool true) 51, some (40, true)⟩,w 53 (.pick 40 52 (.c .bool false)),w 30 (.asg 53)])
def c72_11 : AC := .out [0, 3] (.reg [0, 3] [m 54 3,w 55 (.bin .add 54 (.c U2 2)),w 3 (.asg 55)])
def c72_12 : AC := .out [2] (.reg [3] [m 20 3,w 2 (.asg 20)])
def c72_13 : AC := .out [0, 2, 3] (.cond (.t 30) c72_11 (.seq c72_12 .ret))
def c72_14 : AC := .out [0, 2, 3] (.cond (.t 21) c72_9 (.seq c72_10 c72_13))
def c72_15 : AC := .out [0, 2, 3] (.block 2 (.seq c72_8 c72_14))
def c72_16 : AC := .out [0, 2, 3] (.block 1 (.seq c72_7 c72_15))
def c72_17 : AC := (.seq (.seq c72_5 c72_6) c72_16)
def c72_18 : AC := .out [2, 3] (.loop [0, 3] c72_17)
def c72_19 : AC := .out [2, 3] (.block 0 c72_18)
def c72_20 : AC := .out [2] (.reg [3] [m 56 3,w 2 (.asg 56)])
def c72_21 : AC := (.seq c72_0 (.seq (.seq c72_1 c72_3) (.seq c72_4 (.seq c72_19 (.seq c72_20 .ret)))))
def c72 : AC := c72_21
def d72 : FD := { nargs := 1, body := c72, res := [.t 2] }
def c53_0 : AC := .out [0] (.reg [0] [w 2 (.asg (.c .bool false))])
def c53_1 : AC := .out [2] (.reg [0] [m 3 0,w 4 (.bin .neq 3 (.c .str [])),m 5 4,⟨some 6, .mv 0, some (5, true)⟩,⟨some 7, .lenS 6, some (5, true)⟩,⟨some 8, .bin .leq 7 (.c U2 20), some (5, true)⟩,w 9 (.pick 5 8 (.c .bool false)),m 10 9,⟨some 11, .mv 0, some (10, true)⟩,⟨some 12, .call 72 [11], some (10, true)⟩,⟨some 13, .mv 0, some (10, true)⟩,⟨some 14, .lenS 13, some (10, true)⟩,⟨some 15, .bin .eql 12 14, some (10, true)⟩,w 16 (.pick 10 15 (.c .bool false)),w 2 (.asg 16)])
def c53_2 : AC := (.seq c53_0 (.seq c53_1 .ret))
def c53 : AC := c53_2
def d53 : FD := { nargs := 1, body := c53, res := [.t 2] }
def c104_0 : AC := .out [0, 1] (.reg [0, 1] [w 4 (.asg (.c U2 0))])
def c104_1 : AC := .out [4] (.reg [0, 1] [m 5 0,m 6 1,w 7 (.call 109 [5, 6]),w 4 (.asg 7)])
def c104_2 : AC := (.seq c104_0 (.seq c104_1 .ret))
def c104 : AC := c104_2
def d104 : FD := { nargs := 2, body := c104, res := [.t 4] }
def c99_0 : AC := .out [0] (.reg [0] [w 2 (.asg (.c .bool false))])
def c99_1 : AC := .out [2] (.reg [0] [m 3 0,w 4 (.bin .geq 3 (.c U1 32)),m 5 4,⟨some 6, .mv 0, some (5, true)⟩,⟨some 7, .bin .leq 6 (.c U1 126), some (5, true)⟩,w 8 (.pick 5 7 (.c .bool false)),m 9 8,⟨some 10, .mv 0, some (9, true)⟩,⟨some 11, .call 104 [(.c .str [32, 46, 44, 59, 58, 33, 63, 34, 45, 91, 93, 60, 62, 123, 125]), 10], some (9, true)⟩,⟨some 12, .bin .lss 11 (.c U2 0), some (9, true)⟩,w 13 (.pick 9 12 (.c .bool false)),w 2 (.asg 13)])
def c99_2 : AC := (.seq c99_0 (.seq c99_1 .ret))
def c99 : AC := c99_2
def d99 : FD := { nargs := 1, body := c99, res := [.t 2] }
def c98_0 : AC := .out [0] (.reg [0] [w 2 (.asg (.c .bool false))])
def c98_1 : AC := .out [2] (.reg [0] [m 3 0,w 4 (.call 99 [3]),w 5 (.un .not 4),w 2 (.asg 5)])
def c98_2 : AC := (.seq c98_0 (.seq c98_1 .ret))
def c98 : AC := c98_2
def d98 : FD := { nargs := 1, body := c98, res := [.t 2] }
def c103_0 : AC := .out [0, 1] (.reg [0, 1] [w 4 (.asg (.c U2 0))])
def c103_1 : AC := .out [0, 1, 7, 8] (.reg [0, 1] [m 6 0,w 7 (.lenL 6),w 8 (.mv (.c U2 0))])
def c103_2 : AC := .out [0, 1, 7, 8, 9] (.reg [0, 1, 7, 8] [w 9 (.bin .lss 8 7)])
def c103_3 : AC := .out [0, 1, 7, 8] (.cond (.t 9) .skip (.exit 0))
def c103_4 : AC := .out [0, 1, 5, 7, 8] (.reg [0, 1, 7, 8] [m 10 8,w 5 (.asg 10)])
def c103_5 : AC := .out [0, 1, 5, 7, 8, 16] (.reg [0, 1, 5, 7, 8] [m 11 1,m 12 0,m 13 5,w 14 (.indexAddr U1 12 13),w 15 (.load U1 14),w 16 (.callv 11 [15])])
def c103_6 : AC := .out [4] (.reg [5] [m 17 5,w 4 (.asg 17)])
def c103_7 : AC := .out [0, 1, 4, 7, 8] (.cond (.t 16) (.seq c103_6 .ret) .skip)
def c103_8 : AC := .out [0, 1, 4, 7, 8] (.block 1 (.seq c103_4 (.seq c103_5 c103_7)))
def c103_9 : AC := .out [0, 1, 7, 8] (.reg [0, 1, 7, 8] [w 18 (.bin .add 8 (.c U2 1)),m 8 18])
def c103_10 : AC := (.seq c103_2 (.seq c103_3 (.seq c103_8 c103_9)))
def c103_11 : AC := .out [4] (.loop [0, 1, 7, 8] c103_10)
def c103_12 : AC := .out [4] (.block 0 c103_11)
def c103_13 : AC := .out [4] (.reg [] [w 4 (.asg (.c U2 (-1)))])
def c103_14 : AC := (.seq c103_0 (.seq (.seq c103_1 c103_12) (.seq c103_13 .ret)))
def c103 : AC := c103_14
def d103 : FD := { nargs := 2, body := c103, res := [.t 4] }
def c97_0 : AC := .out [0, 1] (.reg [0, 1] [w 4 (.asg (.c .bool false))])
def c97_1 : AC := .out [4] (.reg [0, 1] [m 5 0,m 6 1,w 7 (.call 103 [5, 6]),w 8 (.bin .geq 7 (.c U2 0)),w 4 (.asg 8)])
def c97_2 : AC := (.seq c97_0 (.seq c97_1 .ret))
def c97 : AC := c97_2
def d97 : FD := { nargs := 2, body := c97, res := [.t 4] }
def c100_0 : AC := .out [0, 1] (.reg [0, 1] [w 4 (.asg (.c .str []))])
def c100_1 : AC := .out [0, 1, 12] (.reg [0, 1] [m 11 0,w 12 (.lenL 11)])
def c100_2 : AC := .out [0, 1, 12, 13] (.reg [0, 1, 12] [w 14 (.bin .eql 12 (.c U2 0)),w 13 (.asg 14)])
def c100_3 : AC := .out [4] (.reg [] [w 4 (.asg (.c .str []))])
def c100_4 : AC := .out [0, 1, 15] (.reg [0, 1, 12] [w 16 (.bin .eql 12 (.c U2 1)),w 15 (.asg 16)])
def c100_5 : AC := .out [4] (.reg [0] [m 17 0,w 18 (.indexAddr .str 17 (.c U2 0)),w 19 (.load .str 18),w 4 (.asg 19)])
def c100_6 : AC := .out [0, 1, 4] (.cond (.t 15) (.seq c100_5 .ret) .skip)
def c100_7 : AC := .out [0, 1, 4] (.cond (.t 13) (.seq c100_3 .ret) (.seq c100_4 c100_6))
def c100_8 : AC := .out [0, 1, 4] (.block 0 (.seq c100_2 c100_7))
def c100_9 : AC := .out [0, 1, 5] (.reg [0, 1] [w 5 (.asg (.c U2 0))])
def c100_10 : AC := .out [0, 1, 5, 22] (.reg [0, 1, 5] [m 20 1,w 21 (.lenS 20),w 22 (.bin .gtr 21 (.c U2 0))])
def c100_11 : AC := .out [0, 1, 5, 29] (.reg [0, 1, 5] [m 23 1,w 24 (.lenS 23),m 25 0,w 26 (.lenL 25),w 27 (.bin .sub 26 (.c U2 1)),w 28 (.bin .quo (.c U2 9223372036854775807) 27),w 29 (.bin .geq 24 28)])
def c100_12 : AC := .out [] (.reg [0, 1, 5] [w 30 (.bad),⟨none, .bad, none⟩])
def c100_13 : AC := .out [0, 1, 5] (.cond (.t 29) c100_12 .skip)
def c100_14 : AC := .out [0, 1, 5] (.reg [0, 1, 5] [m 31 5,m 32 1,w 33 (.lenS 32),m 34 0,w 35 (.lenL 34),w 36 (.bin .sub 35 (.c U2 1)),w 37 (.bin .mul 33 36),w 38 (.bin .add 31 37),w 5 (.asg 38)])
def c100_15 : AC := .out [0, 1, 5] (.cond (.t 22) (.seq (.seq c100_11 c100_13) c100_14) .skip)
def c100_16 : AC := (.seq c100_10 c100_15)
def c100_17 : AC := .out [0, 1, 5, 39, 40, 41] (.reg [0, 1, 5] [m 39 0,w 40 (.lenL 39),w 41 (.mv (.c U2 0))])
def c100_18 : AC := .out [0, 1, 5, 39, 40, 41, 42] (.reg [0, 1, 5, 39, 40, 41] [w 42 (.bin .lss 41 40)])
def c100_19 : AC := .out [0, 1, 5, 39, 40, 41] (.cond (.t 42) .skip (.exit 1))
def c100_20 : AC := .out [0, 1, 5, 7, 39, 40, 41] (.reg [0, 1, 5, 39, 40, 41] [w 43 (.indexAddr .str 39 41),w 44 (.load .str 43),w 7 (.asg 44)])
def c100_21 : AC := .out [0, 1, 5, 7, 39, 40, 41, 49] (.reg [0, 1, 5, 7, 39, 40, 41] [m 45 7,w 46 (.lenS 45),m 47 5,w 48 (.bin .sub (.c U2 9223372036854775807) 47),w 49 (.bin .gtr 46 48)])
def c100_22 : AC := .out [] (.reg [0, 1, 5, 7, 39, 40, 41] [w 50 (.bad),⟨none, .bad, none⟩])
def c100_23 : AC := .out [0, 1, 5, 7, 39, 40, 41] (.cond (.t 49) c100_22 .skip)
def c100_24 : AC := .out [0, 1, 5, 39, 40, 41] (.reg [0, 1, 5, 7, 39, 40, 41] [m 51 5,m 52 7,w 53 (.lenS 52),w 54 (.bin .add 51 53),w 5 (.asg 54)])
def c100_25 : AC := .out [0, 1, 5, 39, 40, 41] (.block 2 (.seq c100_20 (.seq (.seq c100_21 c100_23) c100_24)))
def c100_26 : AC := .out [0, 1, 5, 39, 40, 41] (.reg [0, 1, 5, 39, 40, 41] [w 55 (.bin .add 41 (.c U2 1)),m 41 55])
def c100_27 : AC := (.seq c100_18 (.seq c100_19 (.seq c100_25 c100_26)))
def c100_28 : AC := .out [0, 1, 5] (.loop [0, 1, 5, 39, 40, 41] c100_27)
def c100_29 : AC := .out [0, 1, 5] (.block 1 c100_28)
def c100_30 : AC := .out [] (.reg [0, 1, 5] [w 8 (.bad)])
def c100_45 : AC := (.seq c100_0 (.seq (.seq c100_1 c100_8) (.seq c100_9 (.seq c100_16 (.seq (.seq c100_17 c100_29) (.seq c100_30 (.seq (.out [] (.reg [] [m 56 5,w 57 (.call 105 [8, 56])])) (.seq (.out [] (.reg [] [m 58 0,w 59 (.indexAddr .str 58 (.c U2 0)),w 60 (.load .str 59),w 61 (.call 106 [8, 60])])) (.seq (.seq (.out [] (.reg [] [m 62 0,w 63 (.sliceL .str 62 (some (.c U2 1)) none none),w 64 (.lenL 63),w 65 (.mv (.c U2 0))])) (.out [] (.block 3 (.out [] (.loop [] (.seq (.out [] (.reg [] [w 66 (.bin .lss 65 64)])) (.seq (.out [] (.cond (.t 66) .skip (.exit 3))) (.seq (.out [] (.block 4 (.seq (.out [] (.reg [] [w 67 (.indexAddr .str 63 65),w 68 (.load .str 67),w 10 (.asg 68)])) (.seq (.out [] (.reg [] [m 69 1,w 70 (.call 106 [8, 69])])) (.out [] (.reg [] [m 71 10,w 72 (.call 106 [8, 71])])))))) (.out [] (.reg [] [w 73 (.bin .add 65 (.c U2 1)),m 65 73])))))))))) (.seq (.out [] (.reg [] [w 74 (.call 107 [8]),w 4 (.asg 74)])) .ret))))))))))
def c100 : AC := c100_45
def d100 : FD := { nargs := 2, body := c100, res := [.t 4] }
def c88_0 : AC := .out [0] (.reg [0] [w 2 (.asg (.c .str [])),w 3 (.asg (.c U2 0))])
def c88_1 : AC := .out [0, 7, 8, 9] (.reg [0] [m 7 0,w 8 (.lenL 7),w 9 (.mv (.c U2 0))])
def c88_2 : AC := .out [0, 7, 8, 9, 10] (.reg [0, 7, 8, 9] [w 10 (.bin .lss 9 8)])
def c88_3 : AC := .out [0, 7, 8, 9] (.cond (.t 10) .skip (.exit 0))
def c88_4 : AC := .out [0, 5, 7, 8, 9] (.reg [0, 7, 8, 9] [w 11 (.indexAddr .str 7 9),w 12 (.load .str 11),w 5 (.asg 12)])
def c88_5 : AC := .out [0, 5, 7, 8, 9, 14] (.reg [0, 5, 7, 8, 9] [m 13 5,w 14 (.bin .eql 13 (.c .str []))])
def c88_6 : AC := .out [2, 3] (.reg [] [w 2 (.asg (.c .str [])),w 3 (.asg (.c U2 7))])
def c88_7 : AC := .out [0, 2, 3, 5, 7, 8, 9] (.cond (.t 14) (.seq c88_6 .ret) .skip)
def c88_8 : AC := .out [0, 7, 8, 9, 17] (.reg [0, 5, 7, 8, 9] [m 15 5,w 16 (.toSl 15),w 17 (.call 97 [16, (.fn 98 U7 .bool)])])
def c88_9 : AC := .out [2, 3] (.reg [] [w 2 (.asg (.c .str [])),w 3 (.asg (.c U2 2))])
def c88_10 : AC := .out [0, 2, 3, 7, 8, 9] (.cond (.t 17) (.seq c88_9 .ret) .skip)
def c88_11 : AC := .out [0, 2, 3, 7, 8, 9] (.block 1 (.seq c88_4 (.seq (.seq c88_5 c88_7) (.seq c88_8 c88_10))))
def c88_12 : AC := .out [0, 7, 8, 9] (.reg [0, 7, 8, 9] [w 18 (.bin .add 9 (.c U2 1)),m 9 18])
def c88_13 : AC := (.seq c88_2 (.seq c88_3 (.seq c88_11 c88_12)))
def c88_14 : AC := .out [0, 2, 3] (.loop [0, 7, 8, 9] c88_13)
def c88_15 : AC := .out [0, 2, 3] (.block 0 c88_14)
def c88_16 : AC := .out [6] (.reg [0] [m 19 0,w 20 (.call 100 [19, (.c .str [32])]),w 6 (.asg 20)])
def c88_17 : AC := .out [6, 23] (.reg [6] [m 21 6,w 22 (.lenS 21),w 23 (.bin .gtr 22 (.c U2 120))])
def c88_18 : AC := .out [2, 3] (.reg [] [w 2 (.asg (.c .str [])),w 3 (.asg (.c U2 3))])
def c88_19 : AC := .out [2, 3, 6] (.cond (.t 23) (.seq c88_18 .ret) .skip)
def c88_20 : AC := .out [2, 3] (.reg [6] [m 24 6,w 2 (.asg 24),w 3 (.asg (.c U2 0))])
def c88_21 : AC := (.seq c88_0 (.seq (.seq c88_1 c88_15) (.seq c88_16 (.seq (.seq c88_17 c88_19) (.seq c88_20 .ret)))))
def c88 : AC := c88_21
def d88 : FD := { nargs := 1, body := c88, res := [.t 2, .t 3] }
def c56_0 : AC := .out [0] (.reg [0] [w 2 (.asg (.c .str []))])
def c56_1 : AC := .out [3] (.reg [0] [m 6 0,w 7 (.toSl 6),w 3 (.asg 7)])
def c56_2 : AC := .out [3, 8, 9, 10] (.reg [3] [m 8 3,w 9 (.lenL 8),w 10 (.mv (.c U2 0))])
def c56_3 : AC := .out [3, 8, 9, 10, 11] (.reg [3, 8, 9, 10] [w 11 (.bin .lss 10 9)])
def c56_4 : AC := .out [3, 8, 9, 10] (.cond (.t 11) .skip (.exit 0))
def c56_5 : AC := .out [3, 4, 5, 8, 9, 10] (.reg [3, 8, 9, 10] [m 12 10,w 13 (.indexAddr U1 8 10),w 14 (.load U1 13),w 4 (.asg 12),w 5 (.asg 14)])
def c56_6 : AC := .out [3, 4, 5, 8, 9, 10, 20] (.reg [3, 4, 5, 8, 9, 10] [m 15 5,w 16 (.bin .geq 15 (.c U1 65)),m 17 16,⟨some 18, .mv 5, some (17, true)⟩,⟨some 19, .bin .leq 18 (.c U1 90), some (17, true)⟩,w 20 (.pick 17 19 (.c .bool false))])
def c56_7 : AC := .out [3, 8, 9, 10] (.reg [3, 4, 5, 8, 9, 10] [m 21 3,m 22 4,m 23 5,w 24 (.bin .sub 23 (.c U1 65)),w 25 (.bin .add 24 (.c U1 97)),w 26 (.indexAddr U1 21 22),⟨none, .store U1 26 25, none⟩])
def c56_8 : AC := .out [3, 8, 9, 10] (.cond (.t 20) c56_7 .skip)
def c56_9 : AC := .out [3, 8, 9, 10] (.block 1 (.seq c56_5 (.seq c56_6 c56_8)))
def c56_10 : AC := .out [3, 8, 9, 10] (.reg [3, 8, 9, 10] [w 27 (.bin .add 10 (.c U2 1)),m 10 27])
def c56_11 : AC := (.seq c56_3 (.seq c56_4 (.seq c56_9 c56_10)))
def c56_12 : AC := .out [3] (.loop [3, 8, 9, 10] c56_11)
def c56_13 : AC := .out [3] (.block 0 c56_12)
def c56_14 : AC := .out [2] (.reg [3] [m 28 3,w 29 (.toStr 28),w 2 (.asg 29)])
def c56_15 : AC := (.seq c56_0 (.seq c56_1 (.seq (.seq c56_2 c56_13) (.seq c56_14 .ret))))
def c56 : AC := c56_15
def d56 : FD := { nargs := 1, body := c56, res := [.t 2] }
def c73_0 : AC := .out [0] (.reg [0] [w 2 (.asg (.c U2 0))])
def c73_1 : AC := .out [0, 7] (.reg [0] [m 5 0,w 6 (.lenS 5),w 7 (.bin .gtr 6 (.c U2 16))])
def c73_2 : AC := .out [2] (.reg [] [w 2 (.asg (.c U2 3))])
def c73_3 : AC := .out [0, 2] (.cond (.t 7) (.seq c73_2 .ret) .skip)
def c73_4 : AC := .out [0, 4] (.reg [0] [m 9 0,w 10 (.buildSlice 9 .str [9]),w 11 (.call 88 [10]),m 8 11,w 12 (.extract 8 0),w 13 (.extract 8 1),w 3 (.asg 12),w 4 (.asg 13)])
def c73_5 : AC := .out [21] (.reg [0, 4] [m 14 4,w 15 (.bin .neq 14 (.c U2 0)),m 16 15,⟨some 17, .mv 0, some (16, false)⟩,⟨some 18, .call 56 [17], some (16, false)⟩,⟨some 19, .mv 0, some (16, false)⟩,⟨some 20, .bin .neq 18 19, some (16, false)⟩,w 21 (.pick 16 (.c .bool true) 20)])
def c73_6 : AC := .out [2] (.reg [] [w 2 (.asg (.c U2 2))])
def c73_7 : AC := .out [2] (.cond (.t 21) (.seq c73_6 .ret) .skip)
def c73_8 : AC := .out [2] (.reg [] [w 2 (.asg (.c U2 0))])
def c73_9 : AC := (.seq c73_0 (.seq (.seq c73_1 c73_3) (.seq (.seq c73_4 (.seq c73_5 c73_7)) (.seq c73_8 .ret))))
def c73 : AC := c73_9
def d73 : FD := { nargs := 1, body := c73, res := [.t 2] }
def c89_0 : AC := .out [0, 1] (.reg [0, 1] [w 4 (.asg (.c U2 0))])
def c89_1 : AC := .out [0, 1, 7, 8] (.reg [0, 1] [m 6 0,w 7 (.lenL 6),w 8 (.mv (.c U2 0))])
def c89_2 : AC := .out [0, 1, 7, 8, 9] (.reg [0, 1, 7, 8] [w 9 (.bin .lss 8 7)])
def c89_3 : AC := .out [0, 1, 7, 8] (.cond (.t 9) .skip (.exit 0))
def c89_4 : AC := .out [0, 1, 5, 7, 8] (.reg [0, 1, 7, 8] [m 10 8,w 5 (.asg 10)])
def c89_5 : AC := .out [0, 1, 5, 7, 8, 16] (.reg [0, 1, 5, 7, 8] [m 11 1,m 12 0,m 13 5,w 14 (.indexAddr .str 12 13),w 15 (.load .str 14),w 16 (.bin .eql 11 15)])
def c89_6 : AC := .out [4] (.reg [5] [m 17 5,w 4 (.asg 17)])
def c89_7 : AC := .out [0, 1, 4, 7, 8] (.cond (.t 16) (.seq c89_6 .ret) .skip)
def c89_8 : AC := .out [0, 1, 4, 7, 8] (.block 1 (.seq c89_4 (.seq c89_5 c89_7)))
def c89_9 : AC := .out [0, 1, 7, 8] (.reg [0, 1, 7, 8] [w 18 (.bin .add 8 (.c U2 1)),m 8 18])
def c89_10 : AC := (.seq c89_2 (.seq c89_3 (.seq c89_8 c89_9)))
def c89_11 : AC := .out [4] (.loop [0, 1, 7, 8] c89_10)
def c89_12 : AC := .out [4] (.block 0 c89_11)
def c89_13 : AC := .out [4] (.reg [] [w 4 (.asg (.c U2 (-1)))])
def c89_14 : AC := (.seq c89_0 (.seq (.seq c89_1 c89_12) (.seq c89_13 .ret)))
def c89 : AC := c89_14
def d89 : FD := { nargs := 2, body := c89, res := [.t 4] }
def c74_0 : AC := .out [0, 1] (.reg [0, 1] [w 4 (.asg (.c .bool false))])
def c74_1 : AC := .out [4] (.reg [0, 1] [m 5 0,m 6 1,w 7 (.call 89 [5, 6]),w 8 (.bin .geq 7 (.c U2 0)),w 4 (.asg 8)])
def c74_2 : AC := (.seq c74_0 (.seq c74_1 .ret))
def c74 : AC := c74_2
def d74 : FD := { nargs := 2, body := c74, res := [.t 4] }
def c54_0 : AC := .out [1] (.reg [0] [w 1 (.box U21 0),w 2 (.asg (.c U2 0))])
def c54_1 : AC := .out [1, 6] (.reg [1] [w 7 (.fieldAddr U21 [.l] 1),w 8 (.load U2 7),w 9 (.bin .lss 8 (.c U2 1)),m 10 9,⟨some 11, .fieldAddr U21 [.l] 1, some (10, false)⟩,⟨some 12, .load U2 11, some (10, false)⟩,⟨some 13, .bin .gtr 12 (.c U2 12), some (10, false)⟩,w 14 (.pick 10 (.c .bool true) 13),m 15 14,⟨some 16, .fieldAddr U21 [.r, .l] 1, some (15, false)⟩,⟨some 17, .load U2 16, some (15, false)⟩,⟨some 18, .bin .lss 17 (.c U2 0), some (15, false)⟩,w 19 (.pick 15 (.c .bool true) 18),m 20 19,⟨some 21, .fieldAddr U21 [.r, .l] 1, some (20, false)⟩,⟨some 22, .load U2 21, some (20, false)⟩,⟨some 23, .bin .gtr 22 (.c U2 999), some (20, false)⟩,w 24 (.pick 20 (.c .bool true) 23),w 6 (.asg 24)])
def c54_2 : AC := .out [2] (.reg [] [w 2 (.asg (.c U2 6))])
def c54_3 : AC := .out [1, 25] (.reg [1] [w 26 (.fieldAddr U21 [.r, .r, .l] 1),w 27 (.load U0 26),w 28 (.lenL 27),w 29 (.bin .gtr 28 (.c U2 20)),w 25 (.asg 29)])
def c54_4 : AC := .out [2] (.reg [] [w 2 (.asg (.c U2 3))])
def c54_5 : AC := .out [1, 2] (.cond (.t 25) (.seq c54_4 .ret) .skip)
def c54_6 : AC := .out [1, 2] (.cond (.t 6) (.seq c54_2 .ret) (.seq c54_3 c54_5))
def c54_7 : AC := .out [1, 2] (.block 0 (.seq c54_1 c54_6))
def c54_8 : AC := .out [1, 31, 32, 33] (.reg [1] [w 30 (.fieldAddr U21 [.r, .r, .l] 1),w 31 (.load U0 30),w 32 (.lenL 31),w 33 (.mv (.c U2 0))])
def c54_9 : AC := .out [1, 31, 32, 33, 34] (.reg [1, 31, 32, 33] [w 34 (.bin .lss 33 32)])
def c54_10 : AC := .out [1, 31, 32, 33] (.cond (.t 34) .skip (.exit 1))
def c54_11 : AC := .out [1, 3, 4, 31, 32, 33] (.reg [1, 31, 32, 33] [m 35 33,w 36 (.indexAddr .str 31 33),w 37 (.load .str 36),w 3 (.asg 35),w 4 (.asg 37)])
def c54_12 : AC := .out [1, 3, 4, 5, 31, 32, 33] (.reg [1, 3, 4, 31, 32, 33] [m 38 4,w 39 (.call 73 [38]),w 5 (.asg 39)])
def c54_13 : AC := .out [1, 3, 4, 5, 31, 32, 33, 41] (.reg [1, 3, 4, 5, 31, 32, 33] [m 40 5,w 41 (.bin .neq 40 (.c U2 0))])
def c54_14 : AC := .out [2] (.reg [5] [m 42 5,w 2 (.asg 42)])
def c54_15 : AC := .out [1, 2, 3, 4, 31, 32, 33] (.cond (.t 41) (.seq c54_14 .ret) .skip)
def c54_16 : AC := .out [1, 31, 32, 33, 48] (.reg [1, 3, 4, 31, 32, 33] [w 43 (.fieldAddr U21 [.r, .r, .l] 1),w 44 (.load U0 43),m 45 3,w 46 (.sliceL .str 44 none (some 45) none),m 47 4,w 48 (.call 74 [46, 47])])
def c54_17 : AC := .out [2] (.reg [] [w 2 (.asg (.c U2 5))])
def c54_18 : AC := .out [1, 2, 31, 32, 33] (.cond (.t 48) (.seq c54_17 .ret) .skip)
def c54_19 : AC := .out [1, 2, 31, 32, 33] (.block 2 (.seq c54_11 (.seq (.seq c54_12 (.seq c54_13 c54_15)) (.seq c54_16 c54_18))))
def c54_20 : AC := .out [1, 31, 32, 33] (.reg [1, 31, 32, 33] [w 49 (.bin .add 33 (.c U2 1)),m 33 49])
def c54_21 : AC := (.seq c54_9 (.seq c54_10 (.seq c54_19 c54_20)))
def c54_22 : AC := .out [2] (.loop [1, 31, 32, 33] c54_21)
def c54_23 : AC := .out [2] (.block 1 c54_22)
def c54_24 : AC := .out [2] (.reg [] [w 2 (.asg (.c U2 0))])
def c54_25 : AC := (.seq c54_0 (.seq c54_7 (.seq (.seq c54_8 c54_23) (.seq c54_24 .ret))))
def c54 : AC := c54_25
def d54 : FD := { nargs := 1, body := c54, res := [.t 2] }
def c35_0 : AC := .out [1] (.reg [0] [w 1 (.box U28 0),w 2 (.asg (.c U2 0))])
def c35_1 : AC := .out [1, 6] (.reg [1] [w 7 (.fieldAddr U28 [.l] 1),w 8 (.load .str 7),w 9 (.call 53 [8]),w 10 (.un .not 9),w 6 (.asg 10)])
def c35_2 : AC := .out [2] (.reg [] [w 2 (.asg (.c U2 2))])
def c35_3 : AC := .out [1, 11] (.reg [1] [w 12 (.fieldAddr U28 [.r, .l] 1),w 13 (.load U23 12),w 14 (.lenL 13),w 15 (.bin .gtr 14 (.c U2 30)),w 11 (.asg 15)])
def c35_4 : AC := .out [2] (.reg [] [w 2 (.asg (.c U2 3))])
def c35_5 : AC := .out [1, 2] (.cond (.t 11) (.seq c35_4 .ret) .skip)
def c35_6 : AC := .out [1, 2] (.cond (.t 6) (.seq c35_2 .ret) (.seq c35_3 c35_5))
def c35_7 : AC := .out [1, 2] (.block 0 (.seq c35_1 c35_6))
def c35_8 : AC := .out [17, 18, 19] (.reg [1] [w 16 (.fieldAddr U28 [.r, .l] 1),w 17 (.load U23 16),w 18 (.lenL 17),w 19 (.mv (.c U2 0))])
def c35_9 : AC := .out [17, 18, 19, 20] (.reg [17, 18, 19] [w 20 (.bin .lss 19 18)])
def c35_10 : AC := .out [17, 18, 19] (.cond (.t 20) .skip (.exit 1))
def c35_11 : AC := .out [4, 17, 18, 19] (.reg [17, 18, 19] [w 21 (.indexAddr U21 17 19),w 22 (.load U21 21),w 4 (.alloc U21 (.pair .no (.pair .no (.pair (.own true 9 .no) .no)))),⟨none, .store U21 4 22, none⟩])
def c35_12 : AC := .out [5, 17, 18, 19] (.reg [4, 17, 18, 19] [w 23 (.load U21 4),w 24 (.call 54 [23]),w 5 (.asg 24)])
def c35_13 : AC := .out [5, 17, 18, 19, 26] (.reg [5, 17, 18, 19] [m 25 5,w 26 (.bin .neq 25 (.c U2 0))])
def c35_14 : AC := .out [2] (.reg [5] [m 27 5,w 2 (.asg 27)])
def c35_15 : AC := .out [2, 17, 18, 19] (.cond (.t 26) (.seq c35_14 .ret) .skip)
def c35_16 : AC := .out [2, 17, 18, 19] (.block 2 (.seq c35_11 (.seq c35_12 (.seq c35_13 c35_15))))
def c35_17 : AC := .out [17, 18, 19] (.reg [17, 18, 19] [w 28 (.bin .add 19 (.c U2 1)),m 19 28])
def c35_18 : AC := (.seq c35_9 (.seq c35_10 (.seq c35_16 c35_17)))
def c35_19 : AC := .out [2] (.loop [17, 18, 19] c35_18)
def c35_20 : AC := .out [2] (.block 1 c35_19)
def c35_21 : AC := .out [2] (.reg [] [w 2 (.asg (.c U2 0))])
def c35_22 : AC := (.seq c35_0 (.seq c35_7 (.seq (.seq c35_8 c35_20) (.seq c35_21 .ret))))
def c35 : AC := c35_22
def d35 : FD := { nargs := 1, body := c35, res := [.t 2] }
def c90_0 : AC := .out [1] (.reg [0] [w 1 (.box U18 0),w 2 (.asg (.c .bool false))])
def c90_1 : AC := .out [1, 4] (.reg [1] [w 3 (.fieldAddr U18 [.l] 1),w 4 (.load U2 3)])
def c90_2 : AC := .out [1, 4, 5] (.reg [1, 4] [w 6 (.bin .eql 4 (.c U2 1)),w 5 (.asg 6)])
def c90_3 : AC := .out [2] (.reg [1] [w 7 (.fieldAddr U18 [.r, .l] 1),w 8 (.load U2 7),w 9 (.bin .geq 8 (.c U2 1)),m 10 9,⟨some 11, .fieldAddr U18 [.r, .l] 1, some (10, true)⟩,⟨some 12, .load U2 11, some (10, true)⟩,⟨some 13, .bin .leq 12 (.c U2 3), some (10, true)⟩,w 14 (.pick 10 13 (.c .bool false)),w 2 (.asg 14)])
def c90_4 : AC := .out [1, 15] (.reg [1, 4] [w 16 (.bin .eql 4 (.c U2 2)),w 15 (.asg 16)])
def c90_5 : AC := .out [2] (.reg [1] [w 17 (.fieldAddr U18 [.r, .l] 1),w 18 (.load U2 17),w 19 (.bin .eql 18 (.c U2 2)),w 2 (.asg 19)])
def c90_6 : AC := .out [1, 2] (.cond (.t 15) (.seq c90_5 .ret) .skip)
def c90_7 : AC := .out [1, 2] (.cond (.t 5) (.seq c90_3 .ret) (.seq c90_4 c90_6))
def c90_8 : AC := .out [1, 2] (.block 0 (.seq c90_2 c90_7))
def c90_9 : AC := .out [2] (.reg [1] [w 20 (.fieldAddr U18 [.r, .l] 1),w 21 (.load U2 20),w 22 (.bin .eql 21 (.c U2 0)),w 2 (.asg 22)])
def c90_10 : AC := (.seq c90_0 (.seq (.seq c90_1 c90_8) (.seq c90_9 .ret)))
def c90 : AC := c90_10
def d90 : FD := { nargs := 1, body := c90, res := [.t 2] }
def c93_0 : AC := .out [0] (.reg [0] [w 2 (.asg (.c .bool false))])
def c93_1 : AC := .out [2] (.reg [0] [m 3 0,w 4 (.bin .geq 3 (.c U3 97)),m 5 4,⟨some 6, .mv 0, some (5, true)⟩,⟨some 7, .bin .leq 6 (.c U3 122), some (5, true)⟩,w 8 (.pick 5 7 (.c .bool false)),m 9 8,⟨some 10, .mv 0, some (9, false)⟩,⟨some 11, .bin .geq 10 (.c U3 48), some (9, false)⟩,⟨some 12, .mv 11, some (9, false)⟩,⟨some 13, .mv 0, some (12, true)⟩,⟨some 14, .bin .leq 13 (.c U3 57), some (12, true)⟩,⟨some 15, .pick 12 14 (.c .bool false), some (9, false)⟩,w 16 (.pick 9 (.c .bool true) 15),m 17 16,⟨some 18, .mv 0, some (17, false)⟩,⟨some 19, .bin .eql 18 (.c U3 95), some (17, false)⟩,w 20 (.pick 17 (.c .bool true) 19),m 21 20,⟨some 22, .mv 0, some (21, false)⟩,⟨some 23, .bin .eql 22 (.c U3 94), some (21, false)⟩,w 24 (.pick 21 (.c .bool true) 23),m 25 24,⟨some 26, .mv 0, some (25, false)⟩,⟨some 27, .bin .eql 26 (.c U3 39), some (25, false)⟩,w 28 (.pick 25 (.c .bool true) 27),w 2 (.asg 28)])
def c93_2 : AC := (.seq c93_0 (.seq c93_1 .ret))
def c93 : AC := c93_2
def d93 : FD := { nargs := 1, body := c93, res := [.t 2] }
def c92_0 : AC := .out [0] (.reg [0] [w 2 (.asg (.c .bool false))])
def c92_1 : AC := .out [2] (.reg [0] [m 3 0,w 4 (.call 93 [3]),w 5 (.un .not 4),w 2 (.asg 5)])
def c92_2 : AC := (.seq c92_0 (.seq c92_1 .ret))
def c92 : AC := c92_2
def d92 : FD := { nargs := 1, body := c92, res := [.t 2] }
def c108_0 : AC := .out [0, 1, 2] (.reg [0, 1, 2] [w 6 (.asg (.c U2 0))])
def c108_1 : AC := .out [1, 2, 10] (.reg [0, 1, 2] [m 9 0,w 10 (.rng 9)])
def c108_2 : AC := .out [1, 2, 10, 11, 12] (.reg [1, 2, 10] [w 11 (.nxt 10),w 12 (.extract 11 0)])
def c108_3 : AC := .out [1, 2, 10, 11] (.cond (.t 12) .skip (.exit 0))
def c108_4 : AC := .out [1, 2, 7, 8, 10] (.reg [1, 2, 10, 11] [w 13 (.extract 11 1),w 14 (.extract 11 2),w 7 (.asg 13),w 8 (.asg 14)])
def c108_5 : AC := .out [1, 2, 7, 10, 19] (.reg [1, 2, 7, 8, 10] [m 15 1,m 16 8,w 17 (.callv 15 [16]),m 18 2,w 19 (.eqT false .bool 17 18)])
def c108_6 : AC := .out [6] (.reg [7] [m 20 7,w 6 (.asg 20)])
def c108_7 : AC := .out [1, 2, 6, 10] (.cond (.t 19) (.seq c108_6 .ret) .skip)
def c108_8 : AC := .out [1, 2, 6, 10] (.block 1 (.seq c108_4 (.seq c108_5 c108_7)))
def c108_9 : AC := (.seq c108_2 (.seq c108_3 c108_8))
def c108_10 : AC := .out [6] (.loop [1, 2, 10] c108_9)
def c108_11 : AC := .out [6] (.block 0 c108_10)
def c108_12 : AC := .out [6] (.reg [] [w 6 (.asg (.c U2 (-1)))])
def c108_13 : AC := (.seq c108_0 (.seq (.seq c108_1 c108_11) (.seq c108_12 .ret)))
def c108 : AC := c108_13
def d108 : FD := { nargs := 3, body := c108, res := [.t 6] }
def c101_0 : AC := .out [0, 1] (.reg [0, 1] [w 4 (.asg (.c U2 0))])
def c101_1 : AC := .out [4] (.reg [0, 1] [m 5 0,m 6 1,w 7 (.call 108 [5, 6, (.c .bool true)]),w 4 (.asg 7)])
def c101_2 : AC := (.seq c101_0 (.seq c101_1 .ret))
def c101 : AC := c101_2
def d101 : FD := { nargs := 2, body := c101, res := [.t 4] }
def c91_0 : AC := .out [0, 1] (.reg [0, 1] [w 4 (.asg (.c .bool false))])
def c91_1 : AC := .out [4] (.reg [0, 1] [m 5 0,m 6 1,w 7 (.call 101 [5, 6]),w 8 (.bin .geq 7 (.c U2 0)),w 4 (.asg 8)])
def c91_2 : AC := (.seq c91_0 (.seq c91_1 .ret))
def c91 : AC := c91_2
def d91 : FD := { nargs := 2, body := c91, res := [.t 4] }
def c75_0 : AC := .out [1] (.reg [0] [w 1 (.box U18 0),w 2 (.asg (.c U2 0))])
def c75_1 : AC := .out [1, 3] (.reg [1] [w 4 (.fieldAddr U18 [.l] 1),w 5 (.load U2 4),w 6 (.bin .lss 5 (.c U2 1)),m 7 6,⟨some 8, .fieldAddr U18 [.l] 1, some (7, false)⟩,⟨some 9, .load U2 8, some (7, false)⟩,⟨some 10, .bin .gtr 9 (.c U2 9), some (7, false)⟩,w 11 (.pick 7 (.c .bool true) 10),w 3 (.asg 11)])
def c75_2 : AC := .out [2] (.reg [] [w 2 (.asg (.c U2 1))])
def c75_3 : AC := .out [1, 12] (.reg [1] [w 13 (.load U18 1),w 14 (.call 90 [13]),w 15 (.un .not 14),w 12 (.asg 15)])
def c75_4 : AC := .out [2] (.reg [] [w 2 (.asg (.c U2 6))])
def c75_5 : AC := .out [1, 16] (.reg [1] [w 17 (.fieldAddr U18 [.r, .r, .l] 1),w 18 (.load .str 17),w 19 (.bin .eql 18 (.c .str [])),w 16 (.asg 19)])
def c75_6 : AC := .out [2] (.reg [] [w 2 (.asg (.c U2 7))])
def c75_7 : AC := .out [1, 20] (.reg [1] [w 21 (.fieldAddr U18 [.r, .r, .l] 1),w 22 (.load .str 21),w 23 (.lenS 22),w 24 (.bin .gtr 23 (.c U2 8)),w 20 (.asg 24)])
def c75_8 : AC := .out [2] (.reg [] [w 2 (.asg (.c U2 3))])
def c75_9 : AC := .out [25] (.reg [1] [w 26 (.fieldAddr U18 [.r, .r, .l] 1),w 27 (.load .str 26),w 28 (.call 91 [27, (.fn 92 U8 .bool)]),w 25 (.asg 28)])
def c75_10 : AC := .out [2] (.reg [] [w 2 (.asg (.c U2 2))])
def c75_11 : AC := .out [2] (.cond (.t 25) (.seq c75_10 .ret) .skip)
def c75_12 : AC := .out [2] (.cond (.t 20) (.seq c75_8 .ret) (.seq c75_9 c75_11))
def c75_13 : AC := .out [2] (.cond (.t 16) (.seq c75_6 .ret) (.seq c75_7 c75_12))
def c75_14 : AC := .out [2] (.cond (.t 12) (.seq c75_4 .ret) (.seq c75_5 c75_13))
def c75_15 : AC := .out [2] (.cond (.t 3) (.seq c75_2 .ret) (.seq c75_3 c75_14))
def c75_16 : AC := .out [2] (.block 0 (.seq c75_1 c75_15))
def c75_17 : AC := .out [2] (.reg [] [w 2 (.asg (.c U2 0))])
def c75_18 : AC := (.seq c75_0 (.seq c75_16 (.seq c75_17 .ret)))
def c75 : AC := c75_18
def d75 : FD := { nargs := 1, body := c75, res := [.t 2] }
def c55_0 : AC := .out [0] (.reg [0] [w 2 (.asg (.c U2 0))])
def c55_1 : AC := .out [0, 8] (.reg [0] [m 6 0,w 7 (.lenL 6),w 8 (.bin .gtr 7 (.c U2 200))])
def c55_2 : AC := .out [2] (.reg [] [w 2 (.asg (.c U2 3))])
def c55_3 : AC := .out [0, 2] (.cond (.t 8) (.seq c55_2 .ret) .skip)
def c55_4 : AC := .out [9, 10, 11] (.reg [0] [m 9 0,w 10 (.lenL 9),w 11 (.mv (.c U2 0))])
def c55_5 : AC := .out [9, 10, 11, 12] (.reg [9, 10, 11] [w 12 (.bin .lss 11 10)])
def c55_6 : AC := .out [9, 10, 11] (.cond (.t 12) .skip (.exit 0))
def c55_7 : AC := .out [4, 9, 10, 11] (.reg [9, 10, 11] [w 13 (.indexAddr U18 9 11),w 14 (.load U18 13),w 4 (.alloc U18 .no),⟨none, .store U18 4 14, none⟩])
def c55_8 : AC := .out [5, 9, 10, 11] (.reg [4, 9, 10, 11] [w 15 (.load U18 4),w 16 (.call 75 [15]),w 5 (.asg 16)])
def c55_9 : AC := .out [5, 9, 10, 11, 18] (.reg [5, 9, 10, 11] [m 17 5,w 18 (.bin .neq 17 (.c U2 0))])
def c55_10 : AC := .out [2] (.reg [5] [m 19 5,w 2 (.asg 19)])
def c55_11 : AC := .out [2, 9, 10, 11] (.cond (.t 18) (.seq c55_10 .ret) .skip)
def c55_12 : AC := .out [2, 9, 10, 11] (.block 1 (.seq c55_7 (.seq c55_8 (.seq c55_9 c55_11))))
def c55_13 : AC := .out [9, 10, 11] (.reg [9, 10, 11] [w 20 (.bin .add 11 (.c U2 1)),m 11 20])
def c55_14 : AC := (.seq c55_5 (.seq c55_6 (.seq c55_12 c55_13)))
def c55_15 : AC := .out [2] (.loop [9, 10, 11] c55_14)
def c55_16 : AC := .out [2] (.block 0 c55_15)
def c55_17 : AC := .out [2] (.reg [] [w 2 (.asg (.c U2 0))])
def c55_18 : AC := (.seq c55_0 (.seq (.seq c55_1 c55_3) (.seq (.seq c55_4 c55_16) (.seq c55_17 .ret))))
def c55 : AC := c55_18
def d55 : FD := { nargs := 1, body := c55, res := [.t 2] }
def c36_0 : AC := .out [0, 1] (.reg [0, 1] [w 4 (.asg (.c U2 0))])
def c36_1 : AC := .out [1, 5] (.reg [0, 1] [m 6 0,w 7 (.call 55 [6]),w 5 (.asg 7)])
def c36_2 : AC := .out [1, 5, 9] (.reg [1, 5] [m 8 5,w 9 (.bin .neq 8 (.c U2 0))])
def c36_3 : AC := .out [4] (.reg [5] [m 10 5,w 4 (.asg 10)])
def c36_4 : AC := .out [1, 4] (.cond (.t 9) (.seq c36_3 .ret) .skip)
def c36_5 : AC := .out [4] (.reg [1] [m 11 1,w 12 (.call 55 [11]),w 4 (.asg 12)])
def c36_6 : AC := (.seq c36_0 (.seq (.seq c36_1 (.seq c36_2 c36_4)) (.seq c36_5 .ret)))
def c36 : AC := c36_6
def d36 : FD := { nargs := 2, body := c36, res := [.t 4] }
def c43_0 : AC := .out [1] (.reg [0] [w 1 (.box U18 0),w 2 (.asg (.c .bool false))])
def c43_1 : AC := .out [2] (.reg [1] [w 3 (.fieldAddr U18 [.l] 1),w 4 (.load U2 3),w 5 (.bin .eql 4 (.c U2 1)),m 6 5,⟨some 7, .fieldAddr U18 [.l] 1, some (6, false)⟩,⟨some 8, .load U2 7, some (6, false)⟩,⟨some 9, .bin .eql 8 (.c U2 2), some (6, false)⟩,w 10 (.pick 6 (.c .bool true) 9),w 2 (.asg 10)])
def c43_2 : AC := (.seq c43_0 (.seq c43_1 .ret))
def c43 : AC := c43_2
def d43 : FD := { nargs := 1, body := c43, res := [.t 2] }
def c14_0 : AC := .out [0] (.reg [0] [w 2 (.asg (.c U2 0))])
def c14_1 : AC := .out [0, 3] (.reg [0] [m 4 0,w 5 (.lenL 4),w 3 (.asg 5)])
def c14_2 : AC := .out [0, 3, 6] (.reg [0, 3] [m 7 3,w 8 (.bin .gtr 7 (.c U2 0)),m 9 8,⟨some 10, .mv 0, some (9, true)⟩,⟨some 11, .mv 3, some (9, true)⟩,⟨some 12, .bin .sub 11 (.c U2 1), some (9, true)⟩,⟨some 13, .indexAddr U18 10 12, some (9, true)⟩,⟨some 14, .load U18 13, some (9, true)⟩,⟨some 15, .call 43 [14], some (9, true)⟩,w 16 (.pick 9 15 (.c .bool false)),w 6 (.asg 16)])
def c14_3 : AC := .out [2] (.reg [] [w 2 (.asg (.c U2 1))])
def c14_4 : AC := .out [17] (.reg [0, 3] [m 18 3,w 19 (.bin .gtr 18 (.c U2 1)),m 20 19,⟨some 21, .mv 0, some (20, true)⟩,⟨some 22, .mv 3, some (20, true)⟩,⟨some 23, .bin .sub 22 (.c U2 2), some (20, true)⟩,⟨some 24, .indexAddr U18 21 23, some (20, true)⟩,⟨some 25, .load U18 24, some (20, true)⟩,⟨some 26, .call 43 [25], some (20, true)⟩,w 27 (.pick 20 26 (.c .bool false)),m 28 27,⟨some 29, .mv 0, some (28, true)⟩,⟨some 30, .mv 3, some (28, true)⟩,⟨some 31, .bin .sub 30 (.c U2 1), some (28, true)⟩,⟨some 32, .indexAddr U18 29 31, some (28, true)⟩,⟨some 33, .fieldAddr U18 [.l] 32, some (28, true)⟩,⟨some 34, .load U2 33, some (28, true)⟩,⟨some 35, .bin .eql 34 (.c U2 5), some (28, true)⟩,w 36 (.pick 28 35 (.c .bool false)),m 37 36,⟨some 38, .mv 0, some (37, true)⟩,⟨some 39, .mv 3, some (37, true)⟩,⟨some 40, .bin .sub 39 (.c U2 1), some (37, true)⟩,⟨some 41, .indexAddr U18 38 40, some (37, true)⟩,⟨some 42, .fieldAddr U18 [.r, .r, .l] 41, some (37, true)⟩,⟨some 43, .load .str 42, some (37, true)⟩,⟨some 44, .bin .eql 43 (.c .str [109]), some (37, true)⟩,w 45 (.pick 37 44 (.c .bool false)),w 17 (.asg 45)])
def c14_5 : AC := .out [2] (.reg [] [w 2 (.asg (.c U2 2))])
def c14_6 : AC := .out [2] (.cond (.t 17) (.seq c14_5 .ret) .skip)
def c14_7 : AC := .out [2] (.cond (.t 6) (.seq c14_3 .ret) (.seq c14_4 c14_6))
def c14_8 : AC := .out [2] (.block 0 (.seq c14_2 c14_7))
def c14_9 : AC := .out [2] (.reg [] [w 2 (.asg (.c U2 0))])
def c14_10 : AC := (.seq c14_0 (.seq c14_1 (.seq c14_8 (.seq c14_9 .ret))))
def c14 : AC := c14_10
def d14 : FD := { nargs := 1, body := c14, res := [.t 2] }
def c62_0 : AC := .out [1] (.reg [0] [w 1 (.box U18 0),w 2 (.asg (.c .bool false))])
def c62_1 : AC := .out [2] (.reg [1] [w 3 (.fieldAddr U18 [.l] 1),w 4 (.load U2 3),w 5 (.bin .neq 4 (.c U2 9)),w 2 (.asg 5)])
def c62_2 : AC := (.seq c62_0 (.seq c62_1 .ret))
def c62 : AC := c62_2
def d62 : FD := { nargs := 1, body := c62, res := [.t 2] }
def c61_0 : AC := .out [0, 1] (.reg [0, 1] [w 4 (.asg (.c U2 0))])
def c61_1 : AC := .out [0, 1, 7, 8] (.reg [0, 1] [m 6 0,w 7 (.lenL 6),w 8 (.mv (.c U2 0))])
def c61_2 : AC := .out [0, 1, 7, 8, 9] (.reg [0, 1, 7, 8] [w 9 (.bin .lss 8 7)])
def c61_3 : AC := .out [0, 1, 7, 8] (.cond (.t 9) .skip (.exit 0))
def c61_4 : AC := .out [0, 1, 5, 7, 8] (.reg [0, 1, 7, 8] [m 10 8,w 5 (.asg 10)])
def c61_5 : AC := .out [0, 1, 5, 7, 8, 16] (.reg [0, 1, 5, 7, 8] [m 11 1,m 12 0,m 13 5,w 14 (.indexAddr U18 12 13),w 15 (.load U18 14),w 16 (.callv 11 [15])])
def c61_6 : AC := .out [4] (.reg [5] [m 17 5,w 4 (.asg 17)])
def c61_7 : AC := .out [0, 1, 4, 7, 8] (.cond (.t 16) (.seq c61_6 .ret) .skip)
def c61_8 : AC := .out [0, 1, 4, 7, 8] (.block 1 (.seq c61_4 (.seq c61_5 c61_7)))
def c61_9 : AC := .out [0, 1, 7, 8] (.reg [0, 1, 7, 8] [w 18 (.bin .add 8 (.c U2 1)),m 8 18])
def c61_10 : AC := (.seq c61_2 (.seq c61_3 (.seq c61_8 c61_9)))
def c61_11 : AC := .out [4] (.loop [0, 1, 7, 8] c61_10)
def c61_12 : AC := .out [4] (.block 0 c61_11)
def c61_13 : AC := .out [4] (.reg [] [w 4 (.asg (.c U2 (-1)))])
def c61_14 : AC := (.seq c61_0 (.seq (.seq c61_1 c61_12) (.seq c61_13 .ret)))
def c61 : AC := c61_14
def d61 : FD := { nargs := 2, body := c61, res := [.t 4] }
def c42_0 : AC := .out [0] (.reg [0] [w 2 (.asg (.c U2 0))])
def c42_1 : AC := .out [0, 3] (.reg [0] [m 4 0,w 5 (.call 61 [4, (.fn 62 U25 .bool)]),w 3 (.asg 5)])
def c42_2 : AC := .out [0, 3, 7] (.reg [0, 3] [m 6 3,w 7 (.bin .lss 6 (.c U2 0))])
def c42_3 : AC := .out [2] (.reg [0] [m 8 0,w 9 (.lenL 8),w 2 (.asg 9)])
def c42_4 : AC := .out [2, 3] (.cond (.t 7) (.seq c42_3 .ret) .skip)
def c42_5 : AC := .out [2] (.reg [3] [m 10 3,w 2 (.asg 10)])
def c42_6 : AC := (.seq c42_0 (.seq c42_1 (.seq (.seq c42_2 c42_4) (.seq c42_5 .ret))))
def c42 : AC := c42_6
def d42 : FD := { nargs := 1, body := c42, res := [.t 2] }
def c13_0 : AC := .out [0] (.reg [0] [w 2 (.asg (.c .bool false))])
def c13_1 : AC := .out [0, 3] (.reg [0] [m 4 0,w 5 (.call 42 [4]),w 3 (.asg 5)])
def c13_2 : AC := .out [2] (.reg [0, 3] [m 6 3,m 7 0,w 8 (.lenL 7),w 9 (.bin .lss 6 8),m 10 9,⟨some 11, .mv 0, some (10, true)⟩,⟨some 12, .mv 3, some (10, true)⟩,⟨some 13, .indexAddr U18 11 12, some (10, true)⟩,⟨some 14, .load U18 13, some (10, true)⟩,⟨some 15, .call 43 [14], some (10, true)⟩,w 16 (.pick 10 15 (.c .bool false)),w 2 (.asg 16)])
def c13_3 : AC := (.seq c13_0 (.seq c13_1 (.seq c13_2 .ret)))
def c13 : AC := c13_3
def d13 : FD := { nargs := 1, body := c13, res := [.t 2] }
def c37_0 : AC := .out [0, 1] (.reg [0, 1] [w 4 (.asg (.nil 3 U2))])
def c37_1 : AC := .out [0, 1, 5] (.reg [0, 1] [m 6 0,w 7 (.call 14 [6]),w 5 (.asg 7)])
def c37_2 : AC := .out [0, 5, 8] (.reg [0, 1, 5] [m 9 5,w 10 (.bin .eql 9 (.c U2 0)),m 11 10,⟨some 12, .mv 1, some (11, false)⟩,⟨some 13, .call 13 [12], some (11, false)⟩,⟨some 14, .un .not 13, some (11, false)⟩,w 15 (.pick 11 (.c .bool true) 14),w 8 (.asg 15)])
def c37_3 : AC := .out [4] (.reg [] [w 16 (.buildSlice 3 U2 [(.c U2 0)]),w 4 (.asg 16)])
def c37_4 : AC := .out [0, 17] (.reg [0, 5] [m 18 5,w 19 (.bin .eql 18 (.c U2 2)),w 17 (.asg 19)])
def c37_5 : AC := .out [4] (.reg [] [w 20 (.buildSlice 3 U2 [(.c U2 1), (.c U2 3)]),w 4 (.asg 20)])
def c37_6 : AC := .out [21] (.reg [0] [m 22 0,m 23 0,w 24 (.lenL 23),w 25 (.bin .sub 24 (.c U2 1)),w 26 (.indexAddr U18 22 25),w 27 (.fieldAddr U18 [.r, .l] 26),w 28 (.load U2 27),w 29 (.bin .eql 28 (.c U2 1)),w 21 (.asg 29)])
def c37_7 : AC := .out [4] (.reg [] [w 30 (.buildSlice 3 U2 [(.c U2 1), (.c U2 2), (.c U2 3)]),w 4 (.asg 30)])
def c37_8 : AC := .out [4] (.cond (.t 21) (.seq c37_7 .ret) .skip)
def c37_9 : AC := .out [4] (.cond (.t 17) (.seq c37_5 .ret) (.seq c37_6 c37_8))
def c37_10 : AC := .out [4] (.cond (.t 8) (.seq c37_3 .ret) (.seq c37_4 c37_9))
def c37_11 : AC := .out [4] (.block 0 (.seq c37_2 c37_10))
def c37_12 : AC := .out [4] (.reg [] [w 31 (.buildSlice 3 U2 [(.c U2 1), (.c U2 2), (.c U2 3), (.c U2 4)]),w 4 (.asg 31)])
def c37_13 : AC := (.seq c37_0 (.seq c37_1 (.seq c37_11 (.seq c37_12 .ret))))
def c37 : AC := c37_13
def d37 : FD := { nargs := 2, body := c37, res := [.t 4] }
def c39_0 : AC := .out [0, 1] (.reg [0, 1] [w 4 (.asg (.c U2 0))])
def c39_1 : AC := .out [1, 5] (.reg [0, 1] [m 5 0])
def c39_2 : AC := .out [1, 5, 6] (.reg [1, 5] [w 7 (.bin .eql 5 (.c U2 2)),w 6 (.asg 7)])
def c39_3 : AC := .out [4] (.reg [] [w 4 (.asg (.c U2 10))])
def c39_4 : AC := .out [1, 5, 8] (.reg [1, 5] [w 9 (.bin .eql 5 (.c U2 3)),w 8 (.asg 9)])
def c39_5 : AC := .out [4] (.reg [] [w 4 (.asg (.c U2 11))])
def c39_6 : AC := .out [1, 10] (.reg [1, 5] [w 11 (.bin .eql 5 (.c U2 4)),w 10 (.asg 11)])
def c39_7 : AC := .out [4] (.reg [] [w 4 (.asg (.c U2 12))])
def c39_8 : AC := .out [1, 4] (.cond (.t 10) (.seq c39_7 .ret) .skip)
def c39_9 : AC := .out [1, 4] (.cond (.t 8) (.seq c39_5 .ret) (.seq c39_6 c39_8))
def c39_10 : AC := .out [1, 4] (.cond (.t 6) (.seq c39_3 .ret) (.seq c39_4 c39_9))
def c39_11 : AC := .out [1, 4] (.block 0 (.seq c39_2 c39_10))
def c39_12 : AC := .out [13] (.reg [1] [m 12 1,w 13 (.bin .eql 12 (.c U2 2))])
def c39_13 : AC := .out [4] (.reg [] [w 4 (.asg (.c U2 9))])
def c39_14 : AC := .out [4] (.cond (.t 13) (.seq c39_13 .ret) .skip)
def c39_15 : AC := .out [4] (.reg [] [w 4 (.asg (.c U2 8))])
def c39_16 : AC := (.seq c39_0 (.seq (.seq c39_1 c39_11) (.seq (.seq c39_12 c39_14) (.seq c39_15 .ret))))
def c39 : AC := c39_16
def d39 : FD := { nargs := 2, body := c39, res := [.t 4] }
def c57_0 : AC := .out [1, 2] (.reg [0, 1] [w 2 (.box U21 0),w 4 (.asg (.c .bool false))])
def c57_1 : AC := .out [4] (.reg [1, 2] [w 5 (.fieldAddr U21 [.r, .r, .l] 2),w 6 (.load U0 5),w 7 (.lenL 6),w 8 (.bin .eql 7 (.c U2 0)),m 9 8,⟨some 10, .fieldAddr U21 [.r, .r, .l] 2, some (9, false)⟩,⟨some 11, .load U0 10, some (9, false)⟩,⟨some 12, .mv 1, some (9, false)⟩,⟨some 13, .call 74 [11, 12], some (9, false)⟩,w 14 (.pick 9 (.c .bool true) 13),w 4 (.asg 14)])
def c57_2 : AC := (.seq c57_0 (.seq c57_1 .ret))
def c57 : AC := c57_2
def d57 : FD := { nargs := 2, body := c57, res := [.t 4] }
def c38_0 : AC := .out [1, 2, 3] (.reg [0, 1, 2] [w 3 (.box U28 0),w 6 (.asg (.c U2 0)),w 7 (.asg (.c .bool false))])
def c38_1 : AC := .out [1, 2, 3] (.reg [1, 2, 3] [m 12 2,w 13 (.call 56 [12]),w 2 (.asg 13)])
def c38_2 : AC := .out [1, 2, 3, 8, 9] (.reg [1, 2, 3] [w 8 (.asg (.c U2 0)),w 9 (.asg (.c .bool false))])
def c38_3 : AC := .out [1, 2, 8, 9, 15, 16, 17] (.reg [1, 2, 3, 8, 9] [w 14 (.fieldAddr U28 [.r, .l] 3),w 15 (.load U23 14),w 16 (.lenL 15),w 17 (.mv (.c U2 0))])
def c38_4 : AC := .out [1, 2, 8, 9, 15, 16, 17, 18] (.reg [1, 2, 8, 9, 15, 16, 17] [w 18 (.bin .lss 17 16)])
def c38_5 : AC := .out [1, 2, 8, 9, 15, 16, 17] (.cond (.t 18) .skip (.exit 0))
def c38_6 : AC := .out [1, 2, 8, 9, 11, 15, 16, 17] (.reg [1, 2, 8, 9, 15, 16, 17] [w 19 (.indexAddr U21 15 17),w 20 (.load U21 19),w 11 (.alloc U21 (.pair .no (.pair .no (.pair (.own true 9 .no) .no)))),⟨none, .store U21 11 20, none⟩])
def c38_7 : AC := .out [1, 2, 8, 9, 11, 15, 16, 17, 39] (.reg [1, 2, 8, 9, 11, 15, 16, 17] [w 21 (.fieldAddr U21 [.l] 11),w 22 (.load U2 21),m 23 1,w 24 (.bin .eql 22 23),m 25 24,⟨some 26, .load U21 11, some (25, true)⟩,⟨some 27, .mv 2, some (25, true)⟩,⟨some 28, .call 57 [26, 27], some (25, true)⟩,w 29 (.pick 25 28 (.c .bool false)),m 30 29,⟨some 31, .mv 9, some (30, true)⟩,⟨some 32, .un .not 31, some (30, true)⟩,⟨some 33, .mv 32, some (30, true)⟩,⟨some 34, .fieldAddr U21 [.r, .l] 11, some (33, false)⟩,⟨some 35, .load U2 34, some (33, false)⟩,⟨some 36, .mv 8, some (33, false)⟩,⟨some 37, .bin .lss 35 36, some (33, false)⟩,⟨some 38, .pick 33 (.c .bool true) 37, some (30, true)⟩,w 39 (.pick 30 38 (.c .bool false))])
def c38_8 : AC := .out [1, 2, 8, 9, 15, 16, 17] (.reg [1, 2, 11, 15, 16, 17] [w 40 (.fieldAddr U21 [.r, .l] 11),w 41 (.load U2 40),w 8 (.asg 41),w 9 (.asg (.c .bool true))])
def c38_9 : AC := .out [1, 2, 8, 9, 15, 16, 17] (.cond (.t 39) c38_8 .skip)
def c38_10 : AC := .out [1, 2, 8, 9, 15, 16, 17] (.block 1 (.seq c38_6 (.seq c38_7 c38_9)))
def c38_11 : AC := .out [1, 2, 8, 9, 15, 16, 17] (.reg [1, 2, 8, 9, 15, 16, 17] [w 42 (.bin .add 17 (.c U2 1)),m 17 42])
def c38_12 : AC := (.seq c38_4 (.seq c38_5 (.seq c38_10 c38_11)))
def c38_13 : AC := .out [8, 9] (.loop [1, 2, 8, 9, 15, 16, 17] c38_12)
def c38_14 : AC := .out [8, 9] (.block 0 c38_13)
def c38_15 : AC := .out [6, 7] (.reg [8, 9] [m 43 8,m 44 9,w 6 (.asg 43),w 7 (.asg 44)])
def c38_16 : AC := (.seq c38_0 (.seq c38_1 (.seq c38_2 (.seq (.seq c38_3 c38_14) (.seq c38_15 .ret)))))
def c38 : AC := c38_16
def d38 : FD := { nargs := 3, body := c38, res := [.t 6, .t 7] }
def c11_0 : AC := .out [1, 2, 3, 4, 5] (.reg [0, 1, 2, 3, 4] [w 5 (.box U28 0),w 10 (.asg (.nil 39 U16)),w 11 (.asg (.c U2 0))])
def c11_1 : AC := .out [1, 2, 3, 4, 5, 12] (.reg [1, 2, 3, 4, 5] [w 20 (.load U28 5),w 21 (.call 35 [20]),w 12 (.asg 21)])
def c11_2 : AC := .out [1, 2, 3, 4, 5, 12, 23] (.reg [1, 2, 3, 4, 5, 12] [m 22 12,w 23 (.bin .neq 22 (.c U2 0))])
def c11_3 : AC := .out [10, 11] (.reg [12] [m 24 12,w 10 (.asg (.nil 39 U16)),w 11 (.asg 24)])
def c11_4 : AC := .out [1, 2, 3, 4, 5, 10, 11] (.cond (.t 23) (.seq c11_3 .ret) .skip)
def c11_5 : AC := .out [1, 2, 3, 4, 5, 13] (.reg [1, 2, 3, 4, 5] [m 25 3,m 26 4,w 27 (.call 36 [25, 26]),w 13 (.asg 27)])
def c11_6 : AC := .out [1, 2, 3, 4, 5, 13, 29] (.reg [1, 2, 3, 4, 5, 13] [m 28 13,w 29 (.bin .neq 28 (.c U2 0))])
def c11_7 : AC := .out [10, 11] (.reg [13] [m 30 13,w 10 (.asg (.nil 39 U16)),w 11 (.asg 30)])
def c11_8 : AC := .out [1, 2, 3, 4, 5, 10, 11] (.cond (.t 29) (.seq c11_7 .ret) .skip)
def c11_9 : AC := .out [1, 2, 3, 4, 5, 14] (.reg [1, 2, 3, 4, 5] [w 14 (.asg (.nil 39 U16))])
def c11_10 : AC := .out [1, 2, 3, 5, 14, 33, 34, 35] (.reg [1, 2, 3, 4, 5, 14] [m 31 3,m 32 4,w 33 (.call 37 [31, 32]),w 34 (.lenL 33),w 35 (.mv (.c U2 0))])
def c11_11 : AC := .out [1, 2, 3, 5, 14, 33, 34, 35, 36] (.reg [1, 2, 3, 5, 14, 33, 34, 35] [w 36 (.bin .lss 35 34)])
def c11_12 : AC := .out [1, 2, 3, 5, 14, 33, 34, 35] (.cond (.t 36) .skip (.exit 0))
def c11_13 : AC := .out [1, 2, 3, 5, 14, 16, 33, 34, 35] (.reg [1, 2, 3, 5, 14, 33, 34, 35] [w 37 (.indexAddr U2 33 35),w 38 (.load U2 37),w 16 (.asg 38)])
def c11_14 : AC := .out [1, 2, 3, 5, 14, 16, 33, 34, 35, 40] (.reg [1, 2, 3, 5, 14, 16, 33, 34, 35] [m 39 16,w 40 (.bin .eql 39 (.c U2 0))])
def c11_15 : AC := .out [1, 2, 3, 5, 14, 33, 34, 35] (.reg [1, 2, 3, 5, 14, 16, 33, 34, 35] [m 41 14,m 42 16,w 43 (.build U16 [([.l], 42)]),w 44 (.buildSlice 39 U16 [43]),w 45 (.append 39 U16 8796093022208 41 44),w 14 (.asg 45)])
def c11_16 : AC := .out [1, 2, 3, 5, 14, 16, 33, 34, 35] (.cond (.t 40) (.seq c11_15 (.exit 1)) .skip)
def c11_17 : AC := .out [1, 2, 3, 5, 14, 16, 17, 33, 34, 35] (.reg [1, 2, 3, 5, 14, 16, 33, 34, 35] [m 46 1,w 17 (.asg 46)])
def c11_18 : AC := .out [1, 2, 3, 5, 14, 16, 17, 33, 34, 35, 48] (.reg [1, 2, 3, 5, 14, 16, 17, 33, 34, 35] [m 47 16,w 48 (.bin .eql 47 (.c U2 2))])
def c11_19 : AC := .out [1, 2, 3, 5, 14, 16, 17, 33, 34, 35] (.reg [1, 2, 3, 5, 14, 16, 33, 34, 35] [m 49 2,w 17 (.asg 49)])
def c11_20 : AC := .out [1, 2, 3, 5, 14, 16, 17, 33, 34, 35] (.cond (.t 48) c11_19 .skip)
def c11_21 : AC := (.seq c11_18 c11_20)
def c11_22 : AC := .out [1, 2, 3, 5, 14, 16, 18, 19, 33, 34, 35] (.draw [1, 2, 3, 5, 14, 16, 17, 33, 34, 35] [⟨w 51 (.load U28 5), [52, 53, 54, 55, 56], [51], [], false, []⟩,⟨m 52 16, [51, 53, 54, 56], [52], [], false, []⟩,⟨m 53 3, [51, 52, 56], [53], [], false, []⟩,⟨w 54 (.call 14 [53]), [51, 52, 56], [54], [2], false, []⟩,⟨w 55 (.call 39 [52, 54]), [51, 56], [55], [1, 2, 3], false, []⟩,⟨m 56 17, [51, 52, 53, 54, 55], [56], [], false, []⟩,⟨w 57 (.call 38 [51, 55, 56]), [], [57], [0, 1, 2, 3, 4, 5], false, []⟩,⟨m 50 57, [], [50], [0, 1, 2, 3, 4, 5, 6], true, []⟩,⟨w 58 (.extract 50 0), [59], [58], [0, 1, 2, 3, 4, 5, 6, 7], false, []⟩,⟨w 59 (.extract 50 1), [18, 58], [59], [0, 1, 2, 3, 4, 5, 6, 7], false, []⟩,⟨w 18 (.asg 58), [59], [18], [0, 1, 2, 3, 4, 5, 6, 7, 8], false, []⟩,⟨w 19 (.asg 59), [], [19], [0, 1, 2, 3, 4, 5, 6, 7, 8, 9, 10], false, []⟩])
def c11_23 : AC := .out [1, 2, 3, 5, 14, 16, 18, 33, 34, 35, 60] (.reg [1, 2, 3, 5, 14, 16, 18, 19, 33, 34, 35] [m 60 19])
def c11_24 : AC := .out [1, 2, 3, 5, 14, 33, 34, 35] (.reg [1, 2, 3, 5, 14, 16, 18, 33, 34, 35] [m 61 14,m 62 16,m 63 18,w 64 (.build U16 [([.l], 62), ([.r, .l], 63)]),w 65 (.buildSlice 39 U16 [64]),w 66 (.append 39 U16 8796093022208 61 65),w 14 (.asg 66)])
def c11_25 : AC := .out [1, 2, 3, 5, 14, 33, 34, 35] (.cond (.t 60) c11_24 .skip)
def c11_26 : AC := .out [1, 2, 3, 5, 14, 33, 34, 35] (.block 1 (.seq c11_13 (.seq (.seq c11_14 c11_16) (.seq c11_17 (.seq c11_21 (.seq c11_22 (.seq c11_23 c11_25)))))))
def c11_27 : AC := .out [1, 2, 3, 5, 14, 33, 34, 35] (.reg [1, 2, 3, 5, 14, 33, 34, 35] [w 67 (.bin .add 35 (.c U2 1)),m 35 67])
def c11_28 : AC := (.seq c11_11 (.seq c11_12 (.seq c11_26 c11_27)))
def c11_29 : AC := .out [14] (.loop [1, 2, 3, 5, 14, 33, 34, 35] c11_28)
def c11_30 : AC := .out [14] (.block 0 c11_29)
def c11_31 : AC := .out [10, 11, 14] (.reg [14] [m 68 14,w 10 (.asg 68),w 11 (.asg (.c U2 0))])
def c11_32 : AC := (.seq c11_0 (.seq (.seq c11_1 (.seq c11_2 c11_4)) (.seq (.seq c11_5 (.seq c11_6 c11_8)) (.seq c11_9 (.seq (.seq c11_10 c11_30) (.seq c11_31 .ret))))))
def c11 : AC := c11_32
def d11 : FD := { nargs := 5, body := c11, res := [.t 10, .t 11] }
def c21_0 : AC := .out [1, 2] (.reg [0, 1] [w 2 (.box U16 0),w 3 (.asg (.c .bool false))])
def c21_1 : AC := .out [3] (.reg [1, 2] [w 4 (.fieldAddr U16 [.l] 2),w 5 (.load U2 4),w 6 (.fieldAddr U16 [.l] 1),w 7 (.load U2 6),w 8 (.bin .eql 5 7),m 9 8,⟨some 10, .fieldAddr U16 [.r, .l] 2, some (9, true)⟩,⟨some 11, .load U2 10, some (9, true)⟩,⟨some 12, .fieldAddr U16 [.r, .l] 1, some (9, true)⟩,⟨some 13, .load U2 12, some (9, true)⟩,⟨some 14, .bin .leq 11 13, some (9, true)⟩,w 15 (.pick 9 14 (.c .bool false)),w 3 (.asg 15)])
def c21_2 : AC := (.seq c21_0 (.seq c21_1 .ret))
def c21 : AC := c21_2
def d21 : FD := { nargs := 2, body := c21, res := [.t 3] }
def c46_0 : AC := .out [0, 1] (.reg [0, 1] [w 4 (.asg (.c U2 0))])
def c46_1 : AC := .out [0, 1, 7, 8] (.reg [0, 1] [m 6 0,w 7 (.lenL 6),w 8 (.mv (.c U2 0))])
def c46_2 : AC := .out [0, 1, 7, 8, 9] (.reg [0, 1, 7, 8] [w 9 (.bin .lss 8 7)])
def c46_3 : AC := .out [0, 1, 7, 8] (.cond (.t 9) .skip (.exit 0))
def c46_4 : AC := .out [0, 1, 5, 7, 8] (.reg [0, 1, 7, 8] [m 10 8,w 5 (.asg 10)])
def c46_5 : AC := .out [0, 1, 5, 7, 8, 16] (.reg [0, 1, 5, 7, 8] [m 11 1,m 12 0,m 13 5,w 14 (.indexAddr U16 12 13),w 15 (.load U16 14),w 16 (.callv 11 [15])])
def c46_6 : AC := .out [4] (.reg [5] [m 17 5,w 4 (.asg 17)])
def c46_7 : AC := .out [0, 1, 4, 7, 8] (.cond (.t 16) (.seq c46_6 .ret) .skip)
def c46_8 : AC := .out [0, 1, 4, 7, 8] (.block 1 (.seq c46_4 (.seq c46_5 c46_7)))
def c46_9 : AC := .out [0, 1, 7, 8] (.reg [0, 1, 7, 8] [w 18 (.bin .add 8 (.c U2 1)),m 8 18])
def c46_10 : AC := (.seq c46_2 (.seq c46_3 (.seq c46_8 c46_9)))
def c46_11 : AC := .out [4] (.loop [0, 1, 7, 8] c46_10)
def c46_12 : AC := .out [4] (.block 0 c46_11)
def c46_13 : AC := .out [4] (.reg [] [w 4 (.asg (.c U2 (-1)))])
def c46_14 : AC := (.seq c46_0 (.seq (.seq c46_1 c46_12) (.seq c46_13 .ret)))
def c46 : AC := c46_14
def d46 : FD := { nargs := 2, body := c46, res := [.t 4] }
def c19_0 : AC := .out [0, 1] (.reg [0, 1] [w 4 (.asg (.c .bool false))])
def c19_1 : AC := .out [4] (.reg [0, 1] [m 5 0,m 6 1,w 7 (.call 46 [5, 6]),w 8 (.bin .geq 7 (.c U2 0)),w 4 (.asg 8)])
def c19_2 : AC := (.seq c19_0 (.seq c19_1 .ret))
def c19 : AC := c19_2
def d19 : FD := { nargs := 2, body := c19, res := [.t 4] }
def c20_0 : AC := .out [1, 2] (.reg [0, 1] [w 2 (.box U16 0),w 3 (.asg (.c .bool false))])
def c20_1 : AC := .out [3] (.reg [1, 2] [w 4 (.load U17 1),w 5 (.mkfn 21 U20 .bool [2]),w 6 (.call 19 [4, 5]),w 7 (.un .not 6),w 3 (.asg 7)])
def c20_2 : AC := (.seq c20_0 (.seq c20_1 .ret))
def c20 : AC := c20_2
def d20 : FD := { nargs := 2, body := c20, res := [.t 3] }
def c5_0 : AC := .out [3, 4, 5] (.reg [0, 1, 2] [w 3 (.box U28 0),w 4 (.box U28 1),w 5 (.box U10 2),w 6 (.asg (.c .bool false))])
def c5_1 : AC := .out [3, 4, 5, 38] (.reg [3, 4, 5] [w 15 (.call 8 []),w 16 (.un .not 15),m 17 16,⟨some 18, .load U28 3, some (17, false)⟩,⟨some 19, .call 9 [18], some (17, false)⟩,⟨some 20, .un .not 19, some (17, false)⟩,w 21 (.pick 17 (.c .bool true) 20),m 22 21,⟨some 23, .load U28 4, some (22, false)⟩,⟨some 24, .call 9 [23], some (22, false)⟩,⟨some 25, .un .not 24, some (22, false)⟩,w 26 (.pick 22 (.c .bool true) 25),m 27 26,⟨some 28, .indexArr 2 U4 5 (.c U2 0), some (27, false)⟩,⟨some 29, .load U4 28, some (27, false)⟩,⟨some 30, .lenL 29, some (27, false)⟩,⟨some 31, .bin .gtr 30 (.c U2 60), some (27, false)⟩,w 32 (.pick 27 (.c .bool true) 31),m 33 32,⟨some 34, .indexArr 2 U4 5 (.c U2 1), some (33, false)⟩,⟨some 35, .load U4 34, some (33, false)⟩,⟨some 36, .lenL 35, some (33, false)⟩,⟨some 37, .bin .gtr 36 (.c U2 60), some (33, false)⟩,w 38 (.pick 33 (.c .bool true) 37)])
def c5_2 : AC := .out [6] (.reg [] [w 39 (.call 8 []),w 6 (.asg 39)])
def c5_3 : AC := .out [3, 4, 5, 6] (.cond (.t 38) (.seq c5_2 .ret) .skip)
def c5_4 : AC := .out [3, 4, 7, 8] (.draw [3, 4, 5] [⟨w 40 (.indexArr 2 U4 5 (.c U2 0)), [43, 44], [40], [], false, []⟩,⟨w 41 (.load U4 40), [43, 44], [41], [0], false, []⟩,⟨w 42 (.call 10 [41]), [43, 44], [42], [0, 1], false, []⟩,⟨w 43 (.indexArr 2 U4 5 (.c U2 1)), [40, 41, 42], [43], [], false, []⟩,⟨w 44 (.load U4 43), [40, 41, 42], [44], [3], false, []⟩,⟨w 45 (.call 10 [44]), [], [45], [0, 1, 2, 3, 4], true, []⟩,⟨w 7 (.asg 42), [], [7], [0, 1, 2, 3, 4, 5], true, []⟩,⟨w 8 (.asg 45), [], [8], [0, 1, 2, 3, 4, 5, 6], true, []⟩])
def c5_5 : AC := .out [3, 7, 8, 9, 10] (.reg [3, 4, 7, 8] [w 47 (.load U28 3),w 48 (.load U28 4),w 49 (.call 18 [47, 48]),m 46 49,w 50 (.extract 46 0),w 51 (.extract 46 1),w 9 (.alloc U28 (.pair .no (.pair (.own true 66 .no) .no))),⟨none, .store U28 9 50, none⟩,w 10 (.asg 51)])
def c5_6 : AC := .out [3, 7, 8, 9, 53] (.reg [3, 7, 8, 9, 10] [m 52 10,w 53 (.bin .neq 52 (.c U2 0))])
def c5_7 : AC := .out [6] (.reg [] [w 6 (.asg (.c .bool true))])
def c5_8 : AC := .out [3, 6, 7, 8, 9] (.cond (.t 53) (.seq c5_7 .ret) .skip)
def c5_9 : AC := .out [7, 8, 9, 11, 12] (.reg [3, 7, 8, 9] [w 55 (.load U28 3),m 56 7,m 57 8,w 58 (.call 11 [55, (.c .str [105, 108, 108, 101]), (.c .str [101, 115, 116]), 56, 57]),m 54 58,w 59 (.extract 54 0),w 60 (.extract 54 1),w 11 (.asg 59),w 12 (.asg 60)])
def c5_10 : AC := .out [11, 12, 13, 14] (.reg [7, 8, 9, 11, 12] [w 62 (.load U28 9),m 63 7,m 64 8,w 65 (.call 11 [62, (.c .str [105, 108, 108, 101]), (.c .str [101, 115, 116]), 63, 64]),m 61 65,w 66 (.extract 61 0),w 67 (.extract 61 1),w 13 (.alloc U17 (.own true 39 .no)),⟨none, .store U17 13 66, none⟩,w 14 (.asg 67)])
def c5_11 : AC := .out [11, 13, 73] (.reg [11, 12, 13, 14] [m 68 12,w 69 (.bin .neq 68 (.c U2 0)),m 70 69,⟨some 71, .mv 14, some (70, false)⟩,⟨some 72, .bin .neq 71 (.c U2 0), some (70, false)⟩,w 73 (.pick 70 (.c .bool true) 72)])
def c5_12 : AC := .out [6] (.reg [] [w 6 (.asg (.c .bool false))])
def c5_13 : AC := .out [6, 11, 13] (.cond (.t 73) (.seq c5_12 .ret) .skip)
def c5_14 : AC := .out [6] (.reg [11, 13] [m 74 11,w 75 (.mkfn 20 U20 .bool [13]),w 76 (.call 19 [74, 75]),w 77 (.un .not 76),w 6 (.asg 77)])
def c5_15 : AC := (.seq c5_0 (.seq (.seq c5_1 c5_3) (.seq c5_4 (.seq c5_5 (.seq (.seq c5_6 c5_8) (.seq c5_9 (.seq c5_10 (.seq (.seq c5_11 c5_13) (.seq c5_14 .ret)))))))))
def c5 : AC := c5_15
def d5 : FD := { nargs := 3, body := c5, res := [.t 6] }
def c8 : AC := (.seq (.reg [] [w 0 (.asg (.c .bool false))]) (.seq (.reg [] [w 11 (.call 31 [(.c .str [105, 47, 118, 51, 32, 108, 47, 108, 32, 108, 47, 108, 32, 101, 47, 118, 51])]),m 10 11,w 12 (.extract 10 0),w 13 (.extract 10 1),w 1 (.asg 12),w 2 (.asg 13)]) (.seq (.reg [1, 12] [w 15 (.call 31 [(.c .str [101, 47, 118, 51, 32, 116, 47, 109])]),m 14 15,w 16 (.extract 14 0),w 17 (.extract 14 1),w 3 (.asg 16),w 4 (.asg 17)]) (.seq (.reg [1, 3, 12, 16] [w 19 (.call 32 []),m 20 1,m 21 3,w 22 (.call 11 [19, (.c .str [105, 108, 108, 101]), (.c .str [101, 116]), 20, 21]),m 18 22,w 23 (.extract 18 0),w 24 (.extract 18 1),w 5 (.asg 23),w 6 (.asg 24)]) (.seq (.reg [1, 3, 5, 6, 12, 16, 23] [m 26 1,m 27 3,w 28 (.call 16 [26, 27, (.c U2 1)]),m 25 28,w 29 (.extract 25 0),w 30 (.extract 25 1),w 31 (.extract 25 2),w 7 (.asg 29),w 8 (.asg 30),w 9 (.asg 31)]) (.seq (.reg [1, 3, 5, 6, 7, 8, 9, 12, 16, 23, 29, 30] [m 32 6,w 33 (.bin .eql 32 (.c U2 0)),m 34 33,⟨some 35, .mv 5, some (34, true)⟩,⟨some 36, .build U16 [([.l], (.c U2 1))], some (34, true)⟩,⟨some 37, .build U16 [([.l], (.c U2 3)), ([.r, .l], (.c U2 6))], some (34, true)⟩,⟨some 38, .build U16 [([.l], (.c U2 4)), ([.r, .l], (.c U2 5))], some (34, true)⟩,⟨some 39, .buildSlice 39 U16 [36, 37, 38], some (34, true)⟩,⟨some 40, .call 15 [35, 39], some (34, true)⟩,w 41 (.pick 34 40 (.c .bool false)),m 42 41,⟨some 43, .mv 9, some (42, true)⟩,⟨some 44, .bin .eql 43 (.c U2 0), some (42, true)⟩,w 45 (.pick 42 44 (.c .bool false)),m 46 45,⟨some 47, .mv 7, some (46, true)⟩,⟨some 48, .mv 1, some (46, true)⟩,⟨some 49, .sliceL U18 48 none (some (.c U2 3)) none, some (46, true)⟩,⟨some 50, .call 29 [47, 49], some (46, true)⟩,w 51 (.pick 46 50 (.c .bool false)),m 52 51,⟨some 53, .mv 8, some (52, true)⟩,⟨some 54, .mv 3, some (52, true)⟩,⟨some 55, .call 29 [53, 54], some (52, true)⟩,w 56 (.pick 52 55 (.c .bool false)),w 0 (.asg 56)]) .ret))))))
def d8 : FD := { nargs := 0, body := c8, res := [.t 0] }
def c15 : AC := (.seq (.reg [0, 1] [w 4 (.asg (.c .bool false))]) (.seq (.seq (.reg [0, 1] [m 6 0,w 7 (.lenL 6),m 8 1,w 9 (.lenL 8),w 10 (.bin .neq 7 9)]) (.cond (.t 10) (.seq (.reg [] [w 4 (.asg (.c .bool false))]) .ret) .skip)) (.seq (.seq (.reg [0, 1] [w 5 (.asg (.c U2 0))]) (.block 0 (.loop [0, 1, 5] (.seq (.seq (.reg [0, 1, 5] [m 11 5,m 12 0,w 13 (.lenL 12),w 14 (.bin .lss 11 13)]) (.cond (.t 14) .skip (.exit 0))) (.seq (.block 1 (.seq (.draw [0, 1, 5] [⟨m 17 0, [18, 21, 22, 23, 24], [17], [], false, []⟩,⟨m 18 5, [17, 21, 22, 23, 24], [18], [], false, []⟩,⟨w 19 (.indexAddr U16 17 18), [21, 22, 23, 24], [19], [0, 1], false, []⟩,⟨w 20 (.load U16 19), [21, 22, 23, 24], [20], [0, 1, 2], false, []⟩,⟨m 21 1, [17, 18, 19, 20, 22], [21], [], false, []⟩,⟨m 22 5, [17, 18, 19, 20, 21], [22], [], false, []⟩,⟨w 23 (.indexAddr U16 21 22), [17, 18, 19, 20], [23], [4, 5], false, []⟩,⟨w 24 (.load U16 23), [17, 18, 19, 20], [24], [4, 5, 6], false, []⟩,⟨w 25 (.eqT true U16 20 24), [], [25], [0, 1, 2, 3, 4, 5, 6, 7], false, []⟩]) (.cond (.t 25) (.seq (.reg [] [w 4 (.asg (.c .bool false))]) .ret) .skip))) (.reg [0, 1, 5] [m 15 5,w 16 (.bin .add 15 (.c U2 1)),w 5 (.asg 16)])))))) (.seq (.reg [] [w 4 (.asg (.c .bool true))]) .ret))))
def d15 : FD := { nargs := 2, body := c15, res := [.t 4] }
def c16 : AC := (.seq (.reg [0, 1, 2] [w 6 (.asg (.nil 55 U18)),w 7 (.asg (.nil 55 U18)),w 8 (.asg (.c U2 0))]) (.seq (.reg [0, 1, 2] [m 14 0,m 15 1,m 16 2,w 17 (.call 44 [14, 15, 16]),m 13 17,w 18 (.extract 13 0),w 19 (.extract 13 1),w 20 (.extract 13 2),w 21 (.extract 13 3),w 9 (.asg 18),w 10 (.asg 19),w 11 (.asg 20),w 12 (.asg 21)]) (.seq (.reg [9, 10, 12, 18, 19] [m 22 9,m 23 10,m 24 12,w 6 (.asg 22),w 7 (.asg 23),w 8 (.asg 24)]) .ret)))
def d16 : FD := { nargs := 3, body := c16, res := [.t 6, .t 7, .t 8] }
def c29 : AC := (.seq (.reg [0, 1] [w 4 (.asg (.c .bool false))]) (.seq (.seq (.reg [0, 1] [m 6 0,w 7 (.lenL 6),m 8 1,w 9 (.lenL 8),w 10 (.bin .neq 7 9)]) (.cond (.t 10) (.seq (.reg [] [w 4 (.asg (.c .bool false))]) .ret) .skip)) (.seq (.seq (.reg [0, 1] [w 5 (.asg (.c U2 0))]) (.block 0 (.loop [0, 1, 5] (.seq (.seq (.reg [0, 1, 5] [m 11 5,m 12 0,w 13 (.lenL 12),w 14 (.bin .lss 11 13)]) (.cond (.t 14) .skip (.exit 0))) (.seq (.block 1 (.seq (.draw [0, 1, 5] [⟨m 17 0, [18, 21, 22, 23, 24], [17], [], false, []⟩,⟨m 18 5, [17, 21, 22, 23, 24], [18], [], false, []⟩,⟨w 19 (.indexAddr U18 17 18), [21, 22, 23, 24], [19], [0, 1], false, []⟩,⟨w 20 (.load U18 19), [21, 22, 23, 24], [20], [0, 1, 2], false, []⟩,⟨m 21 1, [17, 18, 19, 20, 22], [21], [], false, []⟩,⟨m 22 5, [17, 18, 19, 20, 21], [22], [], false, []⟩,⟨w 23 (.indexAddr U18 21 22), [17, 18, 19, 20], [23], [4, 5], false, []⟩,⟨w 24 (.load U18 23), [17, 18, 19, 20], [24], [4, 5, 6], false, []⟩,⟨w 25 (.call 48 [20, 24]), [], [25], [0, 1, 2, 3, 4, 5, 6, 7], false, []⟩,⟨w 26 (.bin .neq 25 (.c U2 0)), [], [26], [0, 1, 2, 3, 4, 5, 6, 7, 8], false, []⟩]) (.cond (.t 26) (.seq (.reg [] [w 4 (.asg (.c .bool false))]) .ret) .skip))) (.reg [0, 1, 5] [m 15 5,w 16 (.bin .add 15 (.c U2 1)),w 5 (.asg 16)])))))) (.seq (.reg [] [w 4 (.asg (.c .bool true))]) .ret))))
def d29 : FD := { nargs := 2, body := c29, res := [.t 4] }
def c31 : AC := (.seq (.reg [0] [w 2 (.asg (.nil 55 U18)),w 3 (.asg (.c U2 0))]) (.seq (.seq (.reg [0] [m 9 0,w 10 (.lenS 9),w 11 (.bin .gtr 10 (.c U2 4000))]) (.cond (.t 11) (.seq (.reg [] [w 2 (.asg (.nil 55 U18)),w 3 (.asg (.c U2 3))]) .ret) .skip)) (.seq (.seq (.reg [0] [m 12 0,w 13 (.bin .eql 12 (.c .str []))]) (.cond (.t 13) (.seq (.reg [] [w 2 (.asg (.nil 55 U18)),w 3 (.asg (.c U2 0))]) .ret) .skip)) (.seq (.reg [0] [w 4 (.asg (.nil 55 U18))]) (.seq (.reg [0, 4, 35] [m 14 0,w 15 (.call 50 [14]),w 5 (.asg 15)]) (.seq (.seq (.reg [4, 5, 15, 35] [w 6 (.asg (.c U2 0))]) (.block 0 (.loop [4, 5, 6, 15, 35] (.seq (.seq (.reg [4, 5, 6, 15, 35] [m 16 6,m 17 5,w 18 (.lenL 17),w 19 (.bin .lss 16 18)]) (.cond (.t 19) .skip (.exit 0))) (.seq (.block 1 (.seq (.reg [4, 5, 6, 15, 35] [m 23 5,m 24 6,w 25 (.indexAddr .str 23 24),w 26 (.load .str 25),w 27 (.call 51 [26]),m 22 27,w 28 (.extract 22 0),w 29 (.extract 22 1),w 7 (.alloc U18 .no),⟨none, .store U18 7 28, none⟩,w 8 (.asg 29)]) (.seq (.seq (.reg [4, 5, 6, 7, 8, 15, 28, 35] [m 30 8,w 31 (.un .not 30)]) (.cond (.t 31) (.seq (.reg [] [w 2 (.asg (.nil 55 U18)),w 3 (.asg (.c U2 2))]) .ret) .skip)) (.reg [4, 5, 6, 7, 15, 28, 35] [m 32 4,w 33 (.load U18 7),w 34 (.buildSlice 55 U18 [33]),w 35 (.append 55 U18 4398046511104 32 34),w 4 (.asg 35)])))) (.reg [4, 5, 6, 15, 35] [m 20 6,w 21 (.bin .add 20 (.c U2 1)),w 6 (.asg 21)])))))) (.seq (.seq (.reg [4, 35] [m 36 4,w 37 (.lenL 36),w 38 (.bin .gtr 37 (.c U2 200))]) (.cond (.t 38) (.seq (.reg [] [w 2 (.asg (.nil 55 U18)),w 3 (.asg (.c U2 2))]) .ret) .skip)) (.seq (.reg [4, 35] [m 39 4,w 2 (.asg 39),w 3 (.asg (.c U2 0))]) .ret))))))))
def d31 : FD := { nargs := 1, body := c31, res := [.t 2, .t 3] }
def c32 : AC := (.seq (.reg [] [w 0 (.alloc U28 (.pair .no (.pair (.own true 66 .no) .no)))]) (.seq (.reg [0, 1, 6, 9] [w 5 (.call 52 [(.c .str [108, 105, 99, 101, 110, 99, 101, 32, 99, 108, 97, 115, 115, 105, 99, 97, 108, 32, 123, 10, 32, 32, 109, 117, 116, 101, 32, 49, 59, 10, 32, 32, 98, 114, 101, 118, 105, 115, 32, 49, 59, 10, 32, 32, 105, 110, 100, 105, 102, 102, 101, 114, 101, 110, 116, 32, 49, 59, 10, 32, 32, 115, 121, 110, 105, 122, 101, 115, 105, 115, 32, 52, 59, 10, 32, 32, 101, 108, 105, 115, 105, 111, 110, 32, 48, 59, 10, 32, 32, 101, 99, 116, 104, 108, 105, 112, 115, 105, 115, 32, 48, 59, 10, 32, 32, 112, 114, 111, 100, 101, 108, 105, 115, 105, 111, 110, 32, 48, 32, 105, 110, 32, 34, 101, 115, 34, 44, 32, 34, 101, 115, 116, 34, 59, 10, 32, 32, 104, 105, 97, 116, 117, 115, 32, 54, 59, 10, 32, 32, 99, 111, 114, 114, 101, 112, 116, 105, 111, 110, 32, 53, 59, 10, 32, 32, 108, 101, 110, 103, 116, 104, 101, 110, 32, 56, 59, 10, 125, 10])]),m 4 5,w 6 (.extract 4 0),w 7 (.extract 4 1),w 8 (.extract 4 2),w 1 (.alloc U28 (.pair .no (.pair (.own true 66 .no) .no))),⟨none, .store U28 1 6, none⟩,w 2 (.asg 7),w 3 (.asg 8)]) (.seq (.reg [0, 1, 6, 9] [w 9 (.load U28 1),⟨none, .store U28 0 9, none⟩]) .ret)))
def d32 : FD := { nargs := 0, body := c32, res := [.cell 0 U28] }
def c44 : AC := (.seq (.reg [0, 1, 2] [w 6 (.asg (.nil 55 U18)),w 7 (.asg (.nil 55 U18)),w 8 (.asg (.nil 55 U18)),w 9 (.asg (.c U2 0))]) (.seq (.seq (.reg [0, 1, 2] [m 17 0,m 18 1,w 19 (.call 36 [17, 18]),w 10 (.asg 19)]) (.seq (.reg [0, 1, 2, 10] [m 20 10,w 21 (.bin .neq 20 (.c U2 0))]) (.cond (.t 21) (.seq (.reg [10] [m 22 10,w 6 (.asg (.nil 55 U18)),w 7 (.asg (.nil 55 U18)),w 8 (.asg (.nil 55 U18)),w 9 (.asg 22)]) .ret) .skip))) (.seq (.seq (.reg [0, 1, 2] [m 23 2,w 24 (.bin .lss 23 (.c U2 0)),m 25 24,⟨some 26, .mv 2, some (25, false)⟩,⟨some 27, .bin .gtr 26 (.c U2 4), some (25, false)⟩,w 28 (.pick 25 (.c .bool true) 27)]) (.cond (.t 28) (.seq (.reg [] [w 6 (.asg (.nil 55 U18)),w 7 (.asg (.nil 55 U18)),w 8 (.asg (.nil 55 U18)),w 9 (.asg (.c U2 6))]) .ret) .skip)) (.seq (.seq (.reg [0, 1, 2] [m 29 0,m 30 1,w 31 (.call 37 [29, 30]),m 32 2,w 33 (.call 63 [31, 32]),w 34 (.un .not 33)]) (.cond (.t 34) (.seq (.reg [] [w 6 (.asg (.nil 55 U18)),w 7 (.asg (.nil 55 U18)),w 8 (.asg (.nil 55 U18)),w 9 (.asg (.c U2 8))]) .ret) .skip)) (.seq (.reg [0, 1, 2] [m 35 0,w 36 (.call 23 [35]),m 37 1,w 38 (.call 23 [37]),w 11 (.asg 36),w 12 (.asg 38)]) (.seq (.reg [0, 1, 2, 11, 12, 36, 38, 50, 63] [w 13 (.asg (.nil 55 U18))]) (.seq (.seq (.reg [0, 1, 2, 11, 12, 13, 36, 38, 50, 54, 63, 67] [m 39 2]) (.block 0 (.seq (.reg [0, 1, 11, 12, 13, 36, 38, 39, 50, 54, 63, 67] [w 41 (.bin .eql 39 (.c U2 1)),w 40 (.asg 41)]) (.cond (.t 40) (.seq (.reg [0, 11, 12, 36, 38, 50, 63] [m 42 0,w 43 (.lenL 42),m 44 0,w 45 (.call 14 [44]),w 46 (.bin .sub 43 45),w 14 (.asg 46)]) (.draw [0, 11, 12, 14, 36, 38, 50, 63] [⟨m 47 11, [48, 49, 51, 52, 53, 54], [47], [], false, []⟩,⟨m 48 14, [47, 49, 51, 52, 53, 54], [48], [], false, []⟩,⟨m 49 14, [47, 48, 51, 52, 53, 54], [49], [], false, []⟩,⟨w 50 (.sliceL U18 47 none (some 48) (some 49)), [51, 52, 53, 54], [11, 47, 50], [0, 1, 2], false, []⟩,⟨m 51 0, [11, 47, 48, 49, 50, 52], [51], [], false, []⟩,⟨m 52 14, [11, 47, 48, 49, 50, 51], [52], [], false, []⟩,⟨w 53 (.sliceL U18 51 (some 52) none none), [11, 47, 48, 49, 50], [51, 53], [4, 5], false, []⟩,⟨w 54 (.call 23 [53]), [11, 47, 48, 49, 50], [54], [4, 5, 6], false, []⟩,⟨w 11 (.asg 50), [], [11], [0, 1, 2, 3, 4, 5, 6, 7], true, []⟩,⟨w 13 (.asg 54), [], [13], [0, 1, 2, 3, 4, 5, 6, 7, 8], true, []⟩])) (.seq (.reg [1, 11, 12, 13, 36, 38, 39, 50, 54, 63, 67] [w 56 (.bin .eql 39 (.c U2 2)),w 55 (.asg 56)]) (.cond (.t 55) (.seq (.reg [1, 11, 36, 50] [m 57 1,w 58 (.call 42 [57]),w 59 (.bin .add 58 (.c U2 1)),w 15 (.asg 59)]) (.draw [1, 11, 15, 36, 50] [⟨m 60 1, [61, 64, 65, 66], [60], [], false, []⟩,⟨m 61 15, [60, 64, 65, 66], [61], [], false, []⟩,⟨w 62 (.sliceL U18 60 (some 61) none none), [64, 65, 66], [60, 62], [0, 1], false, []⟩,⟨w 63 (.call 23 [62]), [64, 65, 66], [63], [0, 1, 2], false, []⟩,⟨m 64 1, [60, 61, 62, 63, 65], [64], [], false, []⟩,⟨m 65 15, [60, 61, 62, 63, 64], [65], [], false, []⟩,⟨w 66 (.sliceL U18 64 none (some 65) none), [60, 61, 62, 63], [64, 66], [4, 5], false, []⟩,⟨w 67 (.call 23 [66]), [], [67], [0, 1, 2, 3, 4, 5, 6], true, []⟩,⟨w 12 (.asg 63), [], [12], [0, 1, 2, 3, 4, 5, 6, 7], true, []⟩,⟨w 13 (.asg 67), [], [13], [0, 1, 2, 3, 4, 5, 6, 7, 8], true, []⟩])) (.seq (.reg [11, 12, 13, 36, 38, 39, 50, 54, 63, 67] [w 69 (.bin .eql 39 (.c U2 4)),w 68 (.asg 69)]) (.cond (.t 68) (.seq (.reg [11, 12, 13, 36, 38, 50, 54, 63, 67] [m 70 11,m 71 11,w 72 (.lenL 71),w 73 (.bin .sub 72 (.c U2 1)),w 74 (.indexAddr U18 70 73),w 16 (.asg 74)]) (.reg [11, 12, 13, 16, 36, 38, 50, 54, 63, 67, 70, 74] [m 75 16,m 76 16,w 77 (.nilck 75),w 78 (.fieldAddr U18 [.l] 77),⟨none, .store U2 78 (.c U2 1), none⟩,w 79 (.nilck 76),w 80 (.fieldAddr U18 [.r, .l] 79),⟨none, .store U2 80 (.c U2 1), none⟩])) .skip)))))))) (.seq (.reg [11, 12, 13, 36, 38, 50, 54, 63, 67] [m 81 11,m 82 12,m 83 13,w 6 (.asg 81),w 7 (.asg 82),w 8 (.asg 83),w 9 (.asg (.c U2 0))]) .ret))))))))
def d44 : FD := { nargs := 3, body := c44, res := [.t 6, .t 7, .t 8, .t 9] }
def c45 : AC := (.seq (.reg [0] [w 1 (.box U18 0),w 2 (.asg (.c .bool false))]) (.seq (.reg [1] [w 3 (.fieldAddr U18 [.l] 1),w 4 (.load U2 3),w 5 (.bin .eql 4 (.c U2 1)),m 6 5,⟨some 7, .fieldAddr U18 [.l] 1, some (6, false)⟩,⟨some 8, .load U2 7, some (6, false)⟩,⟨some 9, .bin .eql 8 (.c U2 2), some (6, false)⟩,w 10 (.pick 6 (.c .bool true) 9),w 2 (.asg 10)]) .ret))
def d45 : FD := { nargs := 1, body := c45, res := [.t 2] }
def c48 : AC := (.seq (.reg [0, 1] [w 2 (.box U18 0),w 3 (.box U18 1),w 4 (.asg (.c U2 0))]) (.seq (.seq (.reg [2, 3] [w 7 (.fieldAddr U18 [.l] 2),w 8 (.load U2 7),w 9 (.fieldAddr U18 [.l] 3),w 10 (.load U2 9),w 11 (.call 64 [8, 10]),w 5 (.asg 11)]) (.seq (.reg [2, 3, 5] [m 12 5,w 13 (.bin .neq 12 (.c U2 0))]) (.cond (.t 13) (.seq (.reg [5] [m 14 5,w 4 (.asg 14)]) .ret) .skip))) (.seq (.seq (.reg [2, 3] [w 15 (.fieldAddr U18 [.r, .l] 2),w 16 (.load U2 15),w 17 (.fieldAddr U18 [.r, .l] 3),w 18 (.load U2 17),w 19 (.call 64 [16, 18]),w 6 (.asg 19)]) (.seq (.reg [2, 3, 6] [m 20 6,w 21 (.bin .neq 20 (.c U2 0))]) (.cond (.t 21) (.seq (.reg [6] [m 22 6,w 4 (.asg 22)]) .ret) .skip))) (.seq (.seq (.reg [2, 3] [w 23 (.fieldAddr U18 [.r, .r, .l] 2),w 24 (.load .str 23),w 25 (.fieldAddr U18 [.r, .r, .l] 3),w 26 (.load .str 25),w 27 (.bin .lss 24 26)]) (.cond (.t 27) (.seq (.reg [] [w 4 (.asg (.c U2 (-1)))]) .ret) .skip)) (.seq (.seq (.reg [2, 3] [w 28 (.fieldAddr U18 [.r, .r, .l] 2),w 29 (.load .str 28),w 30 (.fieldAddr U18 [.r, .r, .l] 3),w 31 (.load .str 30),w 32 (.bin .gtr 29 31)]) (.cond (.t 32) (.seq (.reg [] [w 4 (.asg (.c U2 1))]) .ret) .skip)) (.seq (.reg [] [w 4 (.asg (.c U2 0))]) .ret))))))
def d48 : FD := { nargs := 2, body := c48, res := [.t 4] }
def c50 : AC := (.seq (.reg [0] [w 2 (.asg (.nil 9 .str))]) (.seq (.reg [0] [w 5 (.buildSlice 9 .str [(.c .str [])]),w 3 (.asg 5)]) (.seq (.seq (.reg [0, 3, 5, 18] [w 4 (.asg (.c U2 0))]) (.block 0 (.loop [0, 3, 4, 5, 18] (.seq (.seq (.reg [0, 3, 4, 5, 18] [m 6 4,m 7 0,w 8 (.lenS 7),w 9 (.bin .lss 6 8)]) (.cond (.t 9) .skip (.exit 0))) (.seq (.block 1 (.seq (.reg [0, 3, 4, 5, 18] [m 12 0,m 13 4,w 14 (.indexS 12 13),w 15 (.bin .eql 14 (.c U1 32))]) (.cond (.t 15) (.reg [0, 3, 4, 5, 18] [m 16 3,w 17 (.buildSlice 9 .str [(.c .str [])]),w 18 (.append 9 .str 8796093022208 16 17),w 3 (.asg 18)]) (.draw [0, 3, 4, 5, 18] [⟨m 19 3, [20, 21, 22, 23, 24, 25, 26, 27, 28, 29, 30, 31, 32, 33, 34], [19], [], false, []⟩,⟨m 20 3, [19, 23, 24, 25, 26, 27, 28, 29, 30, 31, 32, 33, 34], [20], [], false, []⟩,⟨w 21 (.lenL 20), [19, 23, 24, 25, 26, 27, 28, 29, 30, 31, 32, 33, 34], [21], [1], false, []⟩,⟨w 22 (.bin .sub 21 (.c U2 1)), [19, 23, 24, 25, 26, 27, 28, 29, 30, 31, 32, 33, 34], [22], [1, 2], false, []⟩,⟨m 23 3, [19, 20, 21, 22, 24, 25, 26, 29, 30, 31, 32, 33], [23], [], false, []⟩,⟨m 24 3, [19, 20, 21, 22, 23, 29, 30, 31, 32, 33], [24], [], false, []⟩,⟨w 25 (.lenL 24), [19, 20, 21, 22, 23, 29, 30, 31, 32, 33], [25], [5], false, []⟩,⟨w 26 (.bin .sub 25 (.c U2 1)), [19, 20, 21, 22, 23, 29, 30, 31, 32, 33], [26], [5, 6], false, []⟩,⟨w 27 (.indexAddr .str 23 26), [19, 20, 21, 22, 29, 30, 31, 32, 33], [27], [4, 5, 6, 7], false, []⟩,⟨w 28 (.load .str 27), [19, 20, 21, 22, 29, 30, 31, 32, 33], [28], [4, 5, 6, 7, 8], false, []⟩,⟨m 29 0, [19, 20, 21, 22, 23, 24, 25, 26, 27, 28, 30, 31, 32], [29], [], false, []⟩,⟨m 30 4, [19, 20, 21, 22, 23, 24, 25, 26, 27, 28, 29, 31, 32], [30], [], false, []⟩,⟨m 31 4, [19, 20, 21, 22, 23, 24, 25, 26, 27, 28, 29, 30], [31], [], false, []⟩,⟨w 32 (.bin .add 31 (.c U2 1)), [19, 20, 21, 22, 23, 24, 25, 26, 27, 28, 29, 30], [32], [12], false, []⟩,⟨w 33 (.sliceS 29 (some 30) (some 32)), [19, 20, 21, 22, 23, 24, 25, 26, 27, 28], [33], [10, 11, 12, 13], false, []⟩,⟨w 34 (.bin .add 28 33), [19, 20, 21, 22], [34], [4, 5, 6, 7, 8, 9, 10, 11, 12, 13, 14], false, []⟩,⟨w 35 (.indexAddr .str 19 22), [], [35], [0, 1, 2, 3, 4, 5, 6, 7, 8, 9, 10, 11, 12, 13, 14, 15], false, []⟩,⟨⟨none, .store .str 35 34, none⟩, [], [3, 19, 35], [0, 1, 2, 3, 4, 5, 6, 7, 8, 9, 10, 11, 12, 13, 14, 15, 16], false, []⟩])))) (.reg [0, 3, 4, 5, 18] [m 10 4,w 11 (.bin .add 10 (.c U2 1)),w 4 (.asg 11)])))))) (.seq (.reg [3, 5, 18] [m 36 3,w 2 (.asg 36)]) .ret))))
def d50 : FD := { nargs := 1, body := c50, res := [.t 2] }
def c51 : AC := (.seq (.reg [0] [w 2 (.alloc U18 .no),w 3 (.asg (.c .bool false))]) (.seq (.reg [0, 2, 6, 30, 34, 73] [w 4 (.asg (.c U2 0))]) (.seq (.block 0 (.loop [0, 2, 4, 6, 30, 34, 73] (.seq (.seq (.reg [0, 2, 4, 6, 30, 34, 73] [m 8 4,m 9 0,w 10 (.lenS 9),w 11 (.bin .lss 8 10),m 12 11,⟨some 13, .mv 0, some (12, true)⟩,⟨some 14, .mv 4, some (12, true)⟩,⟨some 15, .indexS 13 14, some (12, true)⟩,⟨some 16, .bin .neq 15 (.c U1 47), some (12, true)⟩,w 17 (.pick 12 16 (.c .bool false))]) (.cond (.t 17) .skip (.exit 0))) (.block 1 (.reg [0, 2, 4, 6, 30, 34, 73] [m 18 4,w 19 (.bin .add 18 (.c U2 1)),w 4 (.asg 19)]))))) (.seq (.reg [0, 2, 4, 6, 30, 34, 73] [w 5 (.asg (.c .str []))]) (.seq (.seq (.reg [0, 2, 4, 5, 6, 30, 34, 73] [m 20 4,m 21 0,w 22 (.lenS 21),w 23 (.bin .lss 20 22)]) (.cond (.t 23) (.reg [0, 2, 4, 6, 30, 34, 73] [m 24 0,m 25 4,w 26 (.bin .add 25 (.c U2 1)),w 27 (.sliceS 24 (some 26) none),w 5 (.asg 27)]) .skip)) (.seq (.seq (.reg [0, 2, 4, 5, 6, 30, 34, 73] [m 28 5,w 29 (.bin .eql 28 (.c .str []))]) (.cond (.t 29) (.seq (.reg [2, 6, 30, 34, 73] [w 30 (.build U18 []),⟨none, .store U18 2 30, none⟩,w 3 (.asg (.c .bool false))]) .ret) .skip)) (.seq (.reg [0, 2, 4, 5, 6, 30, 34, 73] [m 31 0,m 32 4,w 33 (.sliceS 31 none (some 32)),w 34 (.build U18 [([.r, .r, .l], 33)]),w 6 (.alloc U18 .no),⟨none, .store U18 6 34, none⟩]) (.seq (.seq (.reg [2, 5, 6, 30, 34, 73] [w 7 (.asg (.c U2 1))]) (.block 2 (.loop [2, 5, 6, 7, 30, 34, 73] (.seq (.seq (.reg [2, 5, 6, 7, 30, 34, 73] [m 35 7,w 36 (.call 65 []),w 37 (.lenS 36),w 38 (.bin .lss 35 37)]) (.cond (.t 38) .skip (.exit 2))) (.seq (.block 3 (.seq (.draw [2, 5, 6, 7, 30, 34, 73] [⟨w 41 (.call 65 []), [42, 44, 45], [41], [], false, []⟩,⟨m 42 7, [41, 44, 45], [42], [], false, []⟩,⟨w 43 (.indexS 41 42), [44, 45], [43], [0, 1], false, []⟩,⟨m 44 5, [41, 42, 43], [44], [], false, []⟩,⟨w 45 (.indexS 44 (.c U2 0)), [41, 42, 43], [45], [3], false, []⟩,⟨w 46 (.bin .eql 43 45), [], [46], [0, 1, 2, 3, 4], false, []⟩]) (.cond (.t 46) (.reg [2, 5, 6, 7, 30, 34, 73] [m 47 7,w 48 (.fieldAddr U18 [.l] 6),⟨none, .store U2 48 47, none⟩]) .skip))) (.reg [2, 5, 6, 7, 30, 34, 73] [m 39 7,w 40 (.bin .add 39 (.c U2 1)),w 7 (.asg 40)])))))) (.seq (.reg [2, 5, 6, 30, 34, 73] [m 49 5,w 50 (.sliceS 49 (some (.c U2 1)) none),w 5 (.asg 50)]) (.seq (.seq (.reg [2, 5, 6, 30, 34, 73] [w 51 (.load U18 6),w 52 (.call 45 [51]),m 53 52,⟨some 54, .mv 5, some (53, true)⟩,⟨some 55, .lenS 54, some (53, true)⟩,⟨some 56, .bin .eql 55 (.c U2 1), some (53, true)⟩,w 57 (.pick 53 56 (.c .bool false)),m 58 57,⟨some 59, .mv 5, some (58, true)⟩,⟨some 60, .indexS 59 (.c U2 0), some (58, true)⟩,⟨some 61, .bin .geq 60 (.c U1 49), some (58, true)⟩,w 62 (.pick 58 61 (.c .bool false)),m 63 62,⟨some 64, .mv 5, some (63, true)⟩,⟨some 65, .indexS 64 (.c U2 0), some (63, true)⟩,⟨some 66, .bin .leq 65 (.c U1 51), some (63, true)⟩,w 67 (.pick 63 66 (.c .bool false))]) (.cond (.t 67) (.seq (.reg [2, 5, 6, 30, 34, 73] [m 68 5,w 69 (.indexS 68 (.c U2 0)),w 70 (.convI .i64 69),w 71 (.bin .sub 70 (.c U2 48)),w 72 (.fieldAddr U18 [.r, .l] 6),⟨none, .store U2 72 71, none⟩]) (.reg [2, 6, 30, 34, 73] [w 5 (.asg (.c .str []))])) .skip)) (.seq (.draw [2, 5, 6, 30, 34, 73] [⟨w 73 (.load U18 6), [74, 75, 76, 77, 78, 79, 80], [73], [], false, []⟩,⟨m 74 5, [73], [74], [], false, []⟩,⟨w 75 (.bin .eql 74 (.c .str [])), [73], [75], [1], false, []⟩,⟨m 76 75, [73], [76], [1, 2], false, []⟩,⟨⟨some 77, .load U18 6, some (76, true)⟩, [73], [77], [1, 2, 3], false, []⟩,⟨⟨some 78, .call 66 [77], some (76, true)⟩, [73], [78], [1, 2, 3, 4], false, []⟩,⟨⟨some 79, .bin .eql 78 (.c U2 0), some (76, true)⟩, [2, 73], [79], [1, 2, 3, 4, 5], false, []⟩,⟨w 80 (.pick 76 79 (.c .bool false)), [2, 73], [80], [1, 2, 3, 4, 5, 6], false, []⟩,⟨⟨none, .store U18 2 73, none⟩, [79, 80], [2], [0, 1, 2, 3, 4, 5], false, []⟩,⟨w 3 (.asg 80), [], [3], [0, 1, 2, 3, 4, 5, 6, 7, 8], false, []⟩]) .ret)))))))))))
def d51 : FD := { nargs := 1, body := c51, res := [.cell 2 U18, .t 3] }
def c52 : AC := (.seq (.reg [0] [w 2 (.alloc U28 .no),w 3 (.asg (.c U2 0)),w 4 (.asg (.c U2 0))]) (.seq (.reg [0, 2, 8, 25, 33, 41, 49, 56, 73, 96, 133, 146, 148] [m 18 0,w 19 (.call 67 [18]),m 17 19,w 20 (.extract 17 0),w 21 (.extract 17 1),w 22 (.extract 17 2),w 5 (.asg 20),w 6 (.asg 21),w 7 (.asg 22)]) (.seq (.seq (.reg [2, 5, 6, 7, 8, 20, 25, 33, 41, 49, 56, 73, 96, 133, 146, 148] [m 23 7,w 24 (.bin .neq 23 (.c U2 0))]) (.cond (.t 24) (.seq (.reg [2, 6, 7, 8, 25, 33, 41, 49, 56, 73, 96, 133, 146, 148] [w 25 (.buildN U28 (.pair .no (.pair (.own true 66 .no) .no)) []),m 26 6,m 27 7,⟨none, .store U28 2 25, none⟩,w 3 (.asg 26),w 4 (.asg 27)]) .ret) .skip)) (.seq (.seq (.reg [2, 5, 8, 20, 25, 33, 41, 49, 56, 73, 96, 133, 146, 148] [m 28 5,w 29 (.call 68 [28, (.c U2 0), (.c U2 1), (.c .str [108, 105, 99, 101, 110, 99, 101])]),w 30 (.un .not 29)]) (.cond (.t 30) (.seq (.reg [2, 5, 8, 20, 25, 33, 41, 49, 56, 73, 96, 133, 146, 148] [m 31 5,w 32 (.call 69 [31, (.c U2 0)]),w 33 (.extract 32 0),w 34 (.extract 32 1),w 35 (.extract 32 2),⟨none, .store U28 2 33, none⟩,w 3 (.asg 34),w 4 (.asg 35)]) .ret) .skip)) (.seq (.seq (.reg [2, 5, 8, 20, 25, 33, 41, 49, 56, 73, 96, 133, 146, 148] [m 36 5,w 37 (.call 68 [36, (.c U2 1), (.c U2 1), (.c .str [])]),w 38 (.un .not 37)]) (.cond (.t 38) (.seq (.reg [2, 5, 8, 20, 25, 33, 41, 49, 56, 73, 96, 133, 146, 148] [m 39 5,w 40 (.call 69 [39, (.c U2 1)]),w 41 (.extract 40 0),w 42 (.extract 40 1),w 43 (.extract 40 2),⟨none, .store U28 2 41, none⟩,w 3 (.asg 42),w 4 (.asg 43)]) .ret) .skip)) (.seq (.seq (.reg [2, 5, 8, 20, 25, 33, 41, 49, 56, 73, 96, 133, 146, 148] [m 44 5,w 45 (.call 68 [44, (.c U2 2), (.c U2 4), (.c .str [123])]),w 46 (.un .not 45)]) (.cond (.t 46) (.seq (.reg [2, 5, 8, 20, 25, 33, 41, 49, 56, 73, 96, 133, 146, 148] [m 47 5,w 48 (.call 69 [47, (.c U2 2)]),w 49 (.extract 48 0),w 50 (.extract 48 1),w 51 (.extract 48 2),⟨none, .store U28 2 49, none⟩,w 3 (.asg 50),w 4 (.asg 51)]) .ret) .skip)) (.seq (.reg [2, 5, 8, 20, 25, 33, 41, 49, 56, 73, 96, 133, 146, 148] [m 52 5,w 53 (.indexAddr U19 52 (.c U2 1)),w 54 (.fieldAddr U19 [.r, .l] 53),w 55 (.load .str 54),w 56 (.buildN U28 (.pair .no (.pair (.own true 66 .no) .no)) [([.l], 55)]),w 8 (.alloc U28 (.pair .no (.pair (.own true 66 .no) .no))),⟨none, .store U28 8 56, none⟩]) (.seq (.reg [2, 5, 8, 20, 25, 33, 41, 49, 56, 73, 96, 133, 146, 148] [w 9 (.asg (.nil 3 U2))]) (.seq (.reg [2, 5, 8, 9, 20, 25, 33, 41, 49, 56, 73, 85, 96, 133, 146, 148] [w 10 (.asg (.c U2 3))]) (.seq (.block 0 (.loop [2, 5, 8, 9, 10, 20, 25, 33, 41, 49, 56, 73, 85, 96, 133, 146, 148] (.seq (.seq (.reg [2, 5, 8, 9, 10, 20, 25, 33, 41, 49, 56, 73, 85, 96, 133, 146, 148] [m 57 5,m 58 10,w 59 (.call 68 [57, 58, (.c U2 4), (.c .str [125])]),w 60 (.un .not 59)]) (.cond (.t 60) .skip (.exit 0))) (.block 1 (.seq (.reg [2, 5, 8, 9, 10, 20, 25, 33, 41, 49, 56, 73, 85, 96, 133, 146, 148] [m 62 5,m 63 10,w 64 (.call 70 [62, 63]),m 61 64,w 65 (.extract 61 0),w 66 (.extract 61 1),w 67 (.extract 61 2),w 11 (.alloc U21 (.pair .no (.pair .no (.pair (.own true 9 .no) .no)))),⟨none, .store U21 11 65, none⟩,w 12 (.asg 66),w 13 (.asg 67)]) (.seq (.seq (.reg [2, 5, 8, 9, 10, 11, 12, 13, 20, 25, 33, 41, 49, 56, 65, 73, 85, 96, 133, 146, 148] [m 68 13,w 69 (.un .not 68)]) (.cond (.t 69) (.seq (.reg [2, 5, 8, 12, 20, 25, 33, 41, 49, 56, 73, 96, 133, 146, 148] [m 70 5,m 71 12,w 72 (.call 69 [70, 71]),w 73 (.extract 72 0),w 74 (.extract 72 1),w 75 (.extract 72 2),⟨none, .store U28 2 73, none⟩,w 3 (.asg 74),w 4 (.asg 75)]) .ret) .skip)) (.seq (.reg [2, 5, 8, 9, 10, 11, 12, 20, 25, 33, 41, 49, 56, 65, 73, 85, 96, 133, 146, 148] [w 76 (.fieldAddr U28 [.r, .l] 8),w 77 (.load U23 76),w 78 (.load U21 11),w 79 (.buildSlice 66 U21 [78]),w 80 (.append 66 U21 3518437208883 77 79),w 81 (.fieldAddr U28 [.r, .l] 8),⟨none, .store U23 81 80, none⟩]) (.seq (.reg [2, 5, 8, 9, 10, 12, 20, 25, 33, 41, 49, 56, 73, 85, 96, 133, 146, 148] [m 82 9,m 83 10,w 84 (.buildSlice 3 U2 [83]),w 85 (.append 3 U2 17592186044416 82 84),w 9 (.asg 85)]) (.reg [2, 5, 8, 9, 12, 20, 25, 33, 41, 49, 56, 73, 85, 96, 133, 146, 148] [m 86 12,w 10 (.asg 86)]))))))))) (.seq (.seq (.reg [2, 5, 8, 9, 10, 20, 25, 33, 41, 49, 56, 73, 85, 96, 133, 146, 148] [m 87 10,w 88 (.bin .add 87 (.c U2 1)),m 89 5,w 90 (.lenL 89),w 91 (.bin .neq 88 90)]) (.cond (.t 91) (.seq (.reg [2, 5, 8, 10, 20, 25, 33, 41, 49, 56, 73, 96, 133, 146, 148] [m 92 5,m 93 10,w 94 (.bin .add 93 (.c U2 1)),w 95 (.call 69 [92, 94]),w 96 (.extract 95 0),w 97 (.extract 95 1),w 98 (.extract 95 2),⟨none, .store U28 2 96, none⟩,w 3 (.asg 97),w 4 (.asg 98)]) .ret) .skip)) (.seq (.seq (.reg [2, 5, 8, 9, 20, 25, 33, 41, 49, 56, 73, 85, 96, 133, 146, 148] [w 14 (.asg (.c U2 0))]) (.block 2 (.loop [2, 5, 8, 9, 14, 20, 25, 33, 41, 49, 56, 73, 85, 96, 133, 146, 148] (.seq (.seq (.reg [2, 5, 8, 9, 14, 20, 25, 33, 41, 49, 56, 73, 85, 96, 133, 146, 148] [m 99 14,m 100 9,w 101 (.lenL 100),w 102 (.bin .lss 99 101)]) (.cond (.t 102) .skip (.exit 2))) (.seq (.block 3 (.seq (.seq (.reg [2, 5, 8, 9, 14, 20, 25, 33, 41, 49, 56, 73, 85, 96, 133, 146, 148] [w 15 (.asg (.c U2 1))]) (.block 4 (.loop [2, 5, 8, 9, 14, 15, 20, 25, 33, 41, 49, 56, 73, 85, 96, 133, 146, 148] (.seq (.seq (.reg [2, 5, 8, 9, 14, 15, 20, 25, 33, 41, 49, 56, 73, 85, 96, 133, 146, 148] [m 105 15,w 106 (.bin .leq 105 (.c U2 12))]) (.cond (.t 106) .skip (.exit 4))) (.seq (.block 5 (.seq (.draw [2, 5, 8, 9, 14, 15, 20, 25, 33, 41, 49, 56, 73, 85, 96, 133, 146, 148] [⟨m 109 15, [111, 112, 113, 114, 115, 116, 117, 118], [109], [], false, []⟩,⟨w 110 (.call 71 [109]), [111, 112, 113, 114, 115, 116, 117, 118], [110], [0], false, []⟩,⟨m 111 5, [109, 110, 112, 113, 114, 115], [111], [], false, []⟩,⟨m 112 9, [109, 110, 111, 113], [112], [], false, []⟩,⟨m 113 14, [109, 110, 111, 112], [113], [], false, []⟩,⟨w 114 (.indexAddr U2 112 113), [109, 110, 111], [114], [3, 4], false, []⟩,⟨w 115 (.load U2 114), [109, 110, 111], [115], [3, 4, 5], false, []⟩,⟨w 116 (.indexAddr U19 111 115), [109, 110], [116], [2, 3, 4, 5, 6], false, []⟩,⟨w 117 (.fieldAddr U19 [.r, .l] 116), [109, 110], [117], [2, 3, 4, 5, 6, 7], false, []⟩,⟨w 118 (.load .str 117), [109, 110], [118], [2, 3, 4, 5, 6, 7, 8], false, []⟩,⟨w 119 (.bin .eql 110 118), [], [119], [0, 1, 2, 3, 4, 5, 6, 7, 8, 9], false, []⟩]) (.cond (.t 119) (.reg [2, 5, 8, 9, 14, 15, 20, 25, 33, 41, 49, 56, 73, 85, 96, 133, 146, 148] [w 120 (.fieldAddr U28 [.r, .l] 8),w 121 (.load U23 120),m 122 14,m 123 15,w 124 (.indexAddr U21 121 122),w 125 (.fieldAddr U21 [.l] 124),⟨none, .store U2 125 123, none⟩]) .skip))) (.reg [2, 5, 8, 9, 14, 15, 20, 25, 33, 41, 49, 56, 73, 85, 96, 133, 146, 148] [m 107 15,w 108 (.bin .add 107 (.c U2 1)),w 15 (.asg 108)])))))) (.seq (.reg [2, 5, 8, 9, 14, 20, 25, 33, 41, 49, 56, 73, 85, 96, 133, 146, 148] [w 126 (.fieldAddr U28 [.r, .l] 8),w 127 (.load U23 126),m 128 14,w 129 (.indexAddr U21 127 128),w 130 (.fieldAddr U21 [.l] 129),w 131 (.load U2 130),w 132 (.bin .eql 131 (.c U2 0))]) (.cond (.t 132) (.seq (.draw [2, 5, 8, 9, 14, 20, 25, 33, 41, 49, 56, 73, 85, 96, 133, 146, 148] [⟨w 133 (.build U28 []), [134, 135, 136, 137, 138, 139, 140, 141], [133], [], false, []⟩,⟨m 134 5, [2, 133, 135, 136, 137, 138], [134], [], false, []⟩,⟨m 135 9, [2, 133, 134, 136], [135], [], false, []⟩,⟨m 136 14, [2, 133, 134, 135], [136], [], false, []⟩,⟨w 137 (.indexAddr U2 135 136), [2, 133, 134], [137], [2, 3], false, []⟩,⟨w 138 (.load U2 137), [2, 133, 134], [138], [2, 3, 4], false, []⟩,⟨w 139 (.indexAddr U19 134 138), [2, 133], [139], [1, 2, 3, 4, 5], false, []⟩,⟨w 140 (.fieldAddr U19 [.r, .r, .l] 139), [2, 133], [140], [1, 2, 3, 4, 5, 6], false, []⟩,⟨w 141 (.load U2 140), [2, 133], [141], [1, 2, 3, 4, 5, 6, 7], false, []⟩,⟨⟨none, .store U28 2 133, none⟩, [134, 135, 136, 137, 138, 139, 140, 141], [2], [0], false, []⟩,⟨w 3 (.asg 141), [], [3], [0, 1, 2, 3, 4, 5, 6, 7, 8, 9], false, []⟩,⟨w 4 (.asg (.c U2 9)), [], [4], [0, 1, 2, 3, 4, 5, 6, 7, 8, 9, 10], false, []⟩]) .ret) .skip)))) (.reg [2, 5, 8, 9, 14, 20, 25, 33, 41, 49, 56, 73, 85, 96, 133, 146, 148] [m 103 14,w 104 (.bin .add 103 (.c U2 1)),w 14 (.asg 104)])))))) (.seq (.seq (.reg [2, 8, 25, 33, 41, 49, 56, 73, 96, 133, 146, 148] [w 142 (.load U28 8),w 143 (.call 12 [142]),w 16 (.asg 143)]) (.seq (.reg [2, 8, 16, 25, 33, 41, 49, 56, 73, 96, 133, 146, 148] [m 144 16,w 145 (.bin .neq 144 (.c U2 0))]) (.cond (.t 145) (.seq (.reg [2, 8, 16, 25, 33, 41, 49, 56, 73, 96, 133, 146, 148] [w 146 (.buildN U28 (.pair .no (.pair (.own true 66 .no) .no)) []),m 147 16,⟨none, .store U28 2 146, none⟩,w 3 (.asg (.c U2 0)),w 4 (.asg 147)]) .ret) .skip))) (.seq (.reg [2, 8, 25, 33, 41, 49, 56, 73, 96, 133, 146, 148] [w 148 (.load U28 8),⟨none, .store U28 2 148, none⟩,w 3 (.asg (.c U2 0)),w 4 (.asg (.c U2 0))]) .ret))))))))))))))
def d52 : FD := { nargs := 1, body := c52, res := [.cell 2 U28, .t 3, .t 4] }
def c63 : AC := (.seq (.reg [0, 1] [w 4 (.asg (.c .bool false))]) (.seq (.reg [0, 1] [m 5 0,m 6 1,w 7 (.call 80 [5, 6]),w 8 (.bin .geq 7 (.c U2 0)),w 4 (.asg 8)]) .ret))
def d63 : FD := { nargs := 2, body := c63, res := [.t 4] }
def c64 : AC := (.seq (.reg [0, 1] [w 4 (.asg (.c U2 0))]) (.seq (.seq (.reg [0, 1] [m 5 0,m 6 1,w 7 (.bin .lss 5 6)]) (.cond (.t 7) (.seq (.reg [] [w 4 (.asg (.c U2 (-1)))]) .ret) .skip)) (.seq (.seq (.reg [0, 1] [m 8 0,m 9 1,w 10 (.bin .gtr 8 9)]) (.cond (.t 10) (.seq (.reg [] [w 4 (.asg (.c U2 1))]) .ret) .skip)) (.seq (.reg [] [w 4 (.asg (.c U2 0))]) .ret))))
def d64 : FD := { nargs := 2, body := c64, res := [.t 4] }
def c65 : AC := (.seq (.reg [] [w 0 (.asg (.c .str []))]) (.seq (.reg [] [w 0 (.asg (.c .str [32, 118, 100, 109, 108, 110, 115, 120, 103, 98]))]) .ret))
def d65 : FD := { nargs := 0, body := c65, res := [.t 0] }
def c66 : AC := (.seq (.reg [0] [w 1 (.box U18 0),w 2 (.asg (.c U2 0))]) (.seq (.seq (.reg [1] [w 5 (.fieldAddr U18 [.l] 1),w 6 (.load U2 5),w 7 (.bin .lss 6 (.c U2 1)),m 8 7,⟨some 9, .fieldAddr U18 [.l] 1, some (8, false)⟩,⟨some 10, .load U2 9, some (8, false)⟩,⟨some 11, .bin .gtr 10 (.c U2 9), some (8, false)⟩,w 12 (.pick 8 (.c .bool true) 11)]) (.cond (.t 12) (.seq (.reg [] [w 2 (.asg (.c U2 1))]) .ret) .skip)) (.seq (.reg [1] [w 13 (.fieldAddr U18 [.r, .l] 1),w 14 (.load U2 13),w 15 (.bin .eql 14 (.c U2 0)),w 3 (.asg 15)]) (.seq (.seq (.reg [1, 3] [w 16 (.fieldAddr U18 [.l] 1),w 17 (.load U2 16),w 18 (.bin .eql 17 (.c U2 1))]) (.cond (.t 18) (.reg [1] [w 19 (.fieldAddr U18 [.r, .l] 1),w 20 (.load U2 19),w 21 (.bin .geq 20 (.c U2 1)),m 22 21,⟨some 23, .fieldAddr U18 [.r, .l] 1, some (22, true)⟩,⟨some 24, .load U2 23, some (22, true)⟩,⟨some 25, .bin .leq 24 (.c U2 3), some (22, true)⟩,w 26 (.pick 22 25 (.c .bool false)),w 3 (.asg 26)]) .skip)) (.seq (.seq (.reg [1, 3] [w 27 (.fieldAddr U18 [.l] 1),w 28 (.load U2 27),w 29 (.bin .eql 28 (.c U2 2))]) (.cond (.t 29) (.reg [1] [w 30 (.fieldAddr U18 [.r, .l] 1),w 31 (.load U2 30),w 32 (.bin .eql 31 (.c U2 2)),w 3 (.asg 32)]) .skip)) (.seq (.seq (.reg [1, 3] [m 33 3,w 34 (.un .not 33)]) (.cond (.t 34) (.seq (.reg [] [w 2 (.asg (.c U2 6))]) .ret) .skip)) (.seq (.seq (.reg [1] [w 35 (.fieldAddr U18 [.r, .r, .l] 1),w 36 (.load .str 35),w 37 (.bin .eql 36 (.c .str []))]) (.cond (.t 37) (.seq (.reg [] [w 2 (.asg (.c U2 7))]) .ret) .skip)) (.seq (.seq (.reg [1] [w 38 (.fieldAddr U18 [.r, .r, .l] 1),w 39 (.load .str 38),w 40 (.lenS 39),w 41 (.bin .gtr 40 (.c U2 8))]) (.cond (.t 41) (.seq (.reg [] [w 2 (.asg (.c U2 3))]) .ret) .skip)) (.seq (.seq (.reg [1] [w 4 (.asg (.c U2 0))]) (.block 0 (.loop [1, 4] (.seq (.seq (.reg [1, 4] [m 42 4,w 43 (.fieldAddr U18 [.r, .r, .l] 1),w 44 (.load .str 43),w 45 (.lenS 44),w 46 (.bin .lss 42 45)]) (.cond (.t 46) .skip (.exit 0))) (.seq (.block 1 (.seq (.reg [1, 4] [w 49 (.fieldAddr U18 [.r, .r, .l] 1),w 50 (.load .str 49),m 51 4,w 52 (.indexS 50 51),w 53 (.call 81 [52]),w 54 (.un .not 53)]) (.cond (.t 54) (.seq (.reg [] [w 2 (.asg (.c U2 2))]) .ret) .skip))) (.reg [1, 4] [m 47 4,w 48 (.bin .add 47 (.c U2 1)),w 4 (.asg 48)])))))) (.seq (.reg [] [w 2 (.asg (.c U2 0))]) .ret))))))))))
def d66 : FD := { nargs := 1, body := c66, res := [.t 2] }
def c67 : AC := (.seq (.reg [0] [w 2 (.asg (.nil 104 U19)),w 3 (.asg (.c U2 0)),w 4 (.asg (.c U2 0))]) (.seq (.seq (.reg [0] [m 11 0,w 12 (.lenS 11),w 13 (.bin .gtr 12 (.c U2 20000))]) (.cond (.t 13) (.seq (.reg [] [w 2 (.asg (.nil 104 U19)),w 3 (.asg (.c U2 0)),w 4 (.asg (.c U2 3))]) .ret) .skip)) (.seq (.reg [0] [w 5 (.asg (.nil 104 U19))]) (.seq (.reg [0, 5, 52] [w 6 (.asg (.c U2 1))]) (.seq (.reg [0, 5, 6, 52] [w 7 (.asg (.c U2 0))]) (.block 0 (.loop [0, 5, 6, 7, 52] (.block 1 (.seq (.reg [0, 5, 6, 7, 52] [m 14 0,m 15 7,w 16 (.sliceS 14 (some 15) none),w 17 (.call 82 [16]),w 8 (.asg 17)]) (.seq (.reg [0, 5, 6, 7, 8, 52] [m 18 6,m 19 0,m 20 7,m 21 7,m 22 8,w 23 (.bin .add 21 22),w 24 (.sliceS 19 (some 20) (some 23)),w 25 (.call 83 [24]),w 26 (.bin .add 18 25),w 6 (.asg 26)]) (.seq (.reg [0, 5, 6, 7, 8, 52] [m 27 7,m 28 8,w 29 (.bin .add 27 28),w 7 (.asg 29)]) (.seq (.seq (.reg [0, 5, 6, 7, 52] [m 30 7,m 31 0,w 32 (.lenS 31),w 33 (.bin .eql 30 32)]) (.cond (.t 33) (.seq (.reg [5, 52] [m 34 5,w 2 (.asg 34),w 3 (.asg (.c U2 0)),w 4 (.asg (.c U2 0))]) .ret) .skip)) (.seq (.reg [0, 5, 6, 7, 52] [m 36 0,m 37 7,w 38 (.sliceS 36 (some 37) none),w 39 (.call 84 [38]),m 35 39,w 40 (.extract 35 0),w 41 (.extract 35 1),w 42 (.extract 35 2),w 9 (.alloc U19 .no),⟨none, .store U19 9 40, none⟩,w 8 (.asg 41),w 10 (.asg 42)]) (.seq (.seq (.reg [0, 5, 6, 7, 8, 9, 10, 40, 52] [m 43 10,w 44 (.bin .neq 43 (.c U2 0))]) (.cond (.t 44) (.seq (.reg [6, 10] [m 45 6,m 46 10,w 2 (.asg (.nil 104 U19)),w 3 (.asg 45),w 4 (.asg 46)]) .ret) .skip)) (.seq (.reg [0, 5, 6, 7, 8, 9, 40, 52] [m 47 6,w 48 (.fieldAddr U19 [.r, .r, .l] 9),⟨none, .store U2 48 47, none⟩]) (.seq (.reg [0, 5, 6, 7, 8, 9, 40, 52] [m 49 5,w 50 (.load U19 9),w 51 (.buildSlice 104 U19 [50]),w 52 (.append 104 U19 4398046511104 49 51),w 5 (.asg 52)]) (.reg [0, 5, 6, 7, 8, 52] [m 53 7,m 54 8,w 55 (.bin .add 53 54),w 7 (.asg 55)])))))))))))))))))
def d67 : FD := { nargs := 1, body := c67, res := [.t 2, .t 3, .t 4] }
def c68 : AC := (.seq (.reg [0, 1, 2, 3] [w 8 (.asg (.c .bool false))]) (.seq (.reg [0, 1, 2, 3] [m 9 1,m 10 0,w 11 (.lenL 10),w 12 (.bin .lss 9 11),m 13 12,⟨some 14, .mv 0, some (13, true)⟩,⟨some 15, .mv 1, some (13, true)⟩,⟨some 16, .indexAddr U19 14 15, some (13, true)⟩,⟨some 17, .fieldAddr U19 [.l] 16, some (13, true)⟩,⟨some 18, .load U2 17, some (13, true)⟩,⟨some 19, .mv 2, some (13, true)⟩,⟨some 20, .bin .eql 18 19, some (13, true)⟩,w 21 (.pick 13 20 (.c .bool false)),m 22 21,⟨some 23, .mv 3, some (22, true)⟩,⟨some 24, .bin .eql 23 (.c .str []), some (22, true)⟩,⟨some 25, .mv 24, some (22, true)⟩,⟨some 26, .mv 0, some (25, false)⟩,⟨some 27, .mv 1, some (25, false)⟩,⟨some 28, .indexAddr U19 26 27, some (25, false)⟩,⟨some 29, .fieldAddr U19 [.r, .l] 28, some (25, false)⟩,⟨some 30, .load .str 29, some (25, false)⟩,⟨some 31, .mv 3, some (25, false)⟩,⟨some 32, .bin .eql 30 31, some (25, false)⟩,⟨some 33, .pick 25 (.c .bool true) 32, some (22, true)⟩,w 34 (.pick 22 33 (.c .bool false)),w 8 (.asg 34)]) .ret))
def d68 : FD := { nargs := 4, body := c68, res := [.t 8] }
def c69 : AC := (.seq (.reg [0, 1] [w 4 (.alloc U28 .no),w 5 (.asg (.c U2 0)),w 6 (.asg (.c U2 0))]) (.seq (.seq (.reg [0, 1, 4, 11, 20, 28] [m 7 1,m 8 0,w 9 (.lenL 8),w 10 (.bin .lss 7 9)]) (.cond (.t 10) (.seq (.draw [0, 1, 4, 11, 20, 28] [⟨w 11 (.build U28 []), [12, 13, 14, 15, 16], [11], [], false, []⟩,⟨m 12 0, [4, 11, 13], [12], [], false, []⟩,⟨m 13 1, [4, 11, 12], [13], [], false, []⟩,⟨w 14 (.indexAddr U19 12 13), [4, 11], [14], [1, 2], false, []⟩,⟨w 15 (.fieldAddr U19 [.r, .r, .l] 14), [4, 11], [15], [1, 2, 3], false, []⟩,⟨w 16 (.load U2 15), [4, 11], [16], [1, 2, 3, 4], false, []⟩,⟨⟨none, .store U28 4 11, none⟩, [12, 13, 14, 15, 16], [4], [0], false, []⟩,⟨w 5 (.asg 16), [], [5], [0, 1, 2, 3, 4, 5, 6], false, []⟩,⟨w 6 (.asg (.c U2 2)), [], [6], [0, 1, 2, 3, 4, 5, 6, 7], false, []⟩]) .ret) .skip)) (.seq (.seq (.reg [0, 4, 11, 20, 28] [m 17 0,w 18 (.lenL 17),w 19 (.bin .gtr 18 (.c U2 0))]) (.cond (.t 19) (.seq (.draw [0, 4, 11, 20, 28] [⟨w 20 (.build U28 []), [21, 22, 23, 24, 25, 26, 27], [20], [], false, []⟩,⟨m 21 0, [4, 20, 22, 23, 24], [21], [], false, []⟩,⟨m 22 0, [4, 20, 21], [22], [], false, []⟩,⟨w 23 (.lenL 22), [4, 20, 21], [23], [2], false, []⟩,⟨w 24 (.bin .sub 23 (.c U2 1)), [4, 20, 21], [24], [2, 3], false, []⟩,⟨w 25 (.indexAddr U19 21 24), [4, 20], [25], [1, 2, 3, 4], false, []⟩,⟨w 26 (.fieldAddr U19 [.r, .r, .l] 25), [4, 20], [26], [1, 2, 3, 4, 5], false, []⟩,⟨w 27 (.load U2 26), [4, 20], [27], [1, 2, 3, 4, 5, 6], false, []⟩,⟨⟨none, .store U28 4 20, none⟩, [21, 22, 23, 24, 25, 26, 27], [4], [0], false, []⟩,⟨w 5 (.asg 27), [], [5], [0, 1, 2, 3, 4, 5, 6, 7, 8], false, []⟩,⟨w 6 (.asg (.c U2 2)), [], [6], [0, 1, 2, 3, 4, 5, 6, 7, 8, 9], false, []⟩]) .ret) .skip)) (.seq (.reg [4, 11, 20, 28] [w 28 (.buildN U28 (.pair .no (.pair (.own true 66 .no) .no)) []),⟨none, .store U28 4 28, none⟩,w 5 (.asg (.c U2 1)),w 6 (.asg (.c U2 2))]) .ret))))
def d69 : FD := { nargs := 2, body := c69, res := [.cell 4 U28, .t 5, .t 6] }
def c70 : AC := (.seq (.reg [0, 1] [w 4 (.alloc U21 (.pair .no (.pair .no (.pair (.own true 9 .no) .no)))),w 5 (.asg (.c U2 0)),w 6 (.asg (.c .bool false))]) (.seq (.reg [0, 1, 4, 7, 12, 19, 43, 67, 69] [w 7 (.alloc U21 (.pair .no (.pair .no (.pair (.own true 9 .no) .no))))]) (.seq (.seq (.reg [0, 1, 4, 7, 12, 19, 43, 67, 69] [m 8 0,m 9 1,w 10 (.call 68 [8, 9, (.c U2 1), (.c .str [])]),w 11 (.un .not 10)]) (.cond (.t 11) (.seq (.reg [1, 4, 7, 12, 19, 43, 67, 69] [w 12 (.load U21 7),m 13 1,⟨none, .store U21 4 12, none⟩,w 5 (.asg 13),w 6 (.asg (.c .bool false))]) .ret) .skip)) (.seq (.seq (.reg [0, 1, 4, 7, 12, 19, 43, 67, 69] [m 14 0,m 15 1,w 16 (.bin .add 15 (.c U2 1)),w 17 (.call 68 [14, 16, (.c U2 2), (.c .str [])]),w 18 (.un .not 17)]) (.cond (.t 18) (.seq (.reg [1, 4, 7, 12, 19, 43, 67, 69] [w 19 (.load U21 7),m 20 1,w 21 (.bin .add 20 (.c U2 1)),⟨none, .store U21 4 19, none⟩,w 5 (.asg 21),w 6 (.asg (.c .bool false))]) .ret) .skip)) (.seq (.reg [0, 1, 4, 7, 12, 19, 43, 67, 69] [m 23 0,m 24 1,w 25 (.bin .add 24 (.c U2 1)),w 26 (.indexAddr U19 23 25),w 27 (.fieldAddr U19 [.r, .l] 26),w 28 (.load .str 27),w 29 (.call 85 [28]),m 22 29,w 30 (.extract 22 0),w 31 (.extract 22 1),w 32 (.fieldAddr U21 [.r, .l] 7),⟨none, .store U2 32 30, none⟩]) (.seq (.reg [0, 1, 4, 7, 12, 19, 43, 67, 69] [m 33 1,w 34 (.bin .add 33 (.c U2 2)),w 1 (.asg 34)]) (.seq (.seq (.reg [0, 1, 4, 7, 12, 19, 43, 67, 69] [m 35 0,m 36 1,w 37 (.call 68 [35, 36, (.c U2 1), (.c .str [105, 110])])]) (.cond (.t 37) (.block 0 (.loop [0, 1, 4, 7, 12, 19, 43, 67, 69] (.block 1 (.seq (.seq (.reg [0, 1, 4, 7, 12, 19, 43, 67, 69] [m 38 0,m 39 1,w 40 (.bin .add 39 (.c U2 1)),w 41 (.call 68 [38, 40, (.c U2 3), (.c .str [])]),w 42 (.un .not 41)]) (.cond (.t 42) (.seq (.reg [1, 4, 7, 12, 19, 43, 67, 69] [w 43 (.load U21 7),m 44 1,w 45 (.bin .add 44 (.c U2 1)),⟨none, .store U21 4 43, none⟩,w 5 (.asg 45),w 6 (.asg (.c .bool false))]) .ret) .skip)) (.seq (.draw [0, 1, 4, 7, 12, 19, 43, 67, 69] [⟨w 46 (.fieldAddr U21 [.r, .r, .l] 7), [48, 49, 50, 51, 52, 53, 54], [46], [], false, []⟩,⟨w 47 (.load U0 46), [48, 49, 50, 51, 52, 53, 54], [47], [0], false, []⟩,⟨m 48 0, [46, 47, 49, 50], [48], [], false, []⟩,⟨m 49 1, [46, 47, 48], [49], [], false, []⟩,⟨w 50 (.bin .add 49 (.c U2 1)), [46, 47, 48], [50], [3], false, []⟩,⟨w 51 (.indexAddr U19 48 50), [46, 47], [51], [2, 3, 4], false, []⟩,⟨w 52 (.fieldAddr U19 [.r, .l] 51), [46, 47], [52], [2, 3, 4, 5], false, []⟩,⟨w 53 (.load .str 52), [46, 47], [53], [2, 3, 4, 5, 6], false, []⟩,⟨w 54 (.buildSlice 9 .str [53]), [46, 47], [54], [2, 3, 4, 5, 6, 7], false, []⟩,⟨w 55 (.append 9 .str 8796093022208 47 54), [], [55], [0, 1, 2, 3, 4, 5, 6, 7, 8], true, []⟩,⟨w 56 (.fieldAddr U21 [.r, .r, .l] 7), [], [56], [0, 1, 2, 3, 4, 5, 6, 7, 8, 9], false, []⟩,⟨⟨none, .store U0 56 55, none⟩, [], [7, 56], [0, 1, 2, 3, 4, 5, 6, 7, 8, 9, 10], true, []⟩]) (.seq (.reg [0, 1, 4, 7, 12, 19, 43, 67, 69] [m 57 1,w 58 (.bin .add 57 (.c U2 2)),w 1 (.asg 58)]) (.seq (.reg [0, 1, 4, 7, 12, 19, 43, 67, 69] [m 59 0,m 60 1,w 61 (.call 68 [59, 60, (.c U2 4), (.c .str [44])]),w 62 (.un .not 61)]) (.cond (.t 62) (.exit 0) .skip)))))))) .skip)) (.seq (.seq (.reg [0, 1, 4, 7, 12, 19, 43, 67, 69] [m 63 0,m 64 1,w 65 (.call 68 [63, 64, (.c U2 4), (.c .str [59])]),w 66 (.un .not 65)]) (.cond (.t 66) (.seq (.reg [1, 4, 7, 12, 19, 43, 67, 69] [w 67 (.load U21 7),m 68 1,⟨none, .store U21 4 67, none⟩,w 5 (.asg 68),w 6 (.asg (.c .bool false))]) .ret) .skip)) (.seq (.reg [1, 4, 7, 12, 19, 43, 67, 69] [w 69 (.load U21 7),m 70 1,w 71 (.bin .add 70 (.c U2 1)),⟨none, .store U21 4 69, none⟩,w 5 (.asg 71),w 6 (.asg (.c .bool true))]) .ret)))))))))
def d70 : FD := { nargs := 2, body := c70, res := [.cell 4 U21, .t 5, .t 6] }
def c71 : AC := (.seq (.reg [0] [w 2 (.asg (.c .str []))]) (.seq (.seq (.reg [0] [m 3 0,w 4 (.bin .lss 3 (.c U2 1)),m 5 4,⟨some 6, .mv 0, some (5, false)⟩,⟨some 7, .bin .gtr 6 (.c U2 12), some (5, false)⟩,w 8 (.pick 5 (.c .bool true) 7)]) (.cond (.t 8) (.seq (.reg [] [w 2 (.asg (.c .str []))]) .ret) .skip)) (.seq (.reg [0] [w 9 (.buildSlice 9 .str [(.c .str [109, 117, 116, 101]), (.c .str [110, 101, 120, 116]), (.c .str [98, 114, 101, 118, 105, 115]), (.c .str [105, 110, 100, 105, 102, 102, 101, 114, 101, 110, 116]), (.c .str [108, 101, 110, 103, 116, 104, 101, 110]), (.c .str [115, 104, 111, 114, 116, 101, 110]), (.c .str [115, 121, 110, 105, 122, 101, 115, 105, 115]), (.c .str [101, 108, 105, 115, 105, 111, 110]), (.c .str [101, 99, 116, 104, 108, 105, 112, 115, 105, 115]), (.c .str [112, 114, 111, 100, 101, 108, 105, 115, 105, 111, 110]), (.c .str [104, 105, 97, 116, 117, 115]), (.c .str [99, 111, 114, 114, 101, 112, 116, 105, 111, 110])]),m 10 0,w 11 (.bin .sub 10 (.c U2 1)),w 12 (.indexAddr .str 9 11),w 13 (.load .str 12),w 2 (.asg 13)]) .ret)))
def d71 : FD := { nargs := 1, body := c71, res := [.t 2] }
def c80 : AC := (.seq (.reg [0, 1] [w 4 (.asg (.c U2 0))]) (.seq (.seq (.reg [0, 1] [m 6 0,w 7 (.lenL 6),w 8 (.mv (.c U2 0))]) (.block 0 (.loop [0, 1, 7, 8] (.seq (.reg [0, 1, 7, 8] [w 9 (.bin .lss 8 7)]) (.seq (.cond (.t 9) .skip (.exit 0)) (.seq (.block 1 (.seq (.reg [0, 1, 7, 8] [m 10 8,w 5 (.asg 10)]) (.seq (.reg [0, 1, 5, 7, 8] [m 11 1,m 12 0,m 13 5,w 14 (.indexAddr U2 12 13),w 15 (.load U2 14),w 16 (.bin .eql 11 15)]) (.cond (.t 16) (.seq (.reg [5] [m 17 5,w 4 (.asg 17)]) .ret) .skip)))) (.reg [0, 1, 7, 8] [w 18 (.bin .add 8 (.c U2 1)),m 8 18]))))))) (.seq (.reg [] [w 4 (.asg (.c U2 (-1)))]) .ret)))
def d80 : FD := { nargs := 2, body := c80, res := [.t 4] }
def c81 : AC := (.seq (.reg [0] [w 2 (.asg (.c .bool false))]) (.seq (.reg [0] [m 3 0,w 4 (.bin .geq 3 (.c U1 97)),m 5 4,⟨some 6, .mv 0, some (5, true)⟩,⟨some 7, .bin .leq 6 (.c U1 122), some (5, true)⟩,w 8 (.pick 5 7 (.c .bool false)),m 9 8,⟨some 10, .mv 0, some (9, false)⟩,⟨some 11, .bin .geq 10 (.c U1 48), some (9, false)⟩,⟨some 12, .mv 11, some (9, false)⟩,⟨some 13, .mv 0, some (12, true)⟩,⟨some 14, .bin .leq 13 (.c U1 57), some (12, true)⟩,⟨some 15, .pick 12 14 (.c .bool false), some (9, false)⟩,w 16 (.pick 9 (.c .bool true) 15),m 17 16,⟨some 18, .mv 0, some (17, false)⟩,⟨some 19, .bin .eql 18 (.c U1 95), some (17, false)⟩,w 20 (.pick 17 (.c .bool true) 19),m 21 20,⟨some 22, .mv 0, some (21, false)⟩,⟨some 23, .bin .eql 22 (.c U1 94), some (21, false)⟩,w 24 (.pick 21 (.c .bool true) 23),m 25 24,⟨some 26, .mv 0, some (25, false)⟩,⟨some 27, .bin .eql 26 (.c U1 39), some (25, false)⟩,w 28 (.pick 25 (.c .bool true) 27),w 2 (.asg 28)]) .ret))
def d81 : FD := { nargs := 1, body := c81, res := [.t 2] }
def c82 : AC := (.seq (.reg [0] [w 2 (.asg (.c U2 0))]) (.seq (.reg [0] [w 3 (.asg (.c U2 0))]) (.seq (.block 0 (.loop [0, 3] (.seq (.seq (.reg [0, 3] [m 4 3,m 5 0,w 6 (.lenS 5),w 7 (.bin .lss 4 6)]) (.cond (.t 7) .skip (.exit 0))) (.block 1 (.seq (.reg [0, 3] [m 8 0,m 9 3,w 10 (.indexS 8 9)]) (.block 2 (.seq (.seq (.reg [0, 3, 10] [w 13 (.bin .eql 10 (.c U1 32)),w 12 (.asg 13)]) (.cond (.t 12) .skip (.seq (.reg [0, 3, 10] [w 14 (.bin .eql 10 (.c U1 9)),w 12 (.asg 14)]) (.cond (.t 12) .skip (.seq (.reg [0, 3, 10] [w 15 (.bin .eql 10 (.c U1 10)),w 12 (.asg 15)]) (.cond (.t 12) .skip (.reg [0, 3, 10] [w 16 (.bin .eql 10 (.c U1 13)),w 12 (.asg 16)]))))))) (.cond (.t 12) (.reg [0, 3] [m 17 3,w 18 (.bin .add 17 (.c U2 1)),w 3 (.asg 18)]) (.seq (.reg [0, 3, 10] [w 20 (.bin .eql 10 (.c U1 35)),w 19 (.asg 20)]) (.cond (.t 19) (.block 3 (.loop [0, 3] (.seq (.seq (.reg [0, 3] [m 21 3,m 22 0,w 23 (.lenS 22),w 24 (.bin .lss 21 23),m 25 24,⟨some 26, .mv 0, some (25, true)⟩,⟨some 27, .mv 3, some (25, true)⟩,⟨some 28, .indexS 26 27, some (25, true)⟩,⟨some 29, .bin .neq 28 (.c U1 10), some (25, true)⟩,w 30 (.pick 25 29 (.c .bool false))]) (.cond (.t 30) .skip (.exit 3))) (.block 4 (.reg [0, 3] [m 31 3,w 32 (.bin .add 31 (.c U2 1)),w 3 (.asg 32)]))))) (.seq (.reg [3] [m 11 3,w 2 (.asg 11)]) .ret))))))))))) (.seq (.reg [3] [m 33 3,w 2 (.asg 33)]) .ret))))
def d82 : FD := { nargs := 1, body := c82, res := [.t 2] }
def c83 : AC := (.seq (.reg [0] [w 2 (.asg (.c U2 0))]) (.seq (.reg [0] [w 3 (.asg (.c U2 0))]) (.seq (.seq (.reg [0, 3] [w 4 (.asg (.c U2 0))]) (.block 0 (.loop [0, 3, 4] (.seq (.seq (.reg [0, 3, 4] [m 5 4,m 6 0,w 7 (.lenS 6),w 8 (.bin .lss 5 7)]) (.cond (.t 8) .skip (.exit 0))) (.seq (.block 1 (.seq (.reg [0, 3, 4] [m 11 0,m 12 4,w 13 (.indexS 11 12),w 14 (.bin .eql 13 (.c U1 10))]) (.cond (.t 14) (.reg [0, 3, 4] [m 15 3,w 16 (.bin .add 15 (.c U2 1)),w 3 (.asg 16)]) .skip))) (.reg [0, 3, 4] [m 9 4,w 10 (.bin .add 9 (.c U2 1)),w 4 (.asg 10)])))))) (.seq (.reg [3] [m 17 3,w 2 (.asg 17)]) .ret))))
def d83 : FD := { nargs := 1, body := c83, res := [.t 2] }
def c84 : AC := (.seq (.reg [0] [w 2 (.alloc U19 .no),w 3 (.asg (.c U2 0)),w 4 (.asg (.c U2 0))]) (.seq (.seq (.reg [0, 2, 13, 17, 25, 33, 37, 44, 52, 53] [m 7 0,w 8 (.call 58 [7]),w 5 (.asg 8)]) (.seq (.reg [0, 2, 5, 13, 17, 25, 33, 37, 44, 52, 53] [m 9 5,w 10 (.bin .gtr 9 (.c U2 0))]) (.cond (.t 10) (.seq (.seq (.reg [0, 2, 5, 13, 17, 25, 33, 37, 44, 52, 53] [m 11 5,w 12 (.bin .gtr 11 (.c U2 20))]) (.cond (.t 12) (.seq (.reg [2, 13, 17, 25, 33, 37, 44, 52, 53] [w 13 (.build U19 []),⟨none, .store U19 2 13, none⟩,w 3 (.asg (.c U2 0)),w 4 (.asg (.c U2 3))]) .ret) .skip)) (.seq (.reg [0, 2, 5, 13, 17, 25, 33, 37, 44, 52, 53] [m 14 0,m 15 5,w 16 (.sliceS 14 none (some 15)),w 17 (.build U19 [([.l], (.c U2 1)), ([.r, .l], 16)]),m 18 5,⟨none, .store U19 2 17, none⟩,w 3 (.asg 18),w 4 (.asg (.c U2 0))]) .ret)) .skip))) (.seq (.seq (.reg [0, 2, 13, 17, 25, 33, 37, 44, 52, 53] [m 19 0,w 20 (.call 94 [19]),w 6 (.asg 20)]) (.seq (.reg [0, 2, 6, 13, 17, 25, 33, 37, 44, 52, 53] [m 21 6,w 22 (.bin .gtr 21 (.c U2 0))]) (.cond (.t 22) (.seq (.seq (.reg [0, 2, 6, 13, 17, 25, 33, 37, 44, 52, 53] [m 23 6,w 24 (.bin .gtr 23 (.c U2 6))]) (.cond (.t 24) (.seq (.reg [2, 13, 17, 25, 33, 37, 44, 52, 53] [w 25 (.build U19 []),⟨none, .store U19 2 25, none⟩,w 3 (.asg (.c U2 0)),w 4 (.asg (.c U2 3))]) .ret) .skip)) (.seq (.seq (.reg [0, 2, 6, 13, 17, 25, 33, 37, 44, 52, 53] [m 26 0,w 27 (.indexS 26 (.c U2 0)),w 28 (.bin .eql 27 (.c U1 48)),m 29 28,⟨some 30, .mv 6, some (29, true)⟩,⟨some 31, .bin .gtr 30 (.c U2 1), some (29, true)⟩,w 32 (.pick 29 31 (.c .bool false))]) (.cond (.t 32) (.seq (.reg [2, 13, 17, 25, 33, 37, 44, 52, 53] [w 33 (.build U19 []),⟨none, .store U19 2 33, none⟩,w 3 (.asg (.c U2 0)),w 4 (.asg (.c U2 2))]) .ret) .skip)) (.seq (.reg [0, 2, 6, 13, 17, 25, 33, 37, 44, 52, 53] [m 34 0,m 35 6,w 36 (.sliceS 34 none (some 35)),w 37 (.build U19 [([.l], (.c U2 2)), ([.r, .l], 36)]),m 38 6,⟨none, .store U19 2 37, none⟩,w 3 (.asg 38),w 4 (.asg (.c U2 0))]) .ret))) .skip))) (.seq (.seq (.reg [0, 2, 13, 17, 25, 33, 37, 44, 52, 53] [m 39 0,w 40 (.indexS 39 (.c U2 0)),w 41 (.bin .eql 40 (.c U1 34))]) (.cond (.t 41) (.seq (.reg [0, 2, 13, 17, 25, 33, 37, 44, 52, 53] [m 42 0,w 43 (.call 95 [42]),w 44 (.extract 43 0),w 45 (.extract 43 1),w 46 (.extract 43 2),⟨none, .store U19 2 44, none⟩,w 3 (.asg 45),w 4 (.asg 46)]) .ret) .skip)) (.seq (.seq (.reg [0, 2, 13, 17, 25, 33, 37, 44, 52, 53] [m 47 0,w 48 (.indexS 47 (.c U2 0)),w 49 (.call 96 [48])]) (.cond (.t 49) (.seq (.reg [0, 2, 13, 17, 25, 33, 37, 44, 52, 53] [m 50 0,w 51 (.sliceS 50 none (some (.c U2 1))),w 52 (.build U19 [([.l], (.c U2 4)), ([.r, .l], 51)]),⟨none, .store U19 2 52, none⟩,w 3 (.asg (.c U2 1)),w 4 (.asg (.c U2 0))]) .ret) .skip)) (.seq (.reg [2, 13, 17, 25, 33, 37, 44, 52, 53] [w 53 (.build U19 []),⟨none, .store U19 2 53, none⟩,w 3 (.asg (.c U2 0)),w 4 (.asg (.c U2 2))]) .ret))))))
def d84 : FD := { nargs := 1, body := c84, res := [.cell 2 U19, .t 3, .t 4] }
def c85 : AC := (.seq (.reg [0] [w 2 (.asg (.c U2 0)),w 3 (.asg (.c .bool false))]) (.seq (.seq (.reg [0] [m 6 0,w 7 (.bin .eql 6 (.c .str [])),m 8 7,⟨some 9, .mv 0, some (8, false)⟩,⟨some 10, .lenS 9, some (8, false)⟩,⟨some 11, .bin .gtr 10 (.c U2 6), some (8, false)⟩,w 12 (.pick 8 (.c .bool true) 11),m 13 12,⟨some 14, .mv 0, some (13, false)⟩,⟨some 15, .call 94 [14], some (13, false)⟩,⟨some 16, .mv 0, some (13, false)⟩,⟨some 17, .lenS 16, some (13, false)⟩,⟨some 18, .bin .neq 15 17, some (13, false)⟩,w 19 (.pick 13 (.c .bool true) 18),m 20 19,⟨some 21, .mv 0, some (20, false)⟩,⟨some 22, .indexS 21 (.c U2 0), some (20, false)⟩,⟨some 23, .bin .eql 22 (.c U1 48), some (20, false)⟩,⟨some 24, .mv 23, some (20, false)⟩,⟨some 25, .mv 0, some (24, true)⟩,⟨some 26, .lenS 25, some (24, true)⟩,⟨some 27, .bin .gtr 26 (.c U2 1), some (24, true)⟩,⟨some 28, .pick 24 27 (.c .bool false), some (20, false)⟩,w 29 (.pick 20 (.c .bool true) 28)]) (.cond (.t 29) (.seq (.reg [] [w 2 (.asg (.c U2 0)),w 3 (.asg (.c .bool false))]) .ret) .skip)) (.seq (.reg [0] [w 4 (.asg (.c U2 0))]) (.seq (.seq (.reg [0, 4] [w 5 (.asg (.c U2 0))]) (.block 0 (.loop [0, 4, 5] (.seq (.seq (.reg [0, 4, 5] [m 30 5,m 31 0,w 32 (.lenS 31),w 33 (.bin .lss 30 32)]) (.cond (.t 33) .skip (.exit 0))) (.seq (.block 1 (.reg [0, 4, 5] [m 36 4,w 37 (.bin .mul (.c U2 10) 36),m 38 0,m 39 5,w 40 (.indexS 38 39),w 41 (.bin .sub 40 (.c U1 48)),w 42 (.convI .i64 41),w 43 (.bin .add 37 42),w 4 (.asg 43)])) (.reg [0, 4, 5] [m 34 5,w 35 (.bin .add 34 (.c U2 1)),w 5 (.asg 35)])))))) (.seq (.reg [4] [m 44 4,w 2 (.asg 44),w 3 (.asg (.c .bool true))]) .ret)))))
def d85 : FD := { nargs := 1, body := c85, res := [.t 2, .t 3] }
def c94 : AC := (.seq (.reg [0] [w 2 (.asg (.c U2 0))]) (.seq (.reg [0] [w 3 (.asg (.c U2 0))]) (.seq (.block 0 (.loop [0, 3] (.seq (.seq (.reg [0, 3] [m 4 3,m 5 0,w 6 (.lenS 5),w 7 (.bin .lss 4 6),m 8 7,⟨some 9, .mv 0, some (8, true)⟩,⟨some 10, .mv 3, some (8, true)⟩,⟨some 11, .indexS 9 10, some (8, true)⟩,⟨some 12, .call 77 [11], some (8, true)⟩,w 13 (.pick 8 12 (.c .bool false))]) (.cond (.t 13) .skip (.exit 0))) (.block 1 (.reg [0, 3] [m 14 3,w 15 (.bin .add 14 (.c U2 1)),w 3 (.asg 15)]))))) (.seq (.reg [3] [m 16 3,w 2 (.asg 16)]) .ret))))
def d94 : FD := { nargs := 1, body := c94, res := [.t 2] }
def c95 : AC := (.seq (.reg [0] [w 2 (.alloc U19 .no),w 3 (.asg (.c U2 0)),w 4 (.asg (.c U2 0))]) (.seq (.reg [0, 2, 28, 32, 36] [w 5 (.asg (.c U2 1))]) (.seq (.block 0 (.loop [0, 2, 5, 28, 32, 36] (.seq (.seq (.reg [0, 2, 5, 28, 32, 36] [m 6 5,m 7 0,w 8 (.lenS 7),w 9 (.bin .lss 6 8),m 10 9,⟨some 11, .mv 0, some (10, true)⟩,⟨some 12, .mv 5, some (10, true)⟩,⟨some 13, .indexS 11 12, some (10, true)⟩,⟨some 14, .call 102 [13], some (10, true)⟩,w 15 (.pick 10 14 (.c .bool false))]) (.cond (.t 15) .skip (.exit 0))) (.block 1 (.reg [0, 2, 5, 28, 32, 36] [m 16 5,w 17 (.bin .add 16 (.c U2 1)),w 5 (.asg 17)]))))) (.seq (.seq (.reg [0, 2, 5, 28, 32, 36] [m 18 5,m 19 0,w 20 (.lenS 19),w 21 (.bin .eql 18 20),m 22 21,⟨some 23, .mv 0, some (22, false)⟩,⟨some 24, .mv 5, some (22, false)⟩,⟨some 25, .indexS 23 24, some (22, false)⟩,⟨some 26, .bin .neq 25 (.c U1 34), some (22, false)⟩,w 27 (.pick 22 (.c .bool true) 26)]) (.cond (.t 27) (.seq (.reg [2, 28, 32, 36] [w 28 (.build U19 []),⟨none, .store U19 2 28, none⟩,w 3 (.asg (.c U2 0)),w 4 (.asg (.c U2 2))]) .ret) .skip)) (.seq (.seq (.reg [0, 2, 5, 28, 32, 36] [m 29 5,w 30 (.bin .sub 29 (.c U2 1)),w 31 (.bin .gtr 30 (.c U2 60))]) (.cond (.t 31) (.seq (.reg [2, 28, 32, 36] [w 32 (.build U19 []),⟨none, .store U19 2 32, none⟩,w 3 (.asg (.c U2 0)),w 4 (.asg (.c U2 3))]) .ret) .skip)) (.seq (.reg [0, 2, 5, 28, 32, 36] [m 33 0,m 34 5,w 35 (.sliceS 33 (some (.c U2 1)) (some 34)),w 36 (.build U19 [([.l], (.c U2 3)), ([.r, .l], 35)]),m 37 5,w 38 (.bin .add 37 (.c U2 1)),⟨none, .store U19 2 36, none⟩,w 3 (.asg 38),w 4 (.asg (.c U2 0))]) .ret))))))
def d95 : FD := { nargs := 1, body := c95, res := [.cell 2 U19, .t 3, .t 4] }
def c96 : AC := (.seq (.reg [0] [w 2 (.asg (.c .bool false))]) (.seq (.seq (.reg [0] [w 3 (.asg (.c U2 0))]) (.block 0 (.loop [0, 3] (.seq (.seq (.reg [0, 3] [m 4 3,w 5 (.bin .lss 4 (.c U2 21))]) (.cond (.t 5) .skip (.exit 0))) (.seq (.block 1 (.seq (.reg [0, 3] [m 8 3,w 9 (.indexS (.c .str [123, 125, 40, 41, 91, 93, 47, 59, 58, 126, 64, 61, 94, 44, 46, 124, 43, 42, 60, 62, 45]) 8),m 10 0,w 11 (.bin .eql 9 10)]) (.cond (.t 11) (.seq (.reg [] [w 2 (.asg (.c .bool true))]) .ret) .skip))) (.reg [0, 3] [m 6 3,w 7 (.bin .add 6 (.c U2 1)),w 3 (.asg 7)])))))) (.seq (.reg [] [w 2 (.asg (.c .bool false))]) .ret)))
def d96 : FD := { nargs := 1, body := c96, res := [.t 2] }
def c102 : AC := (.seq (.reg [0] [w 2 (.asg (.c .bool false))]) (.seq (.reg [0] [m 3 0,w 4 (.bin .geq 3 (.c U1 32)),m 5 4,⟨some 6, .mv 0, some (5, true)⟩,⟨some 7, .bin .leq 6 (.c U1 126), some (5, true)⟩,w 8 (.pick 5 7 (.c .bool false)),m 9 8,⟨some 10, .mv 0, some (9, true)⟩,⟨some 11, .bin .neq 10 (.c U1 34), some (9, true)⟩,w 12 (.pick 9 11 (.c .bool false)),w 2 (.asg 12)]) .ret))
def d102 : FD := { nargs := 1, body := c102, res := [.t 2] }
def table : Table := fun f => match f with
  | 5 => some d5
  | 8 => some d8
  | 9 => some d9
  | 10 => some d10
  | 11 => some d11
  | 12 => some d12
  | 13 => some d13
  | 14 => some d14
  | 15 => some d15
  | 16 => some d16
  | 18 => some d18
  | 19 => some d19
  | 20 => some d20
  | 21 => some d21
  | 29 => some d29
  | 31 => some d31
  | 32 => some d32
  | 33 => some d33
  | 34 => some d34
  | 35 => some d35
  | 36 => some d36
  | 37 => some d37
  | 38 => some d38
  | 39 => some d39
  | 40 => some d40
  | 41 => some d41
  | 42 => some d42
  | 43 => some d43
  | 44 => some d44
  | 45 => some d45
  | 46 => some d46
  | 48 => some d48
  | 50 => some d50
  | 51 => some d51
  | 52 => some d52
  | 53 => some d53
  | 54 => some d54
  | 55 => some d55
  | 56 => some d56
  | 57 => some d57
  | 58 => some d58
  | 59 => some d59
  | 60 => some d60
  | 61 => some d61
  | 62 => some d62
  | 63 => some d63
  | 64 => some d64
  | 65 => some d65
  | 66 => some d66
  | 67 => some d67
  | 68 => some d68
  | 69 => some d69
  | 70 => some d70
  | 71 => some d71
  | 72 => some d72
  | 73 => some d73
  | 74 => some d74
  | 75 => some d75
  | 76 => some d76
  | 77 => some d77
  | 78 => some d78
  | 79 => some d79
  | 80 => some d80
  | 81 => some d81
  | 82 => some d82
  | 83 => some d83
  | 84 => some d84
  | 85 => some d85
  | 86 => some d86
  | 87 => some d87
  | 88 => some d88
  | 89 => some d89
  | 90 => some d90
  | 91 => some d91
  | 92 => some d92
  | 93 => some d93
  | 94 => some d94
  | 95 => some d95
  | 96 => some d96
  | 97 => some d97
  | 98 => some d98
  | 99 => some d99
  | 100 => some d100
  | 101 => some d101
  | 102 => some d102
  | 103 => some d103
  | 104 => some d104
  | 108 => some d108
  | _ => none
end Go.Fw.L19
