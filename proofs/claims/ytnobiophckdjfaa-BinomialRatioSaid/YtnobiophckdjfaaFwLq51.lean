/- Printed by an own program for this claim: the machine's code of functions, or their typed forms with their equations; no conditions. -/
import Derived.Test.YtnobiophckdjfaaFwB1
set_option linter.unusedVariables false
set_option linter.unusedSimpArgs false
namespace Go.Fw.L51
open Go Go.Fw
abbrev U0 : Ty := (.int .u8)
abbrev V0 : Type := (List Int)
abbrev U1 : Ty := (.int .i64)
abbrev V1 : Type := (Int × Int)
abbrev V2 : Type := (V0)
abbrev V3 : Type := (Int × Unit)
abbrev U2 : Ty := (.sl U1)
abbrev V4 : Type := (Int × Int × Int)
abbrev V5 : Type := (V0 × Unit)
abbrev V6 : Type := (Int × V3)
abbrev V7 : Type := (V5)
abbrev U3 : Ty := (.pair U1 .unit)
abbrev V8 : Type := (V0 × V0)
abbrev V9 : Type := (List V5)
abbrev V10 : Type := (V5 × Int)
abbrev V11 : Type := (V5 × Unit)
abbrev V12 : Type := (V3 → Option Bool)
abbrev U4 : Ty := (.pair U2 .unit)
abbrev U5 : Ty := (.sl U4)
abbrev U6 : Ty := (.fn U3 .bool)
abbrev U7 : Ty := (.pair U4 .unit)
abbrev U8 : Ty := (.pair U1 U3)
abbrev V13 : Type := (V5 × V5 × Int)
abbrev V14 : Type := (V5 × V11)
abbrev V15 : Type := (Bool × V14)
abbrev V16 : Type := (V15)
abbrev V17 : Type := (List V15)
abbrev V18 : Type := (V15 × Int)
abbrev U9 : Ty := (.pair U4 U7)
abbrev U10 : Ty := (.pair .bool U9)
abbrev U11 : Ty := (.sl U10)
instance (n : Nat) : OfNat Od n := ⟨.t n⟩
abbrev w (d : Nat) (o : AOp) : AI := { dst := some d, op := o }
abbrev m (d : Nat) (k : Nat) : AI := { dst := some d, op := .mv (.t k) }
def c16_2 : AC := (.seq (.out [0] (.reg [0] [w 2 (.asg (.c .bool false))])) (.seq (.out [2] (.reg [0] [m 3 0,w 4 (.bin .leq 3 (.c U1 40)),m 5 4,⟨some 6, .mv 0, some (5, false)⟩,⟨some 7, .bin .gtr 6 (.c U1 200), some (5, false)⟩,w 8 (.pick 5 (.c .bool true) 7),w 2 (.asg 8)])) .ret))
def c16 : AC := c16_2
def d16 : FD := { nargs := 1, body := c16, res := [.t 2] }
def c42_2 : AC := .out [0, 1, 5, 6] (.reg [0, 1, 5] [w 6 (.asg (.c U1 0))])
def c42_3 : AC := .out [0, 1, 5, 6, 10] (.reg [0, 1, 5, 6] [m 7 6,m 8 0,w 9 (.lenL 8),w 10 (.bin .lss 7 9)])
def c42_4 : AC := .out [0, 1, 5, 6] (.cond (.t 10) .skip (.exit 0))
def c42_5 : AC := .out [0, 1, 5, 6] (.reg [0, 1, 5, 6] [m 13 5,m 14 0,m 15 6,w 16 (.indexAddr U4 14 15),w 17 (.fieldAddr U4 [.l] 16),w 18 (.load U2 17),w 19 (.lenL 18),w 20 (.bin .add 13 19),w 5 (.asg 20)])
def c42_6 : AC := .out [0, 1, 5, 6] (.block 1 c42_5)
def c42_7 : AC := .out [0, 1, 5, 6] (.reg [0, 1, 5, 6] [m 11 6,w 12 (.bin .add 11 (.c U1 1)),w 6 (.asg 12)])
def c42_8 : AC := (.seq (.seq c42_3 c42_4) (.seq c42_6 c42_7))
def c42_9 : AC := .out [1, 5] (.loop [0, 1, 5, 6] c42_8)
def c42_10 : AC := .out [1, 5] (.block 0 c42_9)
def c42_11 : AC := .out [4] (.reg [1, 5] [m 21 5,m 22 1,w 23 (.bin .leq 21 22),w 4 (.asg 23)])
def c42_12 : AC := (.seq (.out [0, 1] (.reg [0, 1] [w 4 (.asg (.c .bool false))])) (.seq (.out [0, 1, 5] (.reg [0, 1] [w 5 (.asg (.c U1 0))])) (.seq (.seq c42_2 c42_10) (.seq c42_11 .ret))))
def c42 : AC := c42_12
def d42 : FD := { nargs := 2, body := c42, res := [.t 4] }
def c12_0 : AC := .out [0, 1] (.reg [0, 1] [w 4 (.asg (.c .bool false))])
def c12_1 : AC := .out [0, 1, 5] (.reg [0, 1] [w 5 (.asg (.c U1 0))])
def c12_2 : AC := .out [0, 1, 5, 9] (.reg [0, 1, 5] [m 6 5,m 7 0,w 8 (.lenL 7),w 9 (.bin .lss 6 8)])
def c12_3 : AC := .out [0, 1, 5] (.cond (.t 9) .skip (.exit 0))
def c12_4 : AC := .out [0, 1, 5, 25] (.draw [0, 1, 5] [⟨m 12 0, [13, 17, 18, 19, 20, 21, 23], [12], [], false, []⟩,⟨m 13 5, [12, 17, 18, 19, 20, 21, 23], [13], [], false, []⟩,⟨w 14 (.indexAddr U10 12 13), [17, 18, 19, 20, 21, 23], [14], [0, 1], false, []⟩,⟨w 15 (.fieldAddr U10 [.r, .l] 14), [17, 18, 19, 20, 21, 23], [15], [0, 1, 2], false, []⟩,⟨w 16 (.load U4 15), [17, 18, 19, 20, 21, 23], [16], [0, 1, 2, 3], false, []⟩,⟨m 17 0, [12, 13, 14, 15, 16, 18, 23], [17], [], false, []⟩,⟨m 18 5, [12, 13, 14, 15, 16, 17, 23], [18], [], false, []⟩,⟨w 19 (.indexAddr U10 17 18), [12, 13, 14, 15, 16, 23], [19], [5, 6], false, []⟩,⟨w 20 (.fieldAddr U10 [.r, .r, .l] 19), [12, 13, 14, 15, 16, 23], [20], [5, 6, 7], false, []⟩,⟨w 21 (.load U4 20), [12, 13, 14, 15, 16, 23], [21], [5, 6, 7, 8], false, []⟩,⟨w 22 (.buildSlice 24 U4 [16, 21]), [23], [22], [0, 1, 2, 3, 4, 5, 6, 7, 8, 9], false, []⟩,⟨m 23 1, [12, 13, 14, 15, 16, 17, 18, 19, 20, 21, 22], [23], [], false, []⟩,⟨w 24 (.call 42 [22, 23]), [], [24], [0, 1, 2, 3, 4, 5, 6, 7, 8, 9, 10, 11], false, []⟩,⟨w 25 (.un .not 24), [], [25], [0, 1, 2, 3, 4, 5, 6, 7, 8, 9, 10, 11, 12], false, []⟩])
def c12_5 : AC := .out [4] (.reg [] [w 4 (.asg (.c .bool false))])
def c12_6 : AC := .out [0, 1, 4, 5] (.cond (.t 25) (.seq c12_5 .ret) .skip)
def c12_7 : AC := .out [0, 1, 4, 5] (.block 1 (.seq c12_4 c12_6))
def c12_8 : AC := .out [0, 1, 5] (.reg [0, 1, 5] [m 10 5,w 11 (.bin .add 10 (.c U1 1)),w 5 (.asg 11)])
def c12_9 : AC := (.seq (.seq c12_2 c12_3) (.seq c12_7 c12_8))
def c12_10 : AC := .out [4] (.loop [0, 1, 5] c12_9)
def c12_11 : AC := .out [4] (.block 0 c12_10)
def c12_12 : AC := .out [4] (.reg [] [w 4 (.asg (.c .bool true))])
def c12_13 : AC := (.seq c12_0 (.seq (.seq c12_1 c12_11) (.seq c12_12 .ret)))
def c12 : AC := c12_13
def d12 : FD := { nargs := 2, body := c12, res := [.t 4] }
def c100_2 : AC := (.seq (.out [0] (.reg [0] [w 2 (.asg (.c .bool false))])) (.seq (.out [2] (.reg [0] [m 3 0,w 4 (.bin .lss 3 (.c U1 0)),m 5 4,⟨some 6, .mv 0, some (5, false)⟩,⟨some 7, .bin .geq 6 (.c U1 10000), some (5, false)⟩,w 8 (.pick 5 (.c .bool true) 7),w 2 (.asg 8)])) .ret))
def c100 : AC := c100_2
def d100 : FD := { nargs := 1, body := c100, res := [.t 2] }
def c116_0 : AC := .out [0, 1] (.reg [0, 1] [w 4 (.asg (.c U1 0))])
def c116_1 : AC := .out [0, 1, 7, 8] (.reg [0, 1] [m 6 0,w 7 (.lenL 6),w 8 (.mv (.c U1 0))])
def c116_2 : AC := .out [0, 1, 7, 8, 9] (.reg [0, 1, 7, 8] [w 9 (.bin .lss 8 7)])
def c116_3 : AC := .out [0, 1, 7, 8] (.cond (.t 9) .skip (.exit 0))
def c116_6 : AC := .out [4] (.reg [5] [m 17 5,w 4 (.asg 17)])
def c116_7 : AC := .out [0, 1, 4, 7, 8] (.cond (.t 16) (.seq c116_6 .ret) .skip)
def c116_8 : AC := (.seq (.out [0, 1, 5, 7, 8] (.reg [0, 1, 7, 8] [m 10 8,w 5 (.asg 10)])) (.seq (.out [0, 1, 5, 7, 8, 16] (.reg [0, 1, 5, 7, 8] [m 11 1,m 12 0,m 13 5,w 14 (.indexAddr U1 12 13),w 15 (.load U1 14),w 16 (.callv 11 [15])])) c116_7))
def c116_9 : AC := .out [0, 1, 4, 7, 8] (.block 1 c116_8)
def c116_10 : AC := .out [0, 1, 7, 8] (.reg [0, 1, 7, 8] [w 18 (.bin .add 8 (.c U1 1)),m 8 18])
def c116_11 : AC := (.seq c116_2 (.seq c116_3 (.seq c116_9 c116_10)))
def c116_12 : AC := .out [4] (.loop [0, 1, 7, 8] c116_11)
def c116_13 : AC := .out [4] (.block 0 c116_12)
def c116_14 : AC := .out [4] (.reg [] [w 4 (.asg (.c U1 (-1)))])
def c116_15 : AC := (.seq c116_0 (.seq (.seq c116_1 c116_13) (.seq c116_14 .ret)))
def c116 : AC := c116_15
def d116 : FD := { nargs := 2, body := c116, res := [.t 4] }
def c99_2 : AC := (.seq (.out [0, 1] (.reg [0, 1] [w 4 (.asg (.c .bool false))])) (.seq (.out [4] (.reg [0, 1] [m 5 0,m 6 1,w 7 (.call 116 [5, 6]),w 8 (.bin .geq 7 (.c U1 0)),w 4 (.asg 8)])) .ret))
def c99 : AC := c99_2
def d99 : FD := { nargs := 2, body := c99, res := [.t 4] }
def c75_2 : AC := .out [3, 22] (.reg [3] [m 6 3,w 7 (.lenL 6),w 8 (.bin .gtr 7 (.c U1 200)),m 9 8,⟨some 10, .mv 3, some (9, false)⟩,⟨some 11, .lenL 10, some (9, false)⟩,⟨some 12, .bin .gtr 11 (.c U1 0), some (9, false)⟩,⟨some 13, .mv 12, some (9, false)⟩,⟨some 14, .mv 3, some (13, true)⟩,⟨some 15, .mv 3, some (13, true)⟩,⟨some 16, .lenL 15, some (13, true)⟩,⟨some 17, .bin .sub 16 (.c U1 1), some (13, true)⟩,⟨some 18, .indexAddr U1 14 17, some (13, true)⟩,⟨some 19, .load U1 18, some (13, true)⟩,⟨some 20, .bin .eql 19 (.c U1 0), some (13, true)⟩,⟨some 21, .pick 13 20 (.c .bool false), some (9, false)⟩,w 22 (.pick 9 (.c .bool true) 21)])
def c75_3 : AC := .out [2] (.reg [] [w 2 (.asg (.c .bool false))])
def c75_4 : AC := .out [2, 3] (.cond (.t 22) (.seq c75_3 .ret) .skip)
def c75_5 : AC := .out [2] (.reg [3] [m 23 3,w 24 (.call 99 [23, (.fn 100 U3 .bool)]),w 25 (.un .not 24),w 2 (.asg 25)])
def c75_6 : AC := (.seq (.out [1] (.reg [0] [w 1 (.box U4 0),w 2 (.asg (.c .bool false))])) (.seq (.out [3] (.reg [1] [w 4 (.fieldAddr U4 [.l] 1),w 5 (.load U2 4),w 3 (.asg 5)])) (.seq (.seq c75_2 c75_4) (.seq c75_5 .ret))))
def c75 : AC := c75_6
def d75 : FD := { nargs := 1, body := c75, res := [.t 2] }
def c76_2 : AC := (.seq (.out [1] (.reg [0] [w 1 (.box U4 0),w 2 (.asg (.c .bool false))])) (.seq (.out [2] (.reg [1] [w 3 (.fieldAddr U4 [.l] 1),w 4 (.load U2 3),w 5 (.lenL 4),w 6 (.bin .eql 5 (.c U1 0)),w 2 (.asg 6)])) .ret))
def c76 : AC := c76_2
def d76 : FD := { nargs := 1, body := c76, res := [.t 2] }
def c118_0 : AC := .out [0] (.reg [0] [w 2 (.asg (.nil 3 U1))])
def c118_1 : AC := .out [0, 14] (.reg [0] [m 3 0,w 4 (.lenL 3),w 5 (.bin .gtr 4 (.c U1 0)),m 6 5,⟨some 7, .mv 0, some (6, true)⟩,⟨some 8, .mv 0, some (6, true)⟩,⟨some 9, .lenL 8, some (6, true)⟩,⟨some 10, .bin .sub 9 (.c U1 1), some (6, true)⟩,⟨some 11, .indexAddr U1 7 10, some (6, true)⟩,⟨some 12, .load U1 11, some (6, true)⟩,⟨some 13, .bin .eql 12 (.c U1 0), some (6, true)⟩,w 14 (.pick 6 13 (.c .bool false))])
def c118_2 : AC := .out [0] (.cond (.t 14) .skip (.exit 0))
def c118_3 : AC := .out [0] (.reg [0] [m 15 0,m 16 0,w 17 (.lenL 16),w 18 (.bin .sub 17 (.c U1 1)),w 19 (.sliceL U1 15 none (some 18) none),w 0 (.asg 19)])
def c118_4 : AC := .out [0] (.block 1 c118_3)
def c118_5 : AC := (.seq (.seq c118_1 c118_2) c118_4)
def c118_6 : AC := .out [0] (.loop [0] c118_5)
def c118_7 : AC := .out [0] (.block 0 c118_6)
def c118_8 : AC := .out [2] (.reg [0] [m 20 0,w 2 (.asg 20)])
def c118_9 : AC := (.seq c118_0 (.seq c118_7 (.seq c118_8 .ret)))
def c118 : AC := c118_9
def d118 : FD := { nargs := 1, body := c118, res := [.t 2] }
def c114_2 : AC := .out [1, 5, 17, 18, 19] (.reg [0, 1, 5] [m 17 0,w 18 (.lenL 17),w 19 (.mv (.c U1 0))])
def c114_3 : AC := .out [1, 5, 17, 18, 19, 20] (.reg [1, 5, 17, 18, 19] [w 20 (.bin .lss 19 18)])
def c114_4 : AC := .out [1, 5, 17, 18, 19] (.cond (.t 20) .skip (.exit 0))
def c114_7 : AC := .out [1, 5, 6, 7, 8, 17, 18, 19, 24, 25, 26] (.reg [1, 5, 6, 7, 8, 17, 18, 19] [m 24 1,w 25 (.lenL 24),w 26 (.mv (.c U1 0))])
def c114_8 : AC := .out [1, 5, 6, 7, 8, 17, 18, 19, 24, 25, 26, 27] (.reg [1, 5, 6, 7, 8, 17, 18, 19, 24, 25, 26] [w 27 (.bin .lss 26 25)])
def c114_9 : AC := .out [1, 5, 6, 7, 8, 17, 18, 19, 24, 25, 26] (.cond (.t 27) .skip (.exit 2))
def c114_14 : AC := (.seq (.out [1, 5, 6, 7, 8, 9, 10, 17, 18, 19, 24, 25, 26] (.reg [1, 5, 6, 7, 8, 17, 18, 19, 24, 25, 26] [m 28 26,w 29 (.indexAddr U1 24 26),w 30 (.load U1 29),w 9 (.asg 28),w 10 (.asg 30)])) (.seq (.out [1, 5, 6, 7, 8, 9, 17, 18, 19, 24, 25, 26] (.reg [1, 5, 6, 7, 8, 9, 10, 17, 18, 19, 24, 25, 26] [m 31 8,m 32 5,m 33 6,m 34 9,w 35 (.bin .add 33 34),w 36 (.indexAddr U1 32 35),w 37 (.load U1 36),m 38 7,m 39 10,w 40 (.bin .mul 38 39),w 41 (.bin .add 37 40),w 42 (.bin .add 31 41),w 8 (.asg 42)])) (.seq (.out [1, 5, 6, 7, 8, 17, 18, 19, 24, 25, 26] (.reg [1, 5, 6, 7, 8, 9, 17, 18, 19, 24, 25, 26] [m 43 5,m 44 6,m 45 9,w 46 (.bin .add 44 45),m 47 8,w 48 (.bin .rem 47 (.c U1 10000)),w 49 (.indexAddr U1 43 46),⟨none, .store U1 49 48, none⟩])) (.out [1, 5, 6, 7, 8, 17, 18, 19, 24, 25, 26] (.reg [1, 5, 6, 7, 8, 17, 18, 19, 24, 25, 26] [m 50 8,w 51 (.bin .quo 50 (.c U1 10000)),w 8 (.asg 51)])))))
def c114_15 : AC := .out [1, 5, 6, 7, 8, 17, 18, 19, 24, 25, 26] (.block 3 c114_14)
def c114_16 : AC := .out [1, 5, 6, 7, 8, 17, 18, 19, 24, 25, 26] (.reg [1, 5, 6, 7, 8, 17, 18, 19, 24, 25, 26] [w 52 (.bin .add 26 (.c U1 1)),m 26 52])
def c114_17 : AC := (.seq c114_8 (.seq c114_9 (.seq c114_15 c114_16)))
def c114_18 : AC := .out [1, 5, 6, 8, 17, 18, 19] (.loop [1, 5, 6, 7, 8, 17, 18, 19, 24, 25, 26] c114_17)
def c114_19 : AC := .out [1, 5, 6, 8, 17, 18, 19] (.block 2 c114_18)
def c114_20 : AC := .out [1, 5, 17, 18, 19] (.reg [1, 5, 6, 8, 17, 18, 19] [m 53 5,m 54 6,m 55 1,w 56 (.lenL 55),w 57 (.bin .add 54 56),w 58 (.indexAddr U1 53 57),w 59 (.load U1 58),m 60 8,w 61 (.bin .add 59 60),w 62 (.indexAddr U1 53 57),⟨none, .store U1 62 61, none⟩])
def c114_21 : AC := (.seq (.out [1, 5, 6, 7, 17, 18, 19] (.reg [1, 5, 17, 18, 19] [m 21 19,w 22 (.indexAddr U1 17 19),w 23 (.load U1 22),w 6 (.asg 21),w 7 (.asg 23)])) (.seq (.out [1, 5, 6, 7, 8, 17, 18, 19] (.reg [1, 5, 6, 7, 17, 18, 19] [w 8 (.asg (.c U1 0))])) (.seq (.seq c114_7 c114_19) c114_20)))
def c114_22 : AC := .out [1, 5, 17, 18, 19] (.block 1 c114_21)
def c114_23 : AC := .out [1, 5, 17, 18, 19] (.reg [1, 5, 17, 18, 19] [w 63 (.bin .add 19 (.c U1 1)),m 19 63])
def c114_24 : AC := (.seq c114_3 (.seq c114_4 (.seq c114_22 c114_23)))
def c114_25 : AC := .out [5] (.loop [1, 5, 17, 18, 19] c114_24)
def c114_26 : AC := .out [5] (.block 0 c114_25)
def c114_27 : AC := .out [4] (.reg [5] [m 64 5,w 65 (.call 118 [64]),w 4 (.asg 65)])
def c114_28 : AC := (.seq (.out [0, 1] (.reg [0, 1] [w 4 (.asg (.nil 3 U1))])) (.seq (.out [0, 1, 5] (.reg [0, 1] [m 11 0,w 12 (.lenL 11),m 13 1,w 14 (.lenL 13),w 15 (.bin .add 12 14),w 16 (.mkSlice 3 U1 17592186044416 15 15),w 5 (.asg 16)])) (.seq (.seq c114_2 c114_26) (.seq c114_27 .ret))))
def c114 : AC := c114_28
def d114 : FD := { nargs := 2, body := c114, res := [.t 4] }
def c96_0 : AC := .out [0, 1] (.reg [0, 1] [w 4 (.asg (.c U1 0))])
def c96_1 : AC := .out [0, 1, 10] (.reg [0, 1] [m 6 0,w 7 (.lenL 6),m 8 1,w 9 (.lenL 8),w 10 (.bin .neq 7 9)])
def c96_2 : AC := .out [15] (.reg [0, 1] [m 11 0,w 12 (.lenL 11),m 13 1,w 14 (.lenL 13),w 15 (.bin .lss 12 14)])
def c96_3 : AC := .out [4] (.reg [] [w 4 (.asg (.c U1 (-1)))])
def c96_4 : AC := .out [4] (.cond (.t 15) (.seq c96_3 .ret) .skip)
def c96_5 : AC := .out [4] (.reg [] [w 4 (.asg (.c U1 1))])
def c96_6 : AC := .out [0, 1, 4] (.cond (.t 10) (.seq (.seq c96_2 c96_4) (.seq c96_5 .ret)) .skip)
def c96_7 : AC := .out [0, 1, 5] (.reg [0, 1] [m 16 0,w 17 (.lenL 16),w 18 (.bin .sub 17 (.c U1 1)),w 5 (.asg 18)])
def c96_8 : AC := .out [0, 1, 5, 20] (.reg [0, 1, 5] [m 19 5,w 20 (.bin .geq 19 (.c U1 0))])
def c96_9 : AC := .out [0, 1, 5] (.cond (.t 20) .skip (.exit 0))
def c96_10 : AC := .out [0, 1, 5, 31] (.draw [0, 1, 5] [⟨m 23 0, [24, 27, 28, 29, 30], [23], [], false, []⟩,⟨m 24 5, [23, 27, 28, 29, 30], [24], [], false, []⟩,⟨w 25 (.indexAddr U1 23 24), [27, 28, 29, 30], [25], [0, 1], false, []⟩,⟨w 26 (.load U1 25), [27, 28, 29, 30], [26], [0, 1, 2], false, []⟩,⟨m 27 1, [23, 24, 25, 26, 28], [27], [], false, []⟩,⟨m 28 5, [23, 24, 25, 26, 27], [28], [], false, []⟩,⟨w 29 (.indexAddr U1 27 28), [23, 24, 25, 26], [29], [4, 5], false, []⟩,⟨w 30 (.load U1 29), [23, 24, 25, 26], [30], [4, 5, 6], false, []⟩,⟨w 31 (.bin .neq 26 30), [], [31], [0, 1, 2, 3, 4, 5, 6, 7], false, []⟩])
def c96_11 : AC := .out [40] (.draw [0, 1, 5] [⟨m 32 0, [33, 36, 37, 38, 39], [32], [], false, []⟩,⟨m 33 5, [32, 36, 37, 38, 39], [33], [], false, []⟩,⟨w 34 (.indexAddr U1 32 33), [36, 37, 38, 39], [34], [0, 1], false, []⟩,⟨w 35 (.load U1 34), [36, 37, 38, 39], [35], [0, 1, 2], false, []⟩,⟨m 36 1, [32, 33, 34, 35, 37], [36], [], false, []⟩,⟨m 37 5, [32, 33, 34, 35, 36], [37], [], false, []⟩,⟨w 38 (.indexAddr U1 36 37), [32, 33, 34, 35], [38], [4, 5], false, []⟩,⟨w 39 (.load U1 38), [32, 33, 34, 35], [39], [4, 5, 6], false, []⟩,⟨w 40 (.bin .lss 35 39), [], [40], [0, 1, 2, 3, 4, 5, 6, 7], false, []⟩])
def c96_12 : AC := .out [4] (.reg [] [w 4 (.asg (.c U1 (-1)))])
def c96_13 : AC := .out [4] (.cond (.t 40) (.seq c96_12 .ret) .skip)
def c96_14 : AC := .out [4] (.reg [] [w 4 (.asg (.c U1 1))])
def c96_15 : AC := .out [0, 1, 4, 5] (.cond (.t 31) (.seq (.seq c96_11 c96_13) (.seq c96_14 .ret)) .skip)
def c96_16 : AC := .out [0, 1, 4, 5] (.block 1 (.seq c96_10 c96_15))
def c96_17 : AC := .out [0, 1, 5] (.reg [0, 1, 5] [m 21 5,w 22 (.bin .sub 21 (.c U1 1)),w 5 (.asg 22)])
def c96_18 : AC := (.seq (.seq c96_8 c96_9) (.seq c96_16 c96_17))
def c96_19 : AC := .out [4] (.loop [0, 1, 5] c96_18)
def c96_20 : AC := .out [4] (.block 0 c96_19)
def c96_21 : AC := .out [4] (.reg [] [w 4 (.asg (.c U1 0))])
def c96_22 : AC := (.seq c96_0 (.seq (.seq c96_1 c96_6) (.seq (.seq c96_7 c96_20) (.seq c96_21 .ret))))
def c96 : AC := c96_22
def d96 : FD := { nargs := 2, body := c96, res := [.t 4] }
def c119_3 : AC := .out [1, 5, 6, 11, 12] (.reg [1, 5, 6] [m 10 5,w 11 (.lenL 10),w 12 (.mv (.c U1 0))])
def c119_4 : AC := .out [1, 5, 6, 11, 12, 13] (.reg [1, 5, 6, 11, 12] [w 13 (.bin .lss 12 11)])
def c119_5 : AC := .out [1, 5, 6, 11, 12] (.cond (.t 13) .skip (.exit 0))
def c119_8 : AC := .out [1, 5, 7, 11, 12, 25] (.reg [1, 5, 7, 11, 12] [m 22 7,m 23 1,w 24 (.lenL 23),w 25 (.bin .lss 22 24)])
def c119_9 : AC := .out [1, 5, 7, 11, 12] (.draw [1, 5, 7, 11, 12] [⟨m 26 5, [27, 30, 31, 32, 33], [26], [], false, []⟩,⟨m 27 7, [26, 30, 31, 32, 33], [27], [], false, []⟩,⟨w 28 (.indexAddr U1 26 27), [30, 31, 32, 33], [28], [0, 1], false, []⟩,⟨w 29 (.load U1 28), [30, 31, 32, 33], [29], [0, 1, 2], false, []⟩,⟨m 30 1, [26, 27, 28, 29, 31], [30], [], false, []⟩,⟨m 31 7, [26, 27, 28, 29, 30], [31], [], false, []⟩,⟨w 32 (.indexAddr U1 30 31), [26, 27, 28, 29], [32], [4, 5], false, []⟩,⟨w 33 (.load U1 32), [26, 27, 28, 29], [33], [4, 5, 6], false, []⟩,⟨w 34 (.bin .sub 29 33), [], [34], [0, 1, 2, 3, 4, 5, 6, 7], false, []⟩,⟨w 35 (.indexAddr U1 26 27), [], [35], [0, 1, 2, 3, 4, 5, 6, 7, 8], false, []⟩,⟨⟨none, .store U1 35 34, none⟩, [], [5, 26, 35], [0, 1, 2, 3, 4, 5, 6, 7, 8, 9], false, []⟩])
def c119_10 : AC := .out [1, 5, 7, 11, 12] (.cond (.t 25) c119_9 .skip)
def c119_11 : AC := (.seq c119_8 c119_10)
def c119_16 : AC := (.seq (.out [1, 5, 11, 12] (.reg [1, 5, 7, 11, 12] [m 41 5,m 42 7,w 43 (.indexAddr U1 41 42),w 44 (.load U1 43),w 45 (.bin .add 44 (.c U1 10000)),w 46 (.indexAddr U1 41 42),⟨none, .store U1 46 45, none⟩])) (.out [1, 5, 6, 11, 12] (.reg [1, 5, 11, 12] [w 6 (.asg (.c U1 1))])))
def c119_17 : AC := .out [1, 5, 6, 11, 12] (.cond (.t 40) c119_16 .skip)
def c119_18 : AC := (.seq (.out [1, 5, 6, 7, 11, 12] (.reg [1, 5, 7, 11, 12] [w 6 (.asg (.c U1 0))])) (.seq (.out [1, 5, 6, 7, 11, 12, 40] (.reg [1, 5, 6, 7, 11, 12] [m 36 5,m 37 7,w 38 (.indexAddr U1 36 37),w 39 (.load U1 38),w 40 (.bin .lss 39 (.c U1 0))])) c119_17))
def c119_19 : AC := (.seq (.out [1, 5, 6, 7, 11, 12] (.reg [1, 5, 6, 11, 12] [m 14 12,w 7 (.asg 14)])) (.seq (.out [1, 5, 7, 11, 12] (.reg [1, 5, 6, 7, 11, 12] [m 15 5,m 16 7,w 17 (.indexAddr U1 15 16),w 18 (.load U1 17),m 19 6,w 20 (.bin .sub 18 19),w 21 (.indexAddr U1 15 16),⟨none, .store U1 21 20, none⟩])) (.seq c119_11 c119_18)))
def c119_20 : AC := .out [1, 5, 6, 11, 12] (.block 1 c119_19)
def c119_21 : AC := .out [1, 5, 6, 11, 12] (.reg [1, 5, 6, 11, 12] [w 47 (.bin .add 12 (.c U1 1)),m 12 47])
def c119_22 : AC := (.seq c119_4 (.seq c119_5 (.seq c119_20 c119_21)))
def c119_23 : AC := .out [5] (.loop [1, 5, 6, 11, 12] c119_22)
def c119_24 : AC := .out [5] (.block 0 c119_23)
def c119_25 : AC := .out [4] (.reg [5] [m 48 5,w 49 (.call 118 [48]),w 4 (.asg 49)])
def c119_26 : AC := (.seq (.out [0, 1] (.reg [0, 1] [w 4 (.asg (.nil 3 U1))])) (.seq (.out [1, 5] (.reg [0, 1] [m 8 0,w 9 (.call 117 [8]),w 5 (.asg 9)])) (.seq (.out [1, 5, 6] (.reg [1, 5] [w 6 (.asg (.c U1 0))])) (.seq (.seq c119_3 c119_24) (.seq c119_25 .ret)))))
def c119 : AC := c119_26
def d119 : FD := { nargs := 2, body := c119, res := [.t 4] }
def c115_2 : AC := .out [0, 1, 6, 7, 8] (.reg [0, 1, 6, 7] [m 12 0,w 13 (.lenL 12),w 14 (.bin .sub 13 (.c U1 1)),w 8 (.asg 14)])
def c115_3 : AC := .out [0, 1, 6, 7, 8, 16] (.reg [0, 1, 6, 7, 8] [m 15 8,w 16 (.bin .geq 15 (.c U1 0))])
def c115_4 : AC := .out [0, 1, 6, 7, 8] (.cond (.t 16) .skip (.exit 0))
def c115_7 : AC := .out [0, 1, 6, 7, 8, 9, 10, 29] (.reg [0, 1, 6, 7, 8, 9, 10] [m 27 9,m 28 10,w 29 (.bin .lss 27 28)])
def c115_8 : AC := .out [0, 1, 6, 7, 8, 9, 10] (.cond (.t 29) .skip (.exit 2))
def c115_11 : AC := .out [0, 1, 6, 7, 8, 9, 10] (.reg [0, 1, 6, 7, 8, 10, 11] [m 42 11,w 9 (.asg 42)])
def c115_12 : AC := .out [0, 1, 6, 7, 8, 9, 10] (.reg [0, 1, 6, 7, 8, 9, 11] [m 43 11,w 44 (.bin .sub 43 (.c U1 1)),w 10 (.asg 44)])
def c115_13 : AC := .out [0, 1, 6, 7, 8, 9, 10] (.cond (.t 41) c115_11 c115_12)
def c115_14 : AC := (.seq (.out [0, 1, 6, 7, 8, 9, 10, 11] (.reg [0, 1, 6, 7, 8, 9, 10] [m 30 9,m 31 10,w 32 (.bin .add 30 31),w 33 (.bin .add 32 (.c U1 1)),w 34 (.bin .quo 33 (.c U1 2)),w 11 (.asg 34)])) (.seq (.out [0, 1, 6, 7, 8, 9, 10, 11, 41] (.reg [0, 1, 6, 7, 8, 9, 10, 11] [m 35 1,m 36 11,w 37 (.buildSlice 3 U1 [36]),w 38 (.call 114 [35, 37]),m 39 7,w 40 (.call 96 [38, 39]),w 41 (.bin .leq 40 (.c U1 0))])) c115_13))
def c115_15 : AC := .out [0, 1, 6, 7, 8, 9, 10] (.block 3 c115_14)
def c115_16 : AC := (.seq (.seq c115_7 c115_8) c115_15)
def c115_17 : AC := .out [0, 1, 6, 7, 8, 9] (.loop [0, 1, 6, 7, 8, 9, 10] c115_16)
def c115_18 : AC := .out [0, 1, 6, 7, 8, 9] (.block 2 c115_17)
def c115_19 : AC := .out [0, 1, 6, 7, 8, 9, 46] (.reg [0, 1, 6, 7, 8, 9] [m 45 9,w 46 (.bin .gtr 45 (.c U1 0))])
def c115_20 : AC := .out [0, 1, 6, 7, 8, 9] (.reg [0, 1, 6, 7, 8, 9] [m 47 7,m 48 1,m 49 9,w 50 (.buildSlice 3 U1 [49]),w 51 (.call 114 [48, 50]),w 52 (.call 119 [47, 51]),w 7 (.cp 52)])
def c115_21 : AC := .out [0, 1, 6, 7, 8, 9] (.cond (.t 46) c115_20 .skip)
def c115_22 : AC := (.seq c115_19 c115_21)
def c115_23 : AC := .out [0, 1, 6, 7, 8] (.reg [0, 1, 6, 7, 8, 9] [m 53 6,m 54 9,w 55 (.buildSlice 3 U1 [54]),w 56 (.append 3 U1 17592186044416 53 55),w 6 (.asg 56)])
def c115_24 : AC := (.seq (.out [0, 1, 6, 7, 8] (.reg [0, 1, 6, 7, 8] [m 19 0,m 20 8,w 21 (.indexAddr U1 19 20),w 22 (.load U1 21),w 23 (.buildSlice 3 U1 [22]),m 24 7,w 25 (.append 3 U1 17592186044416 23 24),w 26 (.call 118 [25]),w 7 (.cp 26)])) (.seq (.out [0, 1, 6, 7, 8, 9, 10] (.reg [0, 1, 6, 7, 8] [w 9 (.asg (.c U1 0)),w 10 (.asg (.c U1 9999))])) (.seq c115_18 (.seq c115_22 c115_23))))
def c115_25 : AC := .out [0, 1, 6, 7, 8] (.block 1 c115_24)
def c115_26 : AC := .out [0, 1, 6, 7, 8] (.reg [0, 1, 6, 7, 8] [m 17 8,w 18 (.bin .sub 17 (.c U1 1)),w 8 (.asg 18)])
def c115_27 : AC := (.seq (.seq c115_3 c115_4) (.seq c115_25 c115_26))
def c115_28 : AC := .out [6, 7] (.loop [0, 1, 6, 7, 8] c115_27)
def c115_29 : AC := .out [6, 7] (.block 0 c115_28)
def c115_32 : AC := (.seq (.out [6, 7] (.reg [6, 7] [m 57 6,w 58 (.wrl 120 57)])) (.seq (.out [4, 5] (.reg [6, 7] [m 59 6,w 60 (.call 118 [59]),m 61 7,w 4 (.asg 60),w 5 (.asg 61)])) .ret))
def c115_33 : AC := (.seq (.out [0, 1] (.reg [0, 1] [w 4 (.asg (.nil 3 U1)),w 5 (.asg (.nil 3 U1))])) (.seq (.out [0, 1, 6, 7] (.reg [0, 1] [w 6 (.asg (.nil 3 U1)),w 7 (.cp (.nil 3 U1))])) (.seq (.seq c115_2 c115_29) c115_32)))
def c115 : AC := c115_33
def d115 : FD := { nargs := 2, body := c115, res := [.t 4, .t 5] }
def c105_2 : AC := .out [0, 2, 7] (.reg [0, 2] [m 5 0,w 6 (.lenL 5),w 7 (.bin .eql 6 (.c U1 0))])
def c105_3 : AC := .out [2] (.reg [2] [w 8 (.buildN U4 (.pair (.own true 3 .no) .no) []),⟨none, .store U4 2 8, none⟩])
def c105_4 : AC := .out [0, 2] (.cond (.t 7) (.seq c105_3 .ret) .skip)
def c105_5 : AC := .out [2] (.reg [0, 2] [m 9 0,w 10 (.build U4 [([.l], 9)]),⟨none, .store U4 2 10, none⟩])
def c105_6 : AC := (.seq (.out [0, 2] (.reg [0] [w 2 (.alloc U4 (.pair (.own true 3 .no) .no))])) (.seq (.out [0, 2] (.reg [0, 2] [m 3 0,w 4 (.call 118 [3]),w 0 (.asg 4)])) (.seq (.seq c105_2 c105_4) (.seq c105_5 .ret))))
def c105 : AC := c105_6
def d105 : FD := { nargs := 1, body := c105, res := [.cell 2 U4] }
def c101_0 : AC := .out [2, 3, 4] (.reg [0, 1] [w 2 (.box U4 0),w 3 (.box U4 1),w 4 (.alloc U4 (.pair (.own true 3 .no) .no)),w 5 (.asg (.c U1 0))])
def c101_1 : AC := .out [2, 3, 4, 17] (.reg [2, 3, 4] [w 10 (.load U4 2),w 11 (.call 75 [10]),w 12 (.un .not 11),m 13 12,⟨some 14, .load U4 3, some (13, false)⟩,⟨some 15, .call 75 [14], some (13, false)⟩,⟨some 16, .un .not 15, some (13, false)⟩,w 17 (.pick 13 (.c .bool true) 16)])
def c101_2 : AC := .out [4, 5] (.reg [4] [w 18 (.buildN U4 (.pair (.own true 3 .no) .no) []),⟨none, .store U4 4 18, none⟩,w 5 (.asg (.c U1 1))])
def c101_3 : AC := .out [2, 3, 4, 5] (.cond (.t 17) (.seq c101_2 .ret) .skip)
def c101_4 : AC := .out [4, 6, 7] (.draw [2, 3, 4] [⟨w 19 (.fieldAddr U4 [.l] 2), [22, 23], [19], [], false, []⟩,⟨w 20 (.load U2 19), [22, 23], [20], [0], false, []⟩,⟨w 21 (.call 117 [20]), [22, 23], [21], [0, 1], false, []⟩,⟨w 22 (.fieldAddr U4 [.l] 3), [19, 20, 21], [22], [], false, []⟩,⟨w 23 (.load U2 22), [19, 20, 21], [23], [3], false, []⟩,⟨w 24 (.call 117 [23]), [], [24], [0, 1, 2, 3, 4], true, []⟩,⟨w 6 (.cp 21), [], [6], [0, 1, 2, 3, 4, 5], true, []⟩,⟨w 7 (.cp 24), [], [7], [0, 1, 2, 3, 4, 5, 6], true, []⟩])
def c101_5 : AC := .out [4, 6, 7, 27] (.reg [4, 6, 7] [m 25 7,w 26 (.lenL 25),w 27 (.bin .gtr 26 (.c U1 0))])
def c101_6 : AC := .out [4, 6, 7] (.cond (.t 27) .skip (.exit 0))
def c101_9 : AC := (.seq (.out [4, 7, 9] (.reg [4, 6, 7] [m 29 6,m 30 7,w 31 (.call 115 [29, 30]),m 28 31,w 32 (.extract 28 0),w 33 (.extract 28 1),w 8 (.asg 32),w 9 (.asg 33)])) (.out [4, 6, 7] (.reg [4, 7, 9] [m 34 7,m 35 9,w 6 (.cp 34),w 7 (.cp 35)])))
def c101_10 : AC := .out [4, 6, 7] (.block 1 c101_9)
def c101_11 : AC := (.seq (.seq c101_5 c101_6) c101_10)
def c101_12 : AC := .out [4, 6] (.loop [4, 6, 7] c101_11)
def c101_13 : AC := .out [4, 6] (.block 0 c101_12)
def c101_14 : AC := .out [4, 5] (.reg [4, 6] [m 36 6,w 37 (.call 105 [36]),⟨none, .store U4 4 37, none⟩,w 5 (.asg (.c U1 0))])
def c101_15 : AC := (.seq c101_0 (.seq (.seq c101_1 c101_3) (.seq c101_4 (.seq c101_13 (.seq c101_14 .ret)))))
def c101 : AC := c101_15
def d101 : FD := { nargs := 2, body := c101, res := [.cell 4 U4, .t 5] }
def c81_0 : AC := .out [0, 2] (.reg [0] [w 2 (.alloc U4 (.pair (.own true 3 .no) .no)),w 3 (.asg (.c U1 0))])
def c81_1 : AC := .out [0, 2, 6] (.reg [0, 2] [m 5 0,w 6 (.bin .lss 5 (.c U1 0))])
def c81_2 : AC := .out [2, 3] (.reg [2] [w 7 (.buildN U4 (.pair (.own true 3 .no) .no) []),⟨none, .store U4 2 7, none⟩,w 3 (.asg (.c U1 6))])
def c81_3 : AC := .out [0, 2, 3] (.cond (.t 6) (.seq c81_2 .ret) .skip)
def c81_4 : AC := .out [0, 2, 4] (.reg [0, 2] [w 4 (.asg (.nil 3 U1))])
def c81_5 : AC := .out [0, 2, 4, 9] (.reg [0, 2, 4] [m 8 0,w 9 (.bin .gtr 8 (.c U1 0))])
def c81_6 : AC := .out [0, 2, 4] (.cond (.t 9) .skip (.exit 0))
def c81_7 : AC := .out [0, 2, 4] (.reg [0, 2, 4] [m 12 4,m 13 0,w 14 (.bin .rem 13 (.c U1 10000)),w 15 (.buildSlice 3 U1 [14]),w 16 (.append 3 U1 17592186044416 12 15),w 4 (.asg 16)])
def c81_8 : AC := .out [0, 2, 4] (.block 1 c81_7)
def c81_9 : AC := .out [0, 2, 4] (.reg [0, 2, 4] [m 10 0,w 11 (.bin .quo 10 (.c U1 10000)),w 0 (.asg 11)])
def c81_10 : AC := (.seq (.seq c81_5 c81_6) (.seq c81_8 c81_9))
def c81_11 : AC := .out [2, 4] (.loop [0, 2, 4] c81_10)
def c81_12 : AC := .out [2, 4] (.block 0 c81_11)
def c81_13 : AC := .out [2, 3] (.reg [2, 4] [m 17 4,w 18 (.call 105 [17]),⟨none, .store U4 2 18, none⟩,w 3 (.asg (.c U1 0))])
def c81_14 : AC := (.seq c81_0 (.seq (.seq c81_1 c81_3) (.seq c81_4 (.seq c81_12 (.seq c81_13 .ret)))))
def c81 : AC := c81_14
def d81 : FD := { nargs := 1, body := c81, res := [.cell 2 U4, .t 3] }
def c95_3 : AC := (.seq (.out [0, 2] (.reg [0] [w 2 (.alloc U4 (.pair (.own true 3 .no) .no))])) (.seq (.out [2, 3] (.reg [0, 2] [m 6 0,w 7 (.call 81 [6]),m 5 7,w 8 (.extract 5 0),w 9 (.extract 5 1),w 3 (.alloc U4 (.pair (.own true 3 .no) .no)),⟨none, .store U4 3 8, none⟩,w 4 (.asg 9)])) (.seq (.out [2] (.reg [2, 3] [w 10 (.load U4 3),⟨none, .store U4 2 10, none⟩])) .ret)))
def c95 : AC := c95_3
def d95 : FD := { nargs := 1, body := c95, res := [.cell 2 U4] }
def c69_2 : AC := (.seq (.out [2, 3] (.reg [0, 1] [w 2 (.box U4 0),w 3 (.box U4 1),w 4 (.asg (.c U1 0))])) (.seq (.out [4] (.reg [2, 3] [w 5 (.fieldAddr U4 [.l] 2),w 6 (.load U2 5),w 7 (.fieldAddr U4 [.l] 3),w 8 (.load U2 7),w 9 (.call 96 [6, 8]),w 4 (.asg 9)])) .ret))
def c69 : AC := c69_2
def d69 : FD := { nargs := 2, body := c69, res := [.t 4] }
def c97_0 : AC := .out [1] (.reg [0] [w 1 (.box U10 0),w 2 (.asg (.c .bool false))])
def c97_1 : AC := .out [1, 28] (.reg [1] [w 5 (.fieldAddr U10 [.r, .l] 1),w 6 (.load U4 5),w 7 (.call 75 [6]),w 8 (.un .not 7),m 9 8,⟨some 10, .fieldAddr U10 [.r, .r, .l] 1, some (9, false)⟩,⟨some 11, .load U4 10, some (9, false)⟩,⟨some 12, .call 75 [11], some (9, false)⟩,⟨some 13, .un .not 12, some (9, false)⟩,w 14 (.pick 9 (.c .bool true) 13),m 15 14,⟨some 16, .fieldAddr U10 [.r, .r, .l] 1, some (15, false)⟩,⟨some 17, .load U4 16, some (15, false)⟩,⟨some 18, .call 76 [17], some (15, false)⟩,w 19 (.pick 15 (.c .bool true) 18),m 20 19,⟨some 21, .fieldAddr U10 [.r, .l] 1, some (20, false)⟩,⟨some 22, .load U4 21, some (20, false)⟩,⟨some 23, .call 76 [22], some (20, false)⟩,⟨some 24, .mv 23, some (20, false)⟩,⟨some 25, .fieldAddr U10 [.l] 1, some (24, true)⟩,⟨some 26, .load .bool 25, some (24, true)⟩,⟨some 27, .pick 24 26 (.c .bool false), some (20, false)⟩,w 28 (.pick 20 (.c .bool true) 27)])
def c97_2 : AC := .out [2] (.reg [] [w 2 (.asg (.c .bool false))])
def c97_3 : AC := .out [1, 2] (.cond (.t 28) (.seq c97_2 .ret) .skip)
def c97_6 : AC := (.seq (.out [3, 4] (.reg [1] [w 30 (.fieldAddr U10 [.r, .l] 1),w 31 (.load U4 30),w 32 (.fieldAddr U10 [.r, .r, .l] 1),w 33 (.load U4 32),w 34 (.call 101 [31, 33]),m 29 34,w 35 (.extract 29 0),w 36 (.extract 29 1),w 3 (.alloc U4 (.pair (.own true 3 .no) .no)),⟨none, .store U4 3 35, none⟩,w 4 (.asg 36)])) (.seq (.out [2] (.draw [3, 4] [⟨m 37 4, [], [37], [], false, []⟩,⟨w 38 (.bin .eql 37 (.c U1 0)), [], [38], [0], false, []⟩,⟨m 39 38, [], [39], [0, 1], false, []⟩,⟨⟨some 40, .load U4 3, some (39, true)⟩, [41], [40], [0, 1, 2], false, []⟩,⟨⟨some 41, .call 95 [(.c U1 1)], some (39, true)⟩, [40], [41], [0, 1, 2], false, []⟩,⟨⟨some 42, .call 69 [40, 41], some (39, true)⟩, [], [42], [0, 1, 2, 3, 4], false, []⟩,⟨⟨some 43, .bin .eql 42 (.c U1 0), some (39, true)⟩, [], [43], [0, 1, 2, 3, 4, 5], false, []⟩,⟨w 44 (.pick 39 43 (.c .bool false)), [], [44], [0, 1, 2, 3, 4, 5, 6], false, []⟩,⟨w 2 (.asg 44), [], [2], [0, 1, 2, 3, 4, 5, 6, 7], false, []⟩])) .ret))
def c97_7 : AC := (.seq c97_0 (.seq (.seq c97_1 c97_3) c97_6))
def c97 : AC := c97_7
def d97 : FD := { nargs := 1, body := c97, res := [.t 2] }
def c49_3 : AC := (.seq (.out [0, 2] (.reg [0] [w 2 (.alloc U4 (.pair (.own true 3 .no) .no))])) (.seq (.out [2, 3] (.reg [0, 2] [m 6 0,w 7 (.call 81 [6]),m 5 7,w 8 (.extract 5 0),w 9 (.extract 5 1),w 3 (.alloc U4 (.pair (.own true 3 .no) .no)),⟨none, .store U4 3 8, none⟩,w 4 (.asg 9)])) (.seq (.out [2] (.reg [2, 3] [w 10 (.load U4 3),⟨none, .store U4 2 10, none⟩])) .ret)))
def c49 : AC := c49_3
def d49 : FD := { nargs := 1, body := c49, res := [.cell 2 U4] }
def c98_0 : AC := .out [1] (.reg [0] [w 1 (.box U4 0),w 2 (.asg (.c U1 0))])
def c98_1 : AC := .out [1, 6] (.reg [1] [w 3 (.fieldAddr U4 [.l] 1),w 4 (.load U2 3),w 5 (.lenL 4),w 6 (.bin .eql 5 (.c U1 0))])
def c98_2 : AC := .out [2] (.reg [] [w 2 (.asg (.c U1 0))])
def c98_3 : AC := .out [1, 2] (.cond (.t 6) (.seq c98_2 .ret) .skip)
def c98_4 : AC := .out [2] (.reg [1] [w 7 (.fieldAddr U4 [.l] 1),w 8 (.load U2 7),w 9 (.indexAddr U1 8 (.c U1 0)),w 10 (.load U1 9),w 2 (.asg 10)])
def c98_5 : AC := (.seq c98_0 (.seq (.seq c98_1 c98_3) (.seq c98_4 .ret)))
def c98 : AC := c98_5
def d98 : FD := { nargs := 1, body := c98, res := [.t 2] }
def c74_0 : AC := .out [1] (.reg [0] [w 1 (.box U10 0),w 2 (.asg (.c U1 0)),w 3 (.asg (.c U1 0)),w 4 (.asg (.c U1 0))])
def c74_1 : AC := .out [1, 7] (.reg [1] [w 5 (.load U10 1),w 6 (.call 97 [5]),w 7 (.un .not 6)])
def c74_2 : AC := .out [2, 3, 4] (.reg [] [w 2 (.asg (.c U1 0)),w 3 (.asg (.c U1 0)),w 4 (.asg (.c U1 1))])
def c74_3 : AC := .out [1, 2, 3, 4] (.cond (.t 7) (.seq c74_2 .ret) .skip)
def c74_4 : AC := .out [1, 24] (.draw [1] [⟨w 8 (.fieldAddr U10 [.l] 1), [], [8], [], false, []⟩,⟨w 9 (.load .bool 8), [], [9], [0], false, []⟩,⟨m 10 9, [], [10], [0, 1], false, []⟩,⟨⟨some 11, .fieldAddr U10 [.r, .l] 1, some (10, false)⟩, [13, 14], [11], [0, 1, 2], false, []⟩,⟨⟨some 12, .load U4 11, some (10, false)⟩, [13, 14], [12], [0, 1, 2, 3], false, []⟩,⟨⟨some 13, .fieldAddr U10 [.r, .r, .l] 1, some (10, false)⟩, [11, 12], [13], [0, 1, 2], false, []⟩,⟨⟨some 14, .load U4 13, some (10, false)⟩, [11, 12], [14], [0, 1, 2, 5], false, []⟩,⟨⟨some 15, .call 69 [12, 14], some (10, false)⟩, [], [15], [0, 1, 2, 3, 4, 5, 6], false, []⟩,⟨⟨some 16, .bin .gtr 15 (.c U1 0), some (10, false)⟩, [], [16], [0, 1, 2, 3, 4, 5, 6, 7], false, []⟩,⟨w 17 (.pick 10 (.c .bool true) 16), [], [17], [0, 1, 2, 3, 4, 5, 6, 7, 8], false, []⟩,⟨m 18 17, [], [18], [0, 1, 2, 3, 4, 5, 6, 7, 8, 9], false, []⟩,⟨⟨some 19, .fieldAddr U10 [.r, .r, .l] 1, some (18, false)⟩, [21], [19], [0, 1, 2, 3, 4, 5, 6, 7, 8, 9, 10], false, []⟩,⟨⟨some 20, .load U4 19, some (18, false)⟩, [21], [20], [0, 1, 2, 3, 4, 5, 6, 7, 8, 9, 10, 11], false, []⟩,⟨⟨some 21, .call 49 [(.c U1 1000)], some (18, false)⟩, [19, 20], [21], [0, 1, 2, 3, 4, 5, 6, 7, 8, 9, 10], false, []⟩,⟨⟨some 22, .call 69 [20, 21], some (18, false)⟩, [], [22], [0, 1, 2, 3, 4, 5, 6, 7, 8, 9, 10, 11, 12, 13], false, []⟩,⟨⟨some 23, .bin .gtr 22 (.c U1 0), some (18, false)⟩, [], [23], [0, 1, 2, 3, 4, 5, 6, 7, 8, 9, 10, 11, 12, 13, 14], false, []⟩,⟨w 24 (.pick 18 (.c .bool true) 23), [], [24], [0, 1, 2, 3, 4, 5, 6, 7, 8, 9, 10, 11, 12, 13, 14, 15], false, []⟩])
def c74_5 : AC := .out [2, 3, 4] (.reg [] [w 2 (.asg (.c U1 0)),w 3 (.asg (.c U1 0)),w 4 (.asg (.c U1 6))])
def c74_6 : AC := .out [1, 2, 3, 4] (.cond (.t 24) (.seq c74_5 .ret) .skip)
def c74_7 : AC := .out [2, 3, 4] (.draw [1] [⟨w 25 (.fieldAddr U10 [.r, .l] 1), [28, 29], [25], [], false, []⟩,⟨w 26 (.load U4 25), [28, 29], [26], [0], false, []⟩,⟨w 27 (.call 98 [26]), [28, 29], [27], [0, 1], false, []⟩,⟨w 28 (.fieldAddr U10 [.r, .r, .l] 1), [25, 26, 27], [28], [], false, []⟩,⟨w 29 (.load U4 28), [25, 26, 27], [29], [3], false, []⟩,⟨w 30 (.call 98 [29]), [], [30], [0, 1, 2, 3, 4], false, []⟩,⟨w 2 (.asg 27), [], [2], [0, 1, 2, 3, 4, 5], false, []⟩,⟨w 3 (.asg 30), [], [3], [0, 1, 2, 3, 4, 5, 6], false, []⟩,⟨w 4 (.asg (.c U1 0)), [], [4], [0, 1, 2, 3, 4, 5, 6, 7], false, []⟩])
def c74_8 : AC := (.seq c74_0 (.seq (.seq c74_1 c74_3) (.seq (.seq c74_4 c74_6) (.seq c74_7 .ret))))
def c74 : AC := c74_8
def d74 : FD := { nargs := 1, body := c74, res := [.t 2, .t 3, .t 4] }
def c43_2 : AC := .out [0, 1, 2, 3, 13, 14, 15, 23] (.reg [0, 1, 2, 3, 13, 14, 15] [m 22 15,w 23 (.bin .neq 22 (.c U1 0))])
def c43_3 : AC := .out [10, 11, 12] (.reg [15] [m 24 15,w 10 (.asg (.c U1 0)),w 11 (.asg (.c U1 0)),w 12 (.asg 24)])
def c43_4 : AC := .out [0, 1, 2, 3, 10, 11, 12, 13, 14] (.cond (.t 23) (.seq c43_3 .ret) .skip)
def c43_5 : AC := .out [13, 14, 40] (.reg [0, 1, 2, 3, 13, 14] [m 25 0,w 26 (.bin .lss 25 (.c U1 0)),m 27 26,⟨some 28, .mv 0, some (27, false)⟩,⟨some 29, .mv 2, some (27, false)⟩,⟨some 30, .bin .gtr 28 29, some (27, false)⟩,w 31 (.pick 27 (.c .bool true) 30),m 32 31,⟨some 33, .mv 1, some (32, false)⟩,⟨some 34, .bin .lss 33 (.c U1 0), some (32, false)⟩,w 35 (.pick 32 (.c .bool true) 34),m 36 35,⟨some 37, .mv 1, some (36, false)⟩,⟨some 38, .mv 3, some (36, false)⟩,⟨some 39, .bin .gtr 37 38, some (36, false)⟩,w 40 (.pick 36 (.c .bool true) 39)])
def c43_6 : AC := .out [10, 11, 12] (.reg [] [w 10 (.asg (.c U1 0)),w 11 (.asg (.c U1 0)),w 12 (.asg (.c U1 6))])
def c43_7 : AC := .out [10, 11, 12, 13, 14] (.cond (.t 40) (.seq c43_6 .ret) .skip)
def c43_8 : AC := .out [10, 11, 12] (.reg [13, 14] [m 41 13,m 42 14,w 10 (.asg 41),w 11 (.asg 42),w 12 (.asg (.c U1 0))])
def c43_9 : AC := (.seq (.out [0, 1, 2, 3, 9] (.reg [0, 1, 2, 3, 4] [w 9 (.box U10 4),w 10 (.asg (.c U1 0)),w 11 (.asg (.c U1 0)),w 12 (.asg (.c U1 0))])) (.seq (.out [0, 1, 2, 3, 13, 14, 15] (.reg [0, 1, 2, 3, 9] [w 17 (.load U10 9),w 18 (.call 74 [17]),m 16 18,w 19 (.extract 16 0),w 20 (.extract 16 1),w 21 (.extract 16 2),w 13 (.asg 19),w 14 (.asg 20),w 15 (.asg 21)])) (.seq (.seq c43_2 c43_4) (.seq (.seq c43_5 c43_7) (.seq c43_8 .ret)))))
def c43 : AC := c43_9
def d43 : FD := { nargs := 5, body := c43, res := [.t 10, .t 11, .t 12] }
def c102_0 : AC := .out [2, 3, 4, 5] (.reg [0, 1] [w 2 (.box U4 0),w 3 (.box U4 1),w 4 (.alloc U4 (.pair (.own true 3 .no) .no)),w 5 (.alloc U4 (.pair (.own true 3 .no) .no)),w 6 (.asg (.c U1 0))])
def c102_1 : AC := .out [2, 3, 4, 5, 9] (.reg [2, 3, 4, 5] [w 10 (.load U4 2),w 11 (.call 75 [10]),w 12 (.un .not 11),m 13 12,⟨some 14, .load U4 3, some (13, false)⟩,⟨some 15, .call 75 [14], some (13, false)⟩,⟨some 16, .un .not 15, some (13, false)⟩,w 17 (.pick 13 (.c .bool true) 16),w 9 (.asg 17)])
def c102_2 : AC := .out [4, 5, 6] (.reg [4, 5] [w 18 (.buildN U4 (.pair (.own true 3 .no) .no) []),w 19 (.buildN U4 (.pair (.own true 3 .no) .no) []),⟨none, .store U4 4 18, none⟩,⟨none, .store U4 5 19, none⟩,w 6 (.asg (.c U1 1))])
def c102_3 : AC := .out [2, 3, 4, 5, 20] (.reg [2, 3, 4, 5] [w 21 (.fieldAddr U4 [.l] 3),w 22 (.load U2 21),w 23 (.lenL 22),w 24 (.bin .eql 23 (.c U1 0)),w 20 (.asg 24)])
def c102_4 : AC := .out [4, 5, 6] (.reg [4, 5] [w 25 (.buildN U4 (.pair (.own true 3 .no) .no) []),w 26 (.buildN U4 (.pair (.own true 3 .no) .no) []),⟨none, .store U4 4 25, none⟩,⟨none, .store U4 5 26, none⟩,w 6 (.asg (.c U1 6))])
def c102_5 : AC := .out [2, 3, 4, 5, 6] (.cond (.t 20) (.seq c102_4 .ret) .skip)
def c102_6 : AC := .out [2, 3, 4, 5, 6] (.cond (.t 9) (.seq c102_2 .ret) (.seq c102_3 c102_5))
def c102_7 : AC := .out [2, 3, 4, 5, 6] (.block 0 (.seq c102_1 c102_6))
def c102_10 : AC := (.seq (.out [4, 5, 7, 8] (.reg [2, 3, 4, 5] [w 28 (.fieldAddr U4 [.l] 2),w 29 (.load U2 28),w 30 (.fieldAddr U4 [.l] 3),w 31 (.load U2 30),w 32 (.call 115 [29, 31]),m 27 32,w 33 (.extract 27 0),w 34 (.extract 27 1),w 7 (.asg 33),w 8 (.asg 34)])) (.seq (.out [4, 5, 6] (.reg [4, 5, 7, 8] [m 35 7,w 36 (.call 105 [35]),m 37 8,w 38 (.call 105 [37]),⟨none, .store U4 4 36, none⟩,⟨none, .store U4 5 38, none⟩,w 6 (.asg (.c U1 0))])) .ret))
def c102_11 : AC := (.seq c102_0 (.seq c102_7 c102_10))
def c102 : AC := c102_11
def d102 : FD := { nargs := 2, body := c102, res := [.cell 4 U4, .cell 5 U4, .t 6] }
def c77_5 : AC := (.seq (.out [0, 4, 5, 6] (.reg [0, 1, 2] [w 4 (.box U4 1),w 5 (.box U4 2),w 6 (.alloc U10 (.pair .no (.pair (.pair (.own true 3 .no) .no) (.pair (.pair (.own true 3 .no) .no) .no))))])) (.seq (.out [0, 4, 5, 6, 7] (.reg [0, 4, 5, 6] [w 16 (.load U4 4),w 17 (.load U4 5),w 18 (.call 101 [16, 17]),m 15 18,w 19 (.extract 15 0),w 20 (.extract 15 1),w 7 (.alloc U4 (.pair (.own true 3 .no) .no)),⟨none, .store U4 7 19, none⟩,w 8 (.asg 20)])) (.seq (.out [0, 5, 6, 7, 9] (.reg [0, 4, 5, 6, 7] [w 22 (.load U4 4),w 23 (.load U4 7),w 24 (.call 102 [22, 23]),m 21 24,w 25 (.extract 21 0),w 26 (.extract 21 1),w 27 (.extract 21 2),w 9 (.alloc U4 (.pair (.own true 3 .no) .no)),w 10 (.alloc U4 (.pair (.own true 3 .no) .no)),⟨none, .store U4 9 25, none⟩,⟨none, .store U4 10 26, none⟩,w 11 (.asg 27)])) (.seq (.out [0, 6, 9, 12] (.reg [0, 5, 6, 7, 9] [w 29 (.load U4 5),w 30 (.load U4 7),w 31 (.call 102 [29, 30]),m 28 31,w 32 (.extract 28 0),w 33 (.extract 28 1),w 34 (.extract 28 2),w 12 (.alloc U4 (.pair (.own true 3 .no) .no)),w 13 (.alloc U4 (.pair (.own true 3 .no) .no)),⟨none, .store U4 12 32, none⟩,⟨none, .store U4 13 33, none⟩,w 14 (.asg 34)])) (.seq (.out [6] (.draw [0, 6, 9, 12] [⟨m 35 0, [41, 42], [35], [], false, []⟩,⟨m 36 35, [41, 42], [36], [0], false, []⟩,⟨⟨some 37, .load U4 9, some (36, true)⟩, [41, 42], [37], [0, 1], false, []⟩,⟨⟨some 38, .call 76 [37], some (36, true)⟩, [41, 42], [38], [0, 1, 2], false, []⟩,⟨⟨some 39, .un .not 38, some (36, true)⟩, [41, 42], [39], [0, 1, 2, 3], false, []⟩,⟨w 40 (.pick 36 39 (.c .bool false)), [41, 42], [40], [0, 1, 2, 3, 4], false, []⟩,⟨w 41 (.load U4 9), [35, 36, 37, 38, 39, 40, 42], [41], [], false, []⟩,⟨w 42 (.load U4 12), [35, 36, 37, 38, 39, 40, 41], [42], [], false, []⟩,⟨w 43 (.build U10 [([.l], 40), ([.r, .l], 41), ([.r, .r, .l], 42)]), [], [43], [0, 1, 2, 3, 4, 5, 6, 7], true, []⟩,⟨⟨none, .store U10 6 43, none⟩, [], [6], [0, 1, 2, 3, 4, 5, 6, 7, 8], true, []⟩])) .ret)))))
def c77 : AC := c77_5
def d77 : FD := { nargs := 3, body := c77, res := [.cell 6 U10] }
def c68_0 : AC := .out [0, 1, 4] (.reg [0, 1] [w 4 (.alloc U10 (.pair .no (.pair (.pair (.own true 3 .no) .no) (.pair (.pair (.own true 3 .no) .no) .no)))),w 5 (.asg (.c U1 0))])
def c68_1 : AC := .out [0, 1, 4, 7] (.reg [0, 1, 4] [m 6 1,w 7 (.bin .eql 6 (.c U1 0))])
def c68_2 : AC := .out [4, 5] (.reg [4] [w 8 (.build U10 []),⟨none, .store U10 4 8, none⟩,w 5 (.asg (.c U1 6))])
def c68_3 : AC := .out [0, 1, 4, 5] (.cond (.t 7) (.seq c68_2 .ret) .skip)
def c68_4 : AC := .out [0, 1, 4, 18] (.reg [0, 1, 4] [m 9 0,m 10 1,w 11 (.mm true 9 10),w 12 (.bin .gtr 11 (.c U1 1000000000000000)),m 13 12,⟨some 14, .mv 0, some (13, false)⟩,⟨some 15, .mv 1, some (13, false)⟩,⟨some 16, .mm false 14 15, some (13, false)⟩,⟨some 17, .bin .lss 16 (.c U1 (-1000000000000000)), some (13, false)⟩,w 18 (.pick 13 (.c .bool true) 17)])
def c68_5 : AC := .out [4, 5] (.reg [4] [w 19 (.build U10 []),⟨none, .store U10 4 19, none⟩,w 5 (.asg (.c U1 3))])
def c68_6 : AC := .out [0, 1, 4, 5] (.cond (.t 18) (.seq c68_5 .ret) .skip)
def c68_7 : AC := .out [4, 5] (.reg [0, 1, 4] [m 20 0,w 21 (.bin .lss 20 (.c U1 0)),m 22 1,w 23 (.bin .lss 22 (.c U1 0)),w 24 (.eqT true .bool 21 23),m 25 0,m 26 0,w 27 (.un .neg 26),w 28 (.mm true 25 27),w 29 (.call 95 [28]),m 30 1,m 31 1,w 32 (.un .neg 31),w 33 (.mm true 30 32),w 34 (.call 95 [33]),w 35 (.call 77 [24, 29, 34]),⟨none, .store U10 4 35, none⟩,w 5 (.asg (.c U1 0))])
def c68_8 : AC := (.seq c68_0 (.seq (.seq c68_1 c68_3) (.seq (.seq c68_4 c68_6) (.seq c68_7 .ret))))
def c68 : AC := c68_8
def d68 : FD := { nargs := 2, body := c68, res := [.cell 4 U10, .t 5] }
def c36_2 : AC := .out [0, 1, 6, 8, 9, 10, 22] (.reg [0, 1, 6, 8, 9, 10] [m 21 10,w 22 (.bin .neq 21 (.c U1 0))])
def c36_3 : AC := .out [6, 7] (.reg [6, 10] [w 23 (.build U10 []),m 24 10,⟨none, .store U10 6 23, none⟩,w 7 (.asg 24)])
def c36_4 : AC := .out [0, 1, 6, 7, 8, 9] (.cond (.t 22) (.seq c36_3 .ret) .skip)
def c36_5 : AC := .out [0, 1, 6, 8, 9, 35] (.reg [0, 1, 6, 8, 9] [m 25 8,m 26 9,w 27 (.bin .eql 25 26),m 28 27,⟨some 29, .mv 8, some (28, false)⟩,⟨some 30, .bin .eql 29 (.c U1 0), some (28, false)⟩,⟨some 31, .mv 30, some (28, false)⟩,⟨some 32, .mv 1, some (31, true)⟩,⟨some 33, .bin .gtr 32 (.c U1 0), some (31, true)⟩,⟨some 34, .pick 31 33 (.c .bool false), some (28, false)⟩,w 35 (.pick 28 (.c .bool true) 34)])
def c36_6 : AC := .out [6, 7] (.reg [6] [w 36 (.build U10 []),⟨none, .store U10 6 36, none⟩,w 7 (.asg (.c U1 10))])
def c36_7 : AC := .out [0, 1, 6, 7, 8, 9] (.cond (.t 35) (.seq c36_6 .ret) .skip)
def c36_8 : AC := .out [6, 7] (.reg [0, 1, 6, 8, 9] [m 37 0,m 38 1,w 39 (.bin .sub 37 38),m 40 8,w 41 (.bin .mul 39 40),m 42 1,w 43 (.bin .add 42 (.c U1 1)),m 44 9,m 45 8,w 46 (.bin .sub 44 45),w 47 (.bin .mul 43 46),w 48 (.call 68 [41, 47]),w 49 (.extract 48 0),w 50 (.extract 48 1),⟨none, .store U10 6 49, none⟩,w 7 (.asg 50)])
def c36_9 : AC := (.seq (.out [0, 1, 5, 6] (.reg [0, 1, 2] [w 5 (.box U10 2),w 6 (.alloc U10 (.pair .no (.pair (.pair (.own true 3 .no) .no) (.pair (.pair (.own true 3 .no) .no) .no)))),w 7 (.asg (.c U1 0))])) (.seq (.out [0, 1, 6, 8, 9, 10] (.reg [0, 1, 5, 6] [m 12 0,m 13 1,m 14 0,w 15 (.bin .sub 14 (.c U1 1)),w 16 (.load U10 5),w 17 (.call 43 [12, 13, (.c U1 200), 15, 16]),m 11 17,w 18 (.extract 11 0),w 19 (.extract 11 1),w 20 (.extract 11 2),w 8 (.asg 18),w 9 (.asg 19),w 10 (.asg 20)])) (.seq (.seq c36_2 c36_4) (.seq (.seq c36_5 c36_7) (.seq c36_8 .ret)))))
def c36 : AC := c36_9
def d36 : FD := { nargs := 3, body := c36, res := [.cell 6 U10, .t 7] }
def c86_2 : AC := .out [1, 3, 22] (.reg [1, 3] [m 8 3,w 9 (.bin .gtr 8 (.c U1 200)),m 10 9,⟨some 11, .mv 3, some (10, false)⟩,⟨some 12, .bin .gtr 11 (.c U1 0), some (10, false)⟩,⟨some 13, .mv 12, some (10, false)⟩,⟨some 14, .fieldAddr U4 [.l] 1, some (13, true)⟩,⟨some 15, .load U2 14, some (13, true)⟩,⟨some 16, .mv 3, some (13, true)⟩,⟨some 17, .bin .sub 16 (.c U1 1), some (13, true)⟩,⟨some 18, .indexAddr U1 15 17, some (13, true)⟩,⟨some 19, .load U1 18, some (13, true)⟩,⟨some 20, .bin .eql 19 (.c U1 0), some (13, true)⟩,⟨some 21, .pick 13 20 (.c .bool false), some (10, false)⟩,w 22 (.pick 10 (.c .bool true) 21)])
def c86_3 : AC := .out [2] (.reg [] [w 2 (.asg (.c .bool false))])
def c86_4 : AC := .out [1, 2, 3] (.cond (.t 22) (.seq c86_3 .ret) .skip)
def c86_5 : AC := .out [1, 3, 4] (.reg [1, 3] [w 4 (.asg (.c U1 0))])
def c86_6 : AC := .out [1, 3, 4, 25] (.reg [1, 3, 4] [m 23 4,m 24 3,w 25 (.bin .lss 23 24)])
def c86_7 : AC := .out [1, 3, 4] (.cond (.t 25) .skip (.exit 0))
def c86_8 : AC := .out [1, 3, 4, 41] (.reg [1, 3, 4] [w 28 (.fieldAddr U4 [.l] 1),w 29 (.load U2 28),m 30 4,w 31 (.indexAddr U1 29 30),w 32 (.load U1 31),w 33 (.bin .lss 32 (.c U1 0)),m 34 33,⟨some 35, .fieldAddr U4 [.l] 1, some (34, false)⟩,⟨some 36, .load U2 35, some (34, false)⟩,⟨some 37, .mv 4, some (34, false)⟩,⟨some 38, .indexAddr U1 36 37, some (34, false)⟩,⟨some 39, .load U1 38, some (34, false)⟩,⟨some 40, .bin .geq 39 (.c U1 10000), some (34, false)⟩,w 41 (.pick 34 (.c .bool true) 40)])
def c86_9 : AC := .out [2] (.reg [] [w 2 (.asg (.c .bool false))])
def c86_10 : AC := .out [1, 2, 3, 4] (.cond (.t 41) (.seq c86_9 .ret) .skip)
def c86_11 : AC := .out [1, 2, 3, 4] (.block 1 (.seq c86_8 c86_10))
def c86_12 : AC := .out [1, 3, 4] (.reg [1, 3, 4] [m 26 4,w 27 (.bin .add 26 (.c U1 1)),w 4 (.asg 27)])
def c86_13 : AC := (.seq (.seq c86_6 c86_7) (.seq c86_11 c86_12))
def c86_14 : AC := .out [2] (.loop [1, 3, 4] c86_13)
def c86_15 : AC := .out [2] (.block 0 c86_14)
def c86_16 : AC := .out [2] (.reg [] [w 2 (.asg (.c .bool true))])
def c86_17 : AC := (.seq (.out [1] (.reg [0] [w 1 (.box U4 0),w 2 (.asg (.c .bool false))])) (.seq (.out [1, 3] (.reg [1] [w 5 (.fieldAddr U4 [.l] 1),w 6 (.load U2 5),w 7 (.lenL 6),w 3 (.asg 7)])) (.seq (.seq c86_2 c86_4) (.seq (.seq c86_5 c86_15) (.seq c86_16 .ret)))))
def c86 : AC := c86_17
def d86 : FD := { nargs := 1, body := c86, res := [.t 2] }
def c56_2 : AC := (.seq (.out [1] (.reg [0] [w 1 (.box U4 0),w 2 (.asg (.c .bool false))])) (.seq (.out [2] (.reg [1] [w 3 (.fieldAddr U4 [.l] 1),w 4 (.load U2 3),w 5 (.lenL 4),w 6 (.bin .eql 5 (.c U1 0)),w 2 (.asg 6)])) .ret))
def c56 : AC := c56_2
def d56 : FD := { nargs := 1, body := c56, res := [.t 2] }
def c108_2 : AC := (.seq (.out [0] (.reg [0] [w 2 (.asg (.c .bool false))])) (.seq (.out [2] (.reg [0] [m 3 0,w 4 (.lenL 3),w 5 (.bin .eql 4 (.c U1 0)),m 6 5,⟨some 7, .mv 0, some (6, false)⟩,⟨some 8, .indexAddr U1 7 (.c U1 0), some (6, false)⟩,⟨some 9, .load U1 8, some (6, false)⟩,⟨some 10, .bin .rem 9 (.c U1 2), some (6, false)⟩,⟨some 11, .bin .eql 10 (.c U1 0), some (6, false)⟩,w 12 (.pick 6 (.c .bool true) 11),w 2 (.asg 12)])) .ret))
def c108 : AC := c108_2
def d108 : FD := { nargs := 1, body := c108, res := [.t 2] }
def c113_0 : AC := .out [0] (.reg [0] [w 2 (.asg (.nil 3 U1))])
def c113_1 : AC := .out [0, 14] (.reg [0] [m 3 0,w 4 (.lenL 3),w 5 (.bin .gtr 4 (.c U1 0)),m 6 5,⟨some 7, .mv 0, some (6, true)⟩,⟨some 8, .mv 0, some (6, true)⟩,⟨some 9, .lenL 8, some (6, true)⟩,⟨some 10, .bin .sub 9 (.c U1 1), some (6, true)⟩,⟨some 11, .indexAddr U1 7 10, some (6, true)⟩,⟨some 12, .load U1 11, some (6, true)⟩,⟨some 13, .bin .eql 12 (.c U1 0), some (6, true)⟩,w 14 (.pick 6 13 (.c .bool false))])
def c113_2 : AC := .out [0] (.cond (.t 14) .skip (.exit 0))
def c113_3 : AC := .out [0] (.reg [0] [m 15 0,m 16 0,w 17 (.lenL 16),w 18 (.bin .sub 17 (.c U1 1)),w 19 (.sliceL U1 15 none (some 18) none),w 0 (.asg 19)])
def c113_4 : AC := .out [0] (.block 1 c113_3)
def c113_5 : AC := (.seq (.seq c113_1 c113_2) c113_4)
def c113_6 : AC := .out [0] (.loop [0] c113_5)
def c113_7 : AC := .out [0] (.block 0 c113_6)
def c113_8 : AC := .out [2] (.reg [0] [m 20 0,w 2 (.asg 20)])
def c113_9 : AC := (.seq c113_0 (.seq c113_7 (.seq c113_8 .ret)))
def c113 : AC := c113_9
def d113 : FD := { nargs := 1, body := c113, res := [.t 2] }
def c109_3 : AC := .out [0, 3, 4, 5] (.reg [0, 3, 4] [m 10 0,w 11 (.lenL 10),w 12 (.bin .sub 11 (.c U1 1)),w 5 (.asg 12)])
def c109_4 : AC := .out [0, 3, 4, 5, 14] (.reg [0, 3, 4, 5] [m 13 5,w 14 (.bin .geq 13 (.c U1 0))])
def c109_5 : AC := .out [0, 3, 4, 5] (.cond (.t 14) .skip (.exit 0))
def c109_9 : AC := (.seq (.out [0, 3, 5, 6] (.reg [0, 3, 4, 5] [m 17 4,w 18 (.bin .mul 17 (.c U1 10000)),m 19 0,m 20 5,w 21 (.indexAddr U1 19 20),w 22 (.load U1 21),w 23 (.bin .add 18 22),w 6 (.asg 23)])) (.seq (.out [0, 3, 5, 6] (.reg [0, 3, 5, 6] [m 24 3,m 25 5,m 26 6,w 27 (.bin .quo 26 (.c U1 2)),w 28 (.indexAddr U1 24 25),⟨none, .store U1 28 27, none⟩])) (.out [0, 3, 4, 5] (.reg [0, 3, 5, 6] [m 29 6,w 30 (.bin .rem 29 (.c U1 2)),w 4 (.asg 30)]))))
def c109_10 : AC := .out [0, 3, 4, 5] (.block 1 c109_9)
def c109_11 : AC := .out [0, 3, 4, 5] (.reg [0, 3, 4, 5] [m 15 5,w 16 (.bin .sub 15 (.c U1 1)),w 5 (.asg 16)])
def c109_12 : AC := (.seq (.seq c109_4 c109_5) (.seq c109_10 c109_11))
def c109_13 : AC := .out [3] (.loop [0, 3, 4, 5] c109_12)
def c109_14 : AC := .out [3] (.block 0 c109_13)
def c109_15 : AC := .out [2] (.reg [3] [m 31 3,w 32 (.call 113 [31]),w 2 (.asg 32)])
def c109_16 : AC := (.seq (.out [0] (.reg [0] [w 2 (.asg (.nil 3 U1))])) (.seq (.out [0, 3] (.reg [0] [m 7 0,w 8 (.lenL 7),w 9 (.mkSlice 3 U1 17592186044416 8 8),w 3 (.asg 9)])) (.seq (.out [0, 3, 4] (.reg [0, 3] [w 4 (.asg (.c U1 0))])) (.seq (.seq c109_3 c109_14) (.seq c109_15 .ret)))))
def c109 : AC := c109_16
def d109 : FD := { nargs := 1, body := c109, res := [.t 2] }
def c90_0 : AC := .out [0, 1] (.reg [0, 1] [w 4 (.asg (.c U1 0))])
def c90_1 : AC := .out [0, 1, 10] (.reg [0, 1] [m 6 0,w 7 (.lenL 6),m 8 1,w 9 (.lenL 8),w 10 (.bin .lss 7 9)])
def c90_2 : AC := .out [4] (.reg [] [w 4 (.asg (.c U1 (-1)))])
def c90_3 : AC := .out [0, 1, 4] (.cond (.t 10) (.seq c90_2 .ret) .skip)
def c90_4 : AC := .out [0, 1, 15] (.reg [0, 1] [m 11 0,w 12 (.lenL 11),m 13 1,w 14 (.lenL 13),w 15 (.bin .gtr 12 14)])
def c90_5 : AC := .out [4] (.reg [] [w 4 (.asg (.c U1 1))])
def c90_6 : AC := .out [0, 1, 4] (.cond (.t 15) (.seq c90_5 .ret) .skip)
def c90_7 : AC := .out [0, 1, 5] (.reg [0, 1] [m 16 0,w 17 (.lenL 16),w 18 (.bin .sub 17 (.c U1 1)),w 5 (.asg 18)])
def c90_8 : AC := .out [0, 1, 5, 20] (.reg [0, 1, 5] [m 19 5,w 20 (.bin .geq 19 (.c U1 0))])
def c90_9 : AC := .out [0, 1, 5] (.cond (.t 20) .skip (.exit 0))
def c90_10 : AC := .out [0, 1, 5, 31] (.draw [0, 1, 5] [⟨m 23 0, [24, 27, 28, 29, 30], [23], [], false, []⟩,⟨m 24 5, [23, 27, 28, 29, 30], [24], [], false, []⟩,⟨w 25 (.indexAddr U1 23 24), [27, 28, 29, 30], [25], [0, 1], false, []⟩,⟨w 26 (.load U1 25), [27, 28, 29, 30], [26], [0, 1, 2], false, []⟩,⟨m 27 1, [23, 24, 25, 26, 28], [27], [], false, []⟩,⟨m 28 5, [23, 24, 25, 26, 27], [28], [], false, []⟩,⟨w 29 (.indexAddr U1 27 28), [23, 24, 25, 26], [29], [4, 5], false, []⟩,⟨w 30 (.load U1 29), [23, 24, 25, 26], [30], [4, 5, 6], false, []⟩,⟨w 31 (.bin .lss 26 30), [], [31], [0, 1, 2, 3, 4, 5, 6, 7], false, []⟩])
def c90_11 : AC := .out [4] (.reg [] [w 4 (.asg (.c U1 (-1)))])
def c90_12 : AC := .out [0, 1, 4, 5] (.cond (.t 31) (.seq c90_11 .ret) .skip)
def c90_13 : AC := .out [0, 1, 5, 40] (.draw [0, 1, 5] [⟨m 32 0, [33, 36, 37, 38, 39], [32], [], false, []⟩,⟨m 33 5, [32, 36, 37, 38, 39], [33], [], false, []⟩,⟨w 34 (.indexAddr U1 32 33), [36, 37, 38, 39], [34], [0, 1], false, []⟩,⟨w 35 (.load U1 34), [36, 37, 38, 39], [35], [0, 1, 2], false, []⟩,⟨m 36 1, [32, 33, 34, 35, 37], [36], [], false, []⟩,⟨m 37 5, [32, 33, 34, 35, 36], [37], [], false, []⟩,⟨w 38 (.indexAddr U1 36 37), [32, 33, 34, 35], [38], [4, 5], false, []⟩,⟨w 39 (.load U1 38), [32, 33, 34, 35], [39], [4, 5, 6], false, []⟩,⟨w 40 (.bin .gtr 35 39), [], [40], [0, 1, 2, 3, 4, 5, 6, 7], false, []⟩])
def c90_14 : AC := .out [4] (.reg [] [w 4 (.asg (.c U1 1))])
def c90_15 : AC := .out [0, 1, 4, 5] (.cond (.t 40) (.seq c90_14 .ret) .skip)
def c90_16 : AC := .out [0, 1, 4, 5] (.block 1 (.seq (.seq c90_10 c90_12) (.seq c90_13 c90_15)))
def c90_17 : AC := .out [0, 1, 5] (.reg [0, 1, 5] [m 21 5,w 22 (.bin .sub 21 (.c U1 1)),w 5 (.asg 22)])
def c90_18 : AC := (.seq (.seq c90_8 c90_9) (.seq c90_16 c90_17))
def c90_19 : AC := .out [4] (.loop [0, 1, 5] c90_18)
def c90_20 : AC := .out [4] (.block 0 c90_19)
def c90_21 : AC := .out [4] (.reg [] [w 4 (.asg (.c U1 0))])
def c90_22 : AC := (.seq c90_0 (.seq (.seq c90_1 c90_3) (.seq (.seq c90_4 c90_6) (.seq (.seq c90_7 c90_20) (.seq c90_21 .ret)))))
def c90 : AC := c90_22
def d90 : FD := { nargs := 2, body := c90, res := [.t 4] }
def c112_0 : AC := .out [0, 1] (.reg [0, 1] [w 4 (.asg (.c U1 0))])
def c112_1 : AC := .out [0, 1, 8] (.reg [0, 1] [m 5 1,m 6 0,w 7 (.lenL 6),w 8 (.bin .lss 5 7)])
def c112_2 : AC := .out [4] (.reg [0, 1] [m 9 0,m 10 1,w 11 (.indexAddr U1 9 10),w 12 (.load U1 11),w 4 (.asg 12)])
def c112_3 : AC := .out [4] (.cond (.t 8) (.seq c112_2 .ret) .skip)
def c112_4 : AC := .out [4] (.reg [] [w 4 (.asg (.c U1 0))])
def c112_5 : AC := (.seq c112_0 (.seq (.seq c112_1 c112_3) (.seq c112_4 .ret)))
def c112 : AC := c112_5
def d112 : FD := { nargs := 2, body := c112, res := [.t 4] }
def c91_3 : AC := .out [0, 1, 5, 6, 7] (.reg [0, 1, 5, 6] [w 7 (.asg (.c U1 0))])
def c91_4 : AC := .out [0, 1, 5, 6, 7, 12] (.reg [0, 1, 5, 6, 7] [m 9 7,m 10 0,w 11 (.lenL 10),w 12 (.bin .lss 9 11)])
def c91_5 : AC := .out [0, 1, 5, 6, 7] (.cond (.t 12) .skip (.exit 0))
def c91_8 : AC := .out [0, 1, 5, 6, 7, 8, 26] (.reg [0, 1, 5, 6, 7, 8] [m 25 8,w 26 (.bin .lss 25 (.c U1 0))])
def c91_11 : AC := (.seq (.out [0, 1, 5, 7, 8] (.reg [0, 1, 5, 7, 8] [m 27 8,w 28 (.bin .add 27 (.c U1 10000)),w 8 (.asg 28)])) (.out [0, 1, 5, 6, 7, 8] (.reg [0, 1, 5, 7, 8] [w 6 (.asg (.c U1 1))])))
def c91_12 : AC := .out [0, 1, 5, 6, 7, 8] (.cond (.t 26) c91_11 .skip)
def c91_13 : AC := (.seq c91_8 c91_12)
def c91_14 : AC := .out [0, 1, 5, 6, 7] (.reg [0, 1, 5, 6, 7, 8] [m 29 5,m 30 8,w 31 (.buildSlice 3 U1 [30]),w 32 (.append 3 U1 17592186044416 29 31),w 5 (.asg 32)])
def c91_15 : AC := (.seq (.out [0, 1, 5, 7, 8] (.draw [0, 1, 5, 6, 7] [⟨m 15 0, [16, 19, 20, 21, 23], [15], [], false, []⟩,⟨m 16 7, [15, 19, 20, 21, 23], [16], [], false, []⟩,⟨w 17 (.indexAddr U1 15 16), [19, 20, 21, 23], [17], [0, 1], false, []⟩,⟨w 18 (.load U1 17), [19, 20, 21, 23], [18], [0, 1, 2], false, []⟩,⟨m 19 1, [15, 16, 17, 18, 20, 23], [19], [], false, []⟩,⟨m 20 7, [15, 16, 17, 18, 19, 23], [20], [], false, []⟩,⟨w 21 (.call 112 [19, 20]), [15, 16, 17, 18, 23], [21], [4, 5], false, []⟩,⟨w 22 (.bin .sub 18 21), [23], [22], [0, 1, 2, 3, 4, 5, 6], false, []⟩,⟨m 23 6, [15, 16, 17, 18, 19, 20, 21, 22], [23], [], false, []⟩,⟨w 24 (.bin .sub 22 23), [], [24], [0, 1, 2, 3, 4, 5, 6, 7, 8], false, []⟩,⟨w 8 (.asg 24), [], [8], [0, 1, 2, 3, 4, 5, 6, 7, 8, 9], false, []⟩])) (.seq (.out [0, 1, 5, 6, 7, 8] (.reg [0, 1, 5, 7, 8] [w 6 (.asg (.c U1 0))])) (.seq c91_13 c91_14)))
def c91_16 : AC := .out [0, 1, 5, 6, 7] (.block 1 c91_15)
def c91_17 : AC := .out [0, 1, 5, 6, 7] (.reg [0, 1, 5, 6, 7] [m 13 7,w 14 (.bin .add 13 (.c U1 1)),w 7 (.asg 14)])
def c91_18 : AC := (.seq (.seq c91_4 c91_5) (.seq c91_16 c91_17))
def c91_19 : AC := .out [5] (.loop [0, 1, 5, 6, 7] c91_18)
def c91_20 : AC := .out [5] (.block 0 c91_19)
def c91_21 : AC := .out [4] (.reg [5] [m 33 5,w 34 (.call 113 [33]),w 4 (.asg 34)])
def c91_22 : AC := (.seq (.out [0, 1] (.reg [0, 1] [w 4 (.asg (.nil 3 U1))])) (.seq (.out [0, 1, 5] (.reg [0, 1] [w 5 (.asg (.nil 3 U1))])) (.seq (.out [0, 1, 5, 6] (.reg [0, 1, 5] [w 6 (.asg (.c U1 0))])) (.seq (.seq c91_3 c91_20) (.seq c91_21 .ret)))))
def c91 : AC := c91_22
def d91 : FD := { nargs := 2, body := c91, res := [.t 4] }
def c89_3 : AC := .out [0, 1, 5, 6, 7] (.reg [0, 1, 5, 6] [w 7 (.asg (.c U1 0))])
def c89_4 : AC := .out [0, 1, 5, 6, 7, 18] (.reg [0, 1, 5, 6, 7] [m 9 7,m 10 0,w 11 (.lenL 10),w 12 (.bin .lss 9 11),m 13 12,⟨some 14, .mv 7, some (13, false)⟩,⟨some 15, .mv 1, some (13, false)⟩,⟨some 16, .lenL 15, some (13, false)⟩,⟨some 17, .bin .lss 14 16, some (13, false)⟩,w 18 (.pick 13 (.c .bool true) 17)])
def c89_5 : AC := .out [0, 1, 5, 6, 7] (.cond (.t 18) .skip (.exit 0))
def c89_9 : AC := (.seq (.out [0, 1, 5, 7, 8] (.reg [0, 1, 5, 6, 7] [m 21 0,m 22 7,w 23 (.call 112 [21, 22]),m 24 1,m 25 7,w 26 (.call 112 [24, 25]),w 27 (.bin .add 23 26),m 28 6,w 29 (.bin .add 27 28),w 8 (.asg 29)])) (.seq (.out [0, 1, 5, 7, 8] (.reg [0, 1, 5, 7, 8] [m 30 5,m 31 8,w 32 (.bin .rem 31 (.c U1 10000)),w 33 (.buildSlice 3 U1 [32]),w 34 (.append 3 U1 17592186044416 30 33),w 5 (.asg 34)])) (.out [0, 1, 5, 6, 7] (.reg [0, 1, 5, 7, 8] [m 35 8,w 36 (.bin .quo 35 (.c U1 10000)),w 6 (.asg 36)]))))
def c89_10 : AC := .out [0, 1, 5, 6, 7] (.block 1 c89_9)
def c89_11 : AC := .out [0, 1, 5, 6, 7] (.reg [0, 1, 5, 6, 7] [m 19 7,w 20 (.bin .add 19 (.c U1 1)),w 7 (.asg 20)])
def c89_12 : AC := (.seq (.seq c89_4 c89_5) (.seq c89_10 c89_11))
def c89_13 : AC := .out [5, 6] (.loop [0, 1, 5, 6, 7] c89_12)
def c89_14 : AC := .out [5, 6] (.block 0 c89_13)
def c89_15 : AC := .out [4] (.reg [5, 6] [m 37 5,m 38 6,w 39 (.buildSlice 3 U1 [38]),w 40 (.append 3 U1 17592186044416 37 39),w 41 (.call 113 [40]),w 4 (.asg 41)])
def c89_16 : AC := (.seq (.out [0, 1] (.reg [0, 1] [w 4 (.asg (.nil 3 U1))])) (.seq (.out [0, 1, 5] (.reg [0, 1] [w 5 (.asg (.nil 3 U1))])) (.seq (.out [0, 1, 5, 6] (.reg [0, 1, 5] [w 6 (.asg (.c U1 0))])) (.seq (.seq c89_3 c89_14) (.seq c89_15 .ret)))))
def c89 : AC := c89_16
def d89 : FD := { nargs := 2, body := c89, res := [.t 4] }
def c83_0 : AC := .out [2, 3, 4] (.reg [0, 1] [w 2 (.box U4 0),w 3 (.box U4 1),w 4 (.alloc U4 (.pair (.own true 3 .no) .no)),w 5 (.asg (.c U1 0))])
def c83_1 : AC := .out [2, 3, 4, 18] (.reg [2, 3, 4] [w 11 (.load U4 2),w 12 (.call 86 [11]),w 13 (.un .not 12),m 14 13,⟨some 15, .load U4 3, some (14, false)⟩,⟨some 16, .call 86 [15], some (14, false)⟩,⟨some 17, .un .not 16, some (14, false)⟩,w 18 (.pick 14 (.c .bool true) 17)])
def c83_2 : AC := .out [4, 5] (.reg [4] [w 19 (.buildN U4 (.pair (.own true 3 .no) .no) []),⟨none, .store U4 4 19, none⟩,w 5 (.asg (.c U1 1))])
def c83_3 : AC := .out [2, 3, 4, 5] (.cond (.t 18) (.seq c83_2 .ret) .skip)
def c83_4 : AC := .out [4, 6, 7] (.draw [2, 3, 4] [⟨w 20 (.fieldAddr U4 [.l] 2), [22, 23], [20], [], false, []⟩,⟨w 21 (.load U2 20), [22, 23], [21], [0], false, []⟩,⟨w 22 (.fieldAddr U4 [.l] 3), [6, 20, 21], [22], [], false, []⟩,⟨w 23 (.load U2 22), [6, 20, 21], [23], [2], false, []⟩,⟨w 6 (.asg 21), [22, 23], [6], [0, 1], false, []⟩,⟨w 7 (.asg 23), [], [7], [0, 1, 2, 3, 4], true, []⟩])
def c83_5 : AC := .out [4, 6, 7, 26] (.reg [4, 6, 7] [m 24 6,w 25 (.lenL 24),w 26 (.bin .eql 25 (.c U1 0))])
def c83_6 : AC := .out [4, 5] (.reg [4, 7] [w 27 (.buildSlice 3 U1 []),m 28 7,w 29 (.append 3 U1 17592186044416 27 28),w 30 (.build U4 [([.l], 29)]),⟨none, .store U4 4 30, none⟩,w 5 (.asg (.c U1 0))])
def c83_7 : AC := .out [4, 5, 6, 7] (.cond (.t 26) (.seq c83_6 .ret) .skip)
def c83_8 : AC := .out [4, 6, 7, 8] (.reg [4, 6, 7] [w 8 (.asg (.c U1 0))])
def c83_9 : AC := .out [4, 6, 7, 8, 33] (.reg [4, 6, 7, 8] [m 31 7,w 32 (.lenL 31),w 33 (.bin .gtr 32 (.c U1 0))])
def c83_10 : AC := .out [4, 6, 7, 8] (.cond (.t 33) .skip (.exit 0))
def c83_11 : AC := .out [4, 6, 7, 8, 37] (.reg [4, 6, 7, 8] [m 38 6,w 39 (.call 108 [38]),m 40 39,⟨some 41, .mv 7, some (40, true)⟩,⟨some 42, .call 108 [41], some (40, true)⟩,w 43 (.pick 40 42 (.c .bool false)),w 37 (.asg 43)])
def c83_14 : AC := (.seq (.out [4, 6, 7, 8] (.reg [4, 6, 7, 8] [m 44 6,w 45 (.call 109 [44]),m 46 7,w 47 (.call 109 [46]),w 6 (.asg 45),w 7 (.asg 47)])) (.out [4, 6, 7, 8] (.reg [4, 6, 7, 8] [m 48 8,w 49 (.bin .add 48 (.c U1 1)),w 8 (.asg 49)])))
def c83_15 : AC := .out [4, 6, 7, 8, 50] (.reg [4, 6, 7, 8] [m 51 6,w 52 (.call 108 [51]),w 50 (.asg 52)])
def c83_16 : AC := .out [4, 6, 7, 8] (.reg [4, 6, 7, 8] [m 53 6,w 54 (.call 109 [53]),w 6 (.asg 54)])
def c83_17 : AC := .out [4, 6, 7, 8, 55] (.reg [4, 6, 7, 8] [m 56 7,w 57 (.call 108 [56]),w 55 (.asg 57)])
def c83_18 : AC := .out [4, 6, 7, 8] (.reg [4, 6, 7, 8] [m 58 7,w 59 (.call 109 [58]),w 7 (.asg 59)])
def c83_19 : AC := .out [4, 6, 7, 8, 60] (.reg [4, 6, 7, 8] [m 61 6,m 62 7,w 63 (.call 90 [61, 62]),w 64 (.bin .gtr 63 (.c U1 0)),w 60 (.asg 64)])
def c83_20 : AC := .out [4, 6, 7, 8] (.reg [4, 6, 7, 8] [m 65 7,m 66 6,m 67 7,w 68 (.call 91 [66, 67]),w 6 (.asg 65),w 7 (.asg 68)])
def c83_21 : AC := .out [4, 6, 7, 8] (.reg [4, 6, 7, 8] [m 34 7,m 35 6,w 36 (.call 91 [34, 35]),w 7 (.asg 36)])
def c83_22 : AC := .out [4, 6, 7, 8] (.cond (.t 60) c83_20 c83_21)
def c83_23 : AC := .out [4, 6, 7, 8] (.cond (.t 55) c83_18 (.seq c83_19 c83_22))
def c83_24 : AC := .out [4, 6, 7, 8] (.cond (.t 50) c83_16 (.seq c83_17 c83_23))
def c83_25 : AC := .out [4, 6, 7, 8] (.cond (.t 37) c83_14 (.seq c83_15 c83_24))
def c83_26 : AC := .out [4, 6, 7, 8] (.block 2 (.seq c83_11 c83_25))
def c83_27 : AC := .out [4, 6, 7, 8] (.block 1 c83_26)
def c83_28 : AC := (.seq (.seq c83_9 c83_10) c83_27)
def c83_29 : AC := .out [4, 6, 8] (.loop [4, 6, 7, 8] c83_28)
def c83_30 : AC := .out [4, 6, 8] (.block 0 c83_29)
def c83_31 : AC := .out [4, 8, 9] (.reg [4, 6, 8] [w 69 (.buildSlice 3 U1 []),m 70 6,w 71 (.append 3 U1 17592186044416 69 70),w 9 (.cp 71)])
def c83_32 : AC := .out [4, 8, 9, 10] (.reg [4, 8, 9] [w 10 (.asg (.c U1 0))])
def c83_33 : AC := .out [4, 8, 9, 10, 74] (.reg [4, 8, 9, 10] [m 72 10,m 73 8,w 74 (.bin .lss 72 73)])
def c83_34 : AC := .out [4, 8, 9, 10] (.cond (.t 74) .skip (.exit 3))
def c83_35 : AC := .out [4, 8, 9, 10] (.reg [4, 8, 9, 10] [m 77 9,m 78 9,w 79 (.call 89 [77, 78]),w 9 (.cp 79)])
def c83_36 : AC := .out [4, 8, 9, 10] (.block 4 c83_35)
def c83_37 : AC := .out [4, 8, 9, 10] (.reg [4, 8, 9, 10] [m 75 10,w 76 (.bin .add 75 (.c U1 1)),w 10 (.asg 76)])
def c83_38 : AC := (.seq (.seq c83_33 c83_34) (.seq c83_36 c83_37))
def c83_39 : AC := .out [4, 9] (.loop [4, 8, 9, 10] c83_38)
def c83_40 : AC := .out [4, 9] (.block 3 c83_39)
def c83_41 : AC := .out [4, 5] (.reg [4, 9] [m 80 9,w 81 (.build U4 [([.l], 80)]),⟨none, .store U4 4 81, none⟩,w 5 (.asg (.c U1 0))])
def c83_42 : AC := (.seq c83_0 (.seq (.seq c83_1 c83_3) (.seq c83_4 (.seq (.seq c83_5 c83_7) (.seq c83_8 (.seq c83_30 (.seq c83_31 (.seq (.seq c83_32 c83_40) (.seq c83_41 .ret)))))))))
def c83 : AC := c83_42
def d83 : FD := { nargs := 2, body := c83, res := [.cell 4 U4, .t 5] }
def c111_0 : AC := .out [0, 2] (.reg [0] [w 2 (.alloc U4 (.pair (.own true 3 .no) .no)),w 3 (.asg (.c U1 0))])
def c111_1 : AC := .out [0, 2, 6] (.reg [0, 2] [m 5 0,w 6 (.bin .lss 5 (.c U1 0))])
def c111_2 : AC := .out [2, 3] (.reg [2] [w 7 (.buildN U4 (.pair (.own true 3 .no) .no) []),⟨none, .store U4 2 7, none⟩,w 3 (.asg (.c U1 6))])
def c111_3 : AC := .out [0, 2, 3] (.cond (.t 6) (.seq c111_2 .ret) .skip)
def c111_4 : AC := .out [0, 2, 4] (.reg [0, 2] [w 4 (.asg (.nil 3 U1))])
def c111_5 : AC := .out [0, 2, 4, 9] (.reg [0, 2, 4] [m 8 0,w 9 (.bin .gtr 8 (.c U1 0))])
def c111_6 : AC := .out [0, 2, 4] (.cond (.t 9) .skip (.exit 0))
def c111_9 : AC := (.seq (.out [0, 2, 4] (.reg [0, 2, 4] [m 10 4,m 11 0,w 12 (.bin .rem 11 (.c U1 10000)),w 13 (.buildSlice 3 U1 [12]),w 14 (.append 3 U1 17592186044416 10 13),w 4 (.asg 14)])) (.out [0, 2, 4] (.reg [0, 2, 4] [m 15 0,w 16 (.bin .quo 15 (.c U1 10000)),w 0 (.asg 16)])))
def c111_10 : AC := .out [0, 2, 4] (.block 1 c111_9)
def c111_11 : AC := (.seq (.seq c111_5 c111_6) c111_10)
def c111_12 : AC := .out [2, 4] (.loop [0, 2, 4] c111_11)
def c111_13 : AC := .out [2, 4] (.block 0 c111_12)
def c111_14 : AC := .out [2, 3] (.reg [2, 4] [m 17 4,w 18 (.build U4 [([.l], 17)]),⟨none, .store U4 2 18, none⟩,w 3 (.asg (.c U1 0))])
def c111_15 : AC := (.seq c111_0 (.seq (.seq c111_1 c111_3) (.seq c111_4 (.seq c111_13 (.seq c111_14 .ret)))))
def c111 : AC := c111_15
def d111 : FD := { nargs := 1, body := c111, res := [.cell 2 U4, .t 3] }
def c85_3 : AC := (.seq (.out [0, 2] (.reg [0] [w 2 (.alloc U4 (.pair (.own true 3 .no) .no))])) (.seq (.out [2, 3] (.reg [0, 2] [m 6 0,w 7 (.call 111 [6]),m 5 7,w 8 (.extract 5 0),w 9 (.extract 5 1),w 3 (.alloc U4 (.pair (.own true 3 .no) .no)),⟨none, .store U4 3 8, none⟩,w 4 (.asg 9)])) (.seq (.out [2] (.reg [2, 3] [w 10 (.load U4 3),⟨none, .store U4 2 10, none⟩])) .ret)))
def c85 : AC := c85_3
def d85 : FD := { nargs := 1, body := c85, res := [.cell 2 U4] }
def c53_2 : AC := (.seq (.out [0, 2] (.reg [0] [w 2 (.alloc U4 (.pair (.own true 3 .no) .no))])) (.seq (.out [2] (.reg [0, 2] [m 3 0,w 4 (.mm true 3 (.c U1 0)),w 5 (.call 85 [4]),⟨none, .store U4 2 5, none⟩])) .ret))
def c53 : AC := c53_2
def d53 : FD := { nargs := 1, body := c53, res := [.cell 2 U4] }
def c60_2 : AC := (.seq (.out [2, 3] (.reg [0, 1] [w 2 (.box U4 0),w 3 (.box U4 1),w 4 (.asg (.c U1 0))])) (.seq (.out [4] (.reg [2, 3] [w 5 (.fieldAddr U4 [.l] 2),w 6 (.load U2 5),w 7 (.fieldAddr U4 [.l] 3),w 8 (.load U2 7),w 9 (.call 90 [6, 8]),w 4 (.asg 9)])) .ret))
def c60 : AC := c60_2
def d60 : FD := { nargs := 2, body := c60, res := [.t 4] }
def c51_2 : AC := (.seq (.out [2, 3] (.reg [0, 1] [w 2 (.box U4 0),w 3 (.box U4 1),w 4 (.asg (.c .bool false))])) (.seq (.out [4] (.reg [2, 3] [w 5 (.load U4 2),w 6 (.load U4 3),w 7 (.call 60 [5, 6]),w 8 (.bin .eql 7 (.c U1 0)),w 4 (.asg 8)])) .ret))
def c51 : AC := c51_2
def d51 : FD := { nargs := 2, body := c51, res := [.t 4] }
def c54_0 : AC := .out [1] (.reg [0] [w 1 (.box U10 0),w 2 (.asg (.c .bool false))])
def c54_1 : AC := .out [1, 28] (.reg [1] [w 5 (.fieldAddr U10 [.r, .l] 1),w 6 (.load U4 5),w 7 (.call 86 [6]),w 8 (.un .not 7),m 9 8,⟨some 10, .fieldAddr U10 [.r, .r, .l] 1, some (9, false)⟩,⟨some 11, .load U4 10, some (9, false)⟩,⟨some 12, .call 86 [11], some (9, false)⟩,⟨some 13, .un .not 12, some (9, false)⟩,w 14 (.pick 9 (.c .bool true) 13),m 15 14,⟨some 16, .fieldAddr U10 [.r, .r, .l] 1, some (15, false)⟩,⟨some 17, .load U4 16, some (15, false)⟩,⟨some 18, .call 56 [17], some (15, false)⟩,w 19 (.pick 15 (.c .bool true) 18),m 20 19,⟨some 21, .fieldAddr U10 [.r, .l] 1, some (20, false)⟩,⟨some 22, .load U4 21, some (20, false)⟩,⟨some 23, .call 56 [22], some (20, false)⟩,⟨some 24, .mv 23, some (20, false)⟩,⟨some 25, .fieldAddr U10 [.l] 1, some (24, true)⟩,⟨some 26, .load .bool 25, some (24, true)⟩,⟨some 27, .pick 24 26 (.c .bool false), some (20, false)⟩,w 28 (.pick 20 (.c .bool true) 27)])
def c54_2 : AC := .out [2] (.reg [] [w 2 (.asg (.c .bool false))])
def c54_3 : AC := .out [1, 2] (.cond (.t 28) (.seq c54_2 .ret) .skip)
def c54_6 : AC := (.seq (.out [3] (.reg [1] [w 30 (.fieldAddr U10 [.r, .l] 1),w 31 (.load U4 30),w 32 (.fieldAddr U10 [.r, .r, .l] 1),w 33 (.load U4 32),w 34 (.call 83 [31, 33]),m 29 34,w 35 (.extract 29 0),w 36 (.extract 29 1),w 3 (.alloc U4 (.pair (.own true 3 .no) .no)),⟨none, .store U4 3 35, none⟩,w 4 (.asg 36)])) (.seq (.out [2] (.draw [3] [⟨w 37 (.load U4 3), [38], [37], [], false, []⟩,⟨w 38 (.call 53 [(.c U1 1)]), [37], [38], [], false, []⟩,⟨w 39 (.call 51 [37, 38]), [], [39], [0, 1], false, []⟩,⟨w 2 (.asg 39), [], [2], [0, 1, 2], false, []⟩])) .ret))
def c54_7 : AC := (.seq c54_0 (.seq (.seq c54_1 c54_3) c54_6))
def c54 : AC := c54_7
def d54 : FD := { nargs := 1, body := c54, res := [.t 2] }
def c88_2 : AC := .out [0, 1, 5, 6] (.reg [0, 1, 5] [w 6 (.asg (.c U1 0))])
def c88_3 : AC := .out [0, 1, 5, 6, 20] (.reg [0, 1, 5, 6] [m 17 6,m 18 0,w 19 (.lenL 18),w 20 (.bin .lss 17 19)])
def c88_4 : AC := .out [0, 1, 5, 6] (.cond (.t 20) .skip (.exit 0))
def c88_7 : AC := .out [0, 1, 5, 6, 7, 8, 30] (.reg [0, 1, 5, 6, 7, 8] [m 23 8,m 24 1,w 25 (.lenL 24),w 26 (.bin .lss 23 25),m 27 26,⟨some 28, .mv 7, some (27, false)⟩,⟨some 29, .bin .gtr 28 (.c U1 0), some (27, false)⟩,w 30 (.pick 27 (.c .bool true) 29)])
def c88_8 : AC := .out [0, 1, 5, 6, 7, 8] (.cond (.t 30) .skip (.exit 2))
def c88_12 : AC := (.seq (.out [0, 1, 5, 6, 8, 9] (.draw [0, 1, 5, 6, 7, 8] [⟨m 33 5, [34, 35, 36, 39, 40, 41, 42, 43, 44, 45, 46, 48], [33], [], false, []⟩,⟨m 34 6, [33, 35, 39, 40, 41, 42, 43, 44, 45, 46, 48], [34], [], false, []⟩,⟨m 35 8, [33, 34, 39, 40, 41, 42, 43, 44, 45, 46, 48], [35], [], false, []⟩,⟨w 36 (.bin .add 34 35), [33, 39, 40, 41, 42, 43, 44, 45, 46, 48], [36], [1, 2], false, []⟩,⟨w 37 (.indexAddr U1 33 36), [39, 40, 41, 42, 43, 44, 45, 46, 48], [37], [0, 1, 2, 3], false, []⟩,⟨w 38 (.load U1 37), [39, 40, 41, 42, 43, 44, 45, 46, 48], [38], [0, 1, 2, 3, 4], false, []⟩,⟨m 39 0, [33, 34, 35, 36, 37, 38, 40, 43, 44, 45, 48], [39], [], false, []⟩,⟨m 40 6, [33, 34, 35, 36, 37, 38, 39, 43, 44, 45, 48], [40], [], false, []⟩,⟨w 41 (.indexAddr U1 39 40), [33, 34, 35, 36, 37, 38, 43, 44, 45, 48], [41], [6, 7], false, []⟩,⟨w 42 (.load U1 41), [33, 34, 35, 36, 37, 38, 43, 44, 45, 48], [42], [6, 7, 8], false, []⟩,⟨m 43 1, [33, 34, 35, 36, 37, 38, 39, 40, 41, 42, 44, 48], [43], [], false, []⟩,⟨m 44 8, [33, 34, 35, 36, 37, 38, 39, 40, 41, 42, 43, 48], [44], [], false, []⟩,⟨w 45 (.call 112 [43, 44]), [33, 34, 35, 36, 37, 38, 39, 40, 41, 42, 48], [45], [10, 11], false, []⟩,⟨w 46 (.bin .mul 42 45), [33, 34, 35, 36, 37, 38, 48], [46], [6, 7, 8, 9, 10, 11, 12], false, []⟩,⟨w 47 (.bin .add 38 46), [48], [47], [0, 1, 2, 3, 4, 5, 6, 7, 8, 9, 10, 11, 12, 13], false, []⟩,⟨m 48 7, [33, 34, 35, 36, 37, 38, 39, 40, 41, 42, 43, 44, 45, 46, 47], [48], [], false, []⟩,⟨w 49 (.bin .add 47 48), [], [49], [0, 1, 2, 3, 4, 5, 6, 7, 8, 9, 10, 11, 12, 13, 14, 15], false, []⟩,⟨w 9 (.asg 49), [], [9], [0, 1, 2, 3, 4, 5, 6, 7, 8, 9, 10, 11, 12, 13, 14, 15, 16], false, []⟩])) (.seq (.out [0, 1, 5, 6, 8, 9] (.reg [0, 1, 5, 6, 8, 9] [m 50 5,m 51 6,m 52 8,w 53 (.bin .add 51 52),m 54 9,w 55 (.bin .rem 54 (.c U1 10000)),w 56 (.indexAddr U1 50 53),⟨none, .store U1 56 55, none⟩])) (.out [0, 1, 5, 6, 7, 8] (.reg [0, 1, 5, 6, 8, 9] [m 57 9,w 58 (.bin .quo 57 (.c U1 10000)),w 7 (.asg 58)]))))
def c88_13 : AC := .out [0, 1, 5, 6, 7, 8] (.block 3 c88_12)
def c88_14 : AC := .out [0, 1, 5, 6, 7, 8] (.reg [0, 1, 5, 6, 7, 8] [m 31 8,w 32 (.bin .add 31 (.c U1 1)),w 8 (.asg 32)])
def c88_15 : AC := (.seq (.seq c88_7 c88_8) (.seq c88_13 c88_14))
def c88_16 : AC := .out [0, 1, 5, 6] (.loop [0, 1, 5, 6, 7, 8] c88_15)
def c88_17 : AC := .out [0, 1, 5, 6] (.block 2 c88_16)
def c88_18 : AC := (.seq (.out [0, 1, 5, 6, 7] (.reg [0, 1, 5, 6] [w 7 (.asg (.c U1 0))])) (.seq (.out [0, 1, 5, 6, 7, 8] (.reg [0, 1, 5, 6, 7] [w 8 (.asg (.c U1 0))])) c88_17))
def c88_19 : AC := .out [0, 1, 5, 6] (.block 1 c88_18)
def c88_20 : AC := .out [0, 1, 5, 6] (.reg [0, 1, 5, 6] [m 21 6,w 22 (.bin .add 21 (.c U1 1)),w 6 (.asg 22)])
def c88_21 : AC := (.seq (.seq c88_3 c88_4) (.seq c88_19 c88_20))
def c88_22 : AC := .out [5] (.loop [0, 1, 5, 6] c88_21)
def c88_23 : AC := .out [5] (.block 0 c88_22)
def c88_24 : AC := .out [4] (.reg [5] [m 59 5,w 60 (.call 113 [59]),w 4 (.asg 60)])
def c88_25 : AC := (.seq (.out [0, 1] (.reg [0, 1] [w 4 (.asg (.nil 3 U1))])) (.seq (.out [0, 1, 5] (.reg [0, 1] [m 10 0,w 11 (.lenL 10),m 12 1,w 13 (.lenL 12),w 14 (.bin .add 11 13),w 15 (.bin .add 14 (.c U1 1)),w 16 (.mkSlice 3 U1 17592186044416 15 15),w 5 (.asg 16)])) (.seq (.seq c88_2 c88_23) (.seq c88_24 .ret))))
def c88 : AC := c88_25
def d88 : FD := { nargs := 2, body := c88, res := [.t 4] }
def c110_3 : AC := .out [0, 1, 6, 7, 8] (.reg [0, 1, 6, 7] [m 15 0,w 16 (.lenL 15),w 17 (.bin .sub 16 (.c U1 1)),w 8 (.asg 17)])
def c110_4 : AC := .out [0, 1, 6, 7, 8, 19] (.reg [0, 1, 6, 7, 8] [m 18 8,w 19 (.bin .geq 18 (.c U1 0))])
def c110_5 : AC := .out [0, 1, 6, 7, 8] (.cond (.t 19) .skip (.exit 0))
def c110_8 : AC := .out [0, 1, 6, 7, 8, 9, 10, 32] (.reg [0, 1, 6, 7, 8, 9, 10] [m 30 9,m 31 10,w 32 (.bin .lss 30 31)])
def c110_9 : AC := .out [0, 1, 6, 7, 8, 9, 10] (.cond (.t 32) .skip (.exit 2))
def c110_12 : AC := .out [0, 1, 6, 7, 8, 9, 10] (.reg [0, 1, 6, 7, 8, 10, 11] [m 45 11,w 9 (.asg 45)])
def c110_13 : AC := .out [0, 1, 6, 7, 8, 9, 10] (.reg [0, 1, 6, 7, 8, 9, 11] [m 46 11,w 47 (.bin .sub 46 (.c U1 1)),w 10 (.asg 47)])
def c110_14 : AC := .out [0, 1, 6, 7, 8, 9, 10] (.cond (.t 44) c110_12 c110_13)
def c110_15 : AC := (.seq (.out [0, 1, 6, 7, 8, 9, 10, 11] (.reg [0, 1, 6, 7, 8, 9, 10] [m 33 9,m 34 10,w 35 (.bin .add 33 34),w 36 (.bin .add 35 (.c U1 1)),w 37 (.bin .quo 36 (.c U1 2)),w 11 (.asg 37)])) (.seq (.out [0, 1, 6, 7, 8, 9, 10, 11, 44] (.reg [0, 1, 6, 7, 8, 9, 10, 11] [m 38 1,m 39 11,w 40 (.buildSlice 3 U1 [39]),w 41 (.call 88 [38, 40]),m 42 7,w 43 (.call 90 [41, 42]),w 44 (.bin .leq 43 (.c U1 0))])) c110_14))
def c110_16 : AC := .out [0, 1, 6, 7, 8, 9, 10] (.block 3 c110_15)
def c110_17 : AC := (.seq (.seq c110_8 c110_9) c110_16)
def c110_18 : AC := .out [0, 1, 6, 7, 8, 9] (.loop [0, 1, 6, 7, 8, 9, 10] c110_17)
def c110_19 : AC := .out [0, 1, 6, 7, 8, 9] (.block 2 c110_18)
def c110_22 : AC := (.seq (.out [0, 1, 6, 7, 8, 9] (.reg [0, 1, 6, 7, 8, 9] [m 48 6,m 49 8,m 50 9,w 51 (.indexAddr U1 48 49),⟨none, .store U1 51 50, none⟩])) (.out [0, 1, 6, 7, 8] (.reg [0, 1, 6, 7, 8, 9] [m 52 7,m 53 1,m 54 9,w 55 (.buildSlice 3 U1 [54]),w 56 (.call 88 [53, 55]),w 57 (.call 91 [52, 56]),w 7 (.cp 57)])))
def c110_23 : AC := (.seq (.out [0, 1, 6, 7, 8] (.reg [0, 1, 6, 7, 8] [m 22 0,m 23 8,w 24 (.indexAddr U1 22 23),w 25 (.load U1 24),w 26 (.buildSlice 3 U1 [25]),m 27 7,w 28 (.append 3 U1 17592186044416 26 27),w 29 (.call 113 [28]),w 7 (.cp 29)])) (.seq (.out [0, 1, 6, 7, 8, 9, 10] (.reg [0, 1, 6, 7, 8] [w 9 (.asg (.c U1 0)),w 10 (.asg (.c U1 9999))])) (.seq c110_19 c110_22)))
def c110_24 : AC := .out [0, 1, 6, 7, 8] (.block 1 c110_23)
def c110_25 : AC := .out [0, 1, 6, 7, 8] (.reg [0, 1, 6, 7, 8] [m 20 8,w 21 (.bin .sub 20 (.c U1 1)),w 8 (.asg 21)])
def c110_26 : AC := (.seq (.seq c110_4 c110_5) (.seq c110_24 c110_25))
def c110_27 : AC := .out [6, 7] (.loop [0, 1, 6, 7, 8] c110_26)
def c110_28 : AC := .out [6, 7] (.block 0 c110_27)
def c110_29 : AC := .out [4, 5] (.reg [6, 7] [m 58 6,w 59 (.call 113 [58]),m 60 7,w 4 (.asg 59),w 5 (.asg 60)])
def c110_30 : AC := (.seq (.out [0, 1] (.reg [0, 1] [w 4 (.asg (.nil 3 U1)),w 5 (.asg (.nil 3 U1))])) (.seq (.out [0, 1, 6] (.reg [0, 1] [m 12 0,w 13 (.lenL 12),w 14 (.mkSlice 3 U1 17592186044416 13 13),w 6 (.asg 14)])) (.seq (.out [0, 1, 6, 7] (.reg [0, 1, 6] [w 7 (.cp (.nil 3 U1))])) (.seq (.seq c110_3 c110_28) (.seq c110_29 .ret)))))
def c110 : AC := c110_30
def d110 : FD := { nargs := 2, body := c110, res := [.t 4, .t 5] }
def c84_0 : AC := .out [2, 3, 4, 5] (.reg [0, 1] [w 2 (.box U4 0),w 3 (.box U4 1),w 4 (.alloc U4 (.pair (.own true 3 .no) .no)),w 5 (.alloc U4 (.pair (.own true 3 .no) .no)),w 6 (.asg (.c U1 0))])
def c84_1 : AC := .out [2, 3, 4, 5, 16] (.reg [2, 3, 4, 5] [w 9 (.load U4 2),w 10 (.call 86 [9]),w 11 (.un .not 10),m 12 11,⟨some 13, .load U4 3, some (12, false)⟩,⟨some 14, .call 86 [13], some (12, false)⟩,⟨some 15, .un .not 14, some (12, false)⟩,w 16 (.pick 12 (.c .bool true) 15)])
def c84_2 : AC := .out [4, 5, 6] (.reg [4, 5] [w 17 (.buildN U4 (.pair (.own true 3 .no) .no) []),w 18 (.buildN U4 (.pair (.own true 3 .no) .no) []),⟨none, .store U4 4 17, none⟩,⟨none, .store U4 5 18, none⟩,w 6 (.asg (.c U1 1))])
def c84_3 : AC := .out [2, 3, 4, 5, 6] (.cond (.t 16) (.seq c84_2 .ret) .skip)
def c84_4 : AC := .out [2, 3, 4, 5, 22] (.reg [2, 3, 4, 5] [w 19 (.fieldAddr U4 [.l] 3),w 20 (.load U2 19),w 21 (.lenL 20),w 22 (.bin .eql 21 (.c U1 0))])
def c84_5 : AC := .out [4, 5, 6] (.reg [4, 5] [w 23 (.buildN U4 (.pair (.own true 3 .no) .no) []),w 24 (.buildN U4 (.pair (.own true 3 .no) .no) []),⟨none, .store U4 4 23, none⟩,⟨none, .store U4 5 24, none⟩,w 6 (.asg (.c U1 6))])
def c84_6 : AC := .out [2, 3, 4, 5, 6] (.cond (.t 22) (.seq c84_5 .ret) .skip)
def c84_9 : AC := (.seq (.out [4, 5, 7, 8] (.reg [2, 3, 4, 5] [w 26 (.fieldAddr U4 [.l] 2),w 27 (.load U2 26),w 28 (.fieldAddr U4 [.l] 3),w 29 (.load U2 28),w 30 (.call 110 [27, 29]),m 25 30,w 31 (.extract 25 0),w 32 (.extract 25 1),w 7 (.asg 31),w 8 (.asg 32)])) (.seq (.out [4, 5, 6] (.reg [4, 5, 7, 8] [m 33 7,w 34 (.build U4 [([.l], 33)]),m 35 8,w 36 (.build U4 [([.l], 35)]),⟨none, .store U4 4 34, none⟩,⟨none, .store U4 5 36, none⟩,w 6 (.asg (.c U1 0))])) .ret))
def c84_10 : AC := (.seq c84_0 (.seq (.seq c84_1 c84_3) (.seq (.seq c84_4 c84_6) c84_9)))
def c84 : AC := c84_10
def d84 : FD := { nargs := 2, body := c84, res := [.cell 4 U4, .cell 5 U4, .t 6] }
def c52_5 : AC := (.seq (.out [0, 4, 5, 6] (.reg [0, 1, 2] [w 4 (.box U4 1),w 5 (.box U4 2),w 6 (.alloc U10 (.pair .no (.pair (.pair (.own true 3 .no) .no) (.pair (.pair (.own true 3 .no) .no) .no))))])) (.seq (.out [0, 4, 5, 6, 7] (.reg [0, 4, 5, 6] [w 16 (.load U4 4),w 17 (.load U4 5),w 18 (.call 83 [16, 17]),m 15 18,w 19 (.extract 15 0),w 20 (.extract 15 1),w 7 (.alloc U4 (.pair (.own true 3 .no) .no)),⟨none, .store U4 7 19, none⟩,w 8 (.asg 20)])) (.seq (.out [0, 5, 6, 7, 9] (.reg [0, 4, 5, 6, 7] [w 22 (.load U4 4),w 23 (.load U4 7),w 24 (.call 84 [22, 23]),m 21 24,w 25 (.extract 21 0),w 26 (.extract 21 1),w 27 (.extract 21 2),w 9 (.alloc U4 (.pair (.own true 3 .no) .no)),w 10 (.alloc U4 (.pair (.own true 3 .no) .no)),⟨none, .store U4 9 25, none⟩,⟨none, .store U4 10 26, none⟩,w 11 (.asg 27)])) (.seq (.out [0, 6, 9, 12] (.reg [0, 5, 6, 7, 9] [w 29 (.load U4 5),w 30 (.load U4 7),w 31 (.call 84 [29, 30]),m 28 31,w 32 (.extract 28 0),w 33 (.extract 28 1),w 34 (.extract 28 2),w 12 (.alloc U4 (.pair (.own true 3 .no) .no)),w 13 (.alloc U4 (.pair (.own true 3 .no) .no)),⟨none, .store U4 12 32, none⟩,⟨none, .store U4 13 33, none⟩,w 14 (.asg 34)])) (.seq (.out [6] (.draw [0, 6, 9, 12] [⟨m 35 0, [41, 42], [35], [], false, []⟩,⟨m 36 35, [41, 42], [36], [0], false, []⟩,⟨⟨some 37, .load U4 9, some (36, true)⟩, [41, 42], [37], [0, 1], false, []⟩,⟨⟨some 38, .call 56 [37], some (36, true)⟩, [41, 42], [38], [0, 1, 2], false, []⟩,⟨⟨some 39, .un .not 38, some (36, true)⟩, [41, 42], [39], [0, 1, 2, 3], false, []⟩,⟨w 40 (.pick 36 39 (.c .bool false)), [41, 42], [40], [0, 1, 2, 3, 4], false, []⟩,⟨w 41 (.load U4 9), [35, 36, 37, 38, 39, 40, 42], [41], [], false, []⟩,⟨w 42 (.load U4 12), [35, 36, 37, 38, 39, 40, 41], [42], [], false, []⟩,⟨w 43 (.build U10 [([.l], 40), ([.r, .l], 41), ([.r, .r, .l], 42)]), [], [43], [0, 1, 2, 3, 4, 5, 6, 7], true, []⟩,⟨⟨none, .store U10 6 43, none⟩, [], [6], [0, 1, 2, 3, 4, 5, 6, 7, 8], true, []⟩])) .ret)))))
def c52 : AC := c52_5
def d52 : FD := { nargs := 3, body := c52, res := [.cell 6 U10] }
def c23_0 : AC := .out [0, 1, 4] (.reg [0, 1] [w 4 (.alloc U10 (.pair .no (.pair (.pair (.own true 3 .no) .no) (.pair (.pair (.own true 3 .no) .no) .no)))),w 5 (.asg (.c U1 0))])
def c23_1 : AC := .out [0, 1, 4, 8] (.reg [0, 1, 4] [m 7 1,w 8 (.bin .eql 7 (.c U1 0))])
def c23_2 : AC := .out [4, 5] (.reg [4] [w 9 (.build U10 []),⟨none, .store U10 4 9, none⟩,w 5 (.asg (.c U1 6))])
def c23_3 : AC := .out [0, 1, 4, 5] (.cond (.t 8) (.seq c23_2 .ret) .skip)
def c23_4 : AC := .out [0, 1, 4, 23] (.reg [0, 1, 4] [m 10 0,w 11 (.bin .lss 10 (.c U1 (-1000000000000000))),m 12 11,⟨some 13, .mv 0, some (12, false)⟩,⟨some 14, .bin .gtr 13 (.c U1 1000000000000000), some (12, false)⟩,w 15 (.pick 12 (.c .bool true) 14),m 16 15,⟨some 17, .mv 1, some (16, false)⟩,⟨some 18, .bin .lss 17 (.c U1 (-1000000000000000)), some (16, false)⟩,w 19 (.pick 16 (.c .bool true) 18),m 20 19,⟨some 21, .mv 1, some (20, false)⟩,⟨some 22, .bin .gtr 21 (.c U1 1000000000000000), some (20, false)⟩,w 23 (.pick 20 (.c .bool true) 22)])
def c23_5 : AC := .out [4, 5] (.reg [4] [w 24 (.build U10 []),⟨none, .store U10 4 24, none⟩,w 5 (.asg (.c U1 3))])
def c23_6 : AC := .out [0, 1, 4, 5] (.cond (.t 23) (.seq c23_5 .ret) .skip)
def c23_7 : AC := .out [0, 1, 4, 6] (.reg [0, 1, 4] [m 25 0,w 26 (.bin .lss 25 (.c U1 0)),m 27 1,w 28 (.bin .lss 27 (.c U1 0)),w 29 (.eqT true .bool 26 28),w 6 (.asg 29)])
def c23_8 : AC := .out [0, 1, 4, 6, 31] (.reg [0, 1, 4, 6] [m 30 0,w 31 (.bin .lss 30 (.c U1 0))])
def c23_9 : AC := .out [0, 1, 4, 6] (.reg [0, 1, 4, 6] [m 32 0,w 33 (.bin .sub (.c U1 0) 32),w 0 (.asg 33)])
def c23_10 : AC := .out [0, 1, 4, 6] (.cond (.t 31) c23_9 .skip)
def c23_11 : AC := (.seq c23_8 c23_10)
def c23_12 : AC := .out [0, 1, 4, 6, 35] (.reg [0, 1, 4, 6] [m 34 1,w 35 (.bin .lss 34 (.c U1 0))])
def c23_13 : AC := .out [0, 1, 4, 6] (.reg [0, 1, 4, 6] [m 36 1,w 37 (.bin .sub (.c U1 0) 36),w 1 (.asg 37)])
def c23_14 : AC := .out [0, 1, 4, 6] (.cond (.t 35) c23_13 .skip)
def c23_15 : AC := (.seq c23_12 c23_14)
def c23_16 : AC := .out [4, 5] (.reg [0, 1, 4, 6] [m 38 6,m 39 0,w 40 (.call 53 [39]),m 41 1,w 42 (.call 53 [41]),w 43 (.call 52 [38, 40, 42]),⟨none, .store U10 4 43, none⟩,w 5 (.asg (.c U1 0))])
def c23_17 : AC := (.seq c23_0 (.seq (.seq c23_1 c23_3) (.seq (.seq c23_4 c23_6) (.seq c23_7 (.seq c23_11 (.seq c23_15 (.seq c23_16 .ret)))))))
def c23 : AC := c23_17
def d23 : FD := { nargs := 2, body := c23, res := [.cell 4 U10, .t 5] }
def c104_3 : AC := (.seq (.out [0] (.reg [] [w 0 (.alloc U10 (.pair .no (.pair (.pair (.own true 3 .no) .no) (.pair (.pair (.own true 3 .no) .no) .no))))])) (.seq (.out [0, 1] (.reg [0] [w 4 (.call 23 [(.c U1 1), (.c U1 1)]),m 3 4,w 5 (.extract 3 0),w 6 (.extract 3 1),w 1 (.alloc U10 (.pair .no (.pair (.pair (.own true 3 .no) .no) (.pair (.pair (.own true 3 .no) .no) .no)))),⟨none, .store U10 1 5, none⟩,w 2 (.asg 6)])) (.seq (.out [0] (.reg [0, 1] [w 7 (.load U10 1),⟨none, .store U10 0 7, none⟩])) .ret)))
def c104 : AC := c104_3
def d104 : FD := { nargs := 0, body := c104, res := [.cell 0 U10] }
def c70_5 : AC := .out [8] (.reg [15] [m 35 15,w 8 (.asg 35)])
def c70_6 : AC := .out [5, 7, 8, 10, 13] (.cond (.t 34) (.seq c70_5 .ret) .skip)
def c70_7 : AC := (.seq (.out [5, 7, 10, 13, 15] (.reg [5, 7, 9, 10, 12, 13] [w 30 (.load U4 9),w 31 (.load U4 12),w 32 (.call 60 [30, 31]),w 15 (.asg 32)])) (.seq (.out [5, 7, 10, 13, 15, 34] (.reg [5, 7, 10, 13, 15] [m 33 15,w 34 (.bin .neq 33 (.c U1 0))])) c70_6))
def c70_8 : AC := .out [5, 7, 10, 13, 41] (.reg [5, 7, 10, 13] [w 36 (.load U4 10),w 37 (.call 56 [36]),m 38 37,⟨some 39, .load U4 13, some (38, false)⟩,⟨some 40, .call 56 [39], some (38, false)⟩,w 41 (.pick 38 (.c .bool true) 40)])
def c70_9 : AC := .out [8] (.reg [10, 13] [w 42 (.load U4 10),w 43 (.load U4 13),w 44 (.call 60 [42, 43]),w 8 (.asg 44)])
def c70_10 : AC := .out [5, 7, 8, 10, 13] (.cond (.t 41) (.seq c70_9 .ret) .skip)
def c70_11 : AC := .out [8] (.reg [5, 7, 10, 13] [w 45 (.load U4 7),w 46 (.load U4 13),w 47 (.load U4 5),w 48 (.load U4 10),w 49 (.call 70 [45, 46, 47, 48]),w 8 (.asg 49)])
def c70_12 : AC := (.seq (.out [4, 5, 6, 7] (.reg [0, 1, 2, 3] [w 4 (.box U4 0),w 5 (.box U4 1),w 6 (.box U4 2),w 7 (.box U4 3),w 8 (.asg (.c U1 0))])) (.seq (.out [5, 6, 7, 9, 10] (.reg [4, 5, 6, 7] [w 17 (.load U4 4),w 18 (.load U4 5),w 19 (.call 84 [17, 18]),m 16 19,w 20 (.extract 16 0),w 21 (.extract 16 1),w 22 (.extract 16 2),w 9 (.alloc U4 (.pair (.own true 3 .no) .no)),w 10 (.alloc U4 (.pair (.own true 3 .no) .no)),⟨none, .store U4 9 20, none⟩,⟨none, .store U4 10 21, none⟩,w 11 (.asg 22)])) (.seq (.out [5, 7, 9, 10, 12, 13] (.reg [5, 6, 7, 9, 10] [w 24 (.load U4 6),w 25 (.load U4 7),w 26 (.call 84 [24, 25]),m 23 26,w 27 (.extract 23 0),w 28 (.extract 23 1),w 29 (.extract 23 2),w 12 (.alloc U4 (.pair (.own true 3 .no) .no)),w 13 (.alloc U4 (.pair (.own true 3 .no) .no)),⟨none, .store U4 12 27, none⟩,⟨none, .store U4 13 28, none⟩,w 14 (.asg 29)])) (.seq c70_7 (.seq (.seq c70_8 c70_10) (.seq c70_11 .ret))))))
def c70 : AC := c70_12
def d70 : FD := { nargs := 4, body := c70, res := [.t 8] }
def c35_0 : AC := .out [2, 3] (.reg [0, 1] [w 2 (.box U10 0),w 3 (.box U10 1),w 4 (.asg (.c U1 0))])
def c35_1 : AC := .out [2, 3, 12] (.reg [2, 3] [w 5 (.load U10 2),w 6 (.call 54 [5]),w 7 (.un .not 6),m 8 7,⟨some 9, .load U10 3, some (8, false)⟩,⟨some 10, .call 54 [9], some (8, false)⟩,⟨some 11, .un .not 10, some (8, false)⟩,w 12 (.pick 8 (.c .bool true) 11)])
def c35_2 : AC := .out [4] (.reg [] [w 4 (.asg (.c U1 0))])
def c35_3 : AC := .out [2, 3, 4] (.cond (.t 12) (.seq c35_2 .ret) .skip)
def c35_4 : AC := .out [2, 3, 17] (.reg [2, 3] [w 13 (.fieldAddr U10 [.l] 2),w 14 (.load .bool 13),w 15 (.fieldAddr U10 [.l] 3),w 16 (.load .bool 15),w 17 (.eqT true .bool 14 16)])
def c35_5 : AC := .out [19] (.reg [2] [w 18 (.fieldAddr U10 [.l] 2),w 19 (.load .bool 18)])
def c35_6 : AC := .out [4] (.reg [] [w 4 (.asg (.c U1 (-1)))])
def c35_7 : AC := .out [4] (.cond (.t 19) (.seq c35_6 .ret) .skip)
def c35_8 : AC := .out [4] (.reg [] [w 4 (.asg (.c U1 1))])
def c35_9 : AC := .out [2, 3, 4] (.cond (.t 17) (.seq (.seq c35_5 c35_7) (.seq c35_8 .ret)) .skip)
def c35_10 : AC := .out [2, 3, 21] (.reg [2, 3] [w 20 (.fieldAddr U10 [.l] 2),w 21 (.load .bool 20)])
def c35_11 : AC := .out [4] (.reg [2, 3] [w 22 (.fieldAddr U10 [.r, .l] 3),w 23 (.load U4 22),w 24 (.fieldAddr U10 [.r, .r, .l] 3),w 25 (.load U4 24),w 26 (.fieldAddr U10 [.r, .l] 2),w 27 (.load U4 26),w 28 (.fieldAddr U10 [.r, .r, .l] 2),w 29 (.load U4 28),w 30 (.call 70 [23, 25, 27, 29]),w 4 (.asg 30)])
def c35_12 : AC := .out [2, 3, 4] (.cond (.t 21) (.seq c35_11 .ret) .skip)
def c35_13 : AC := .out [4] (.reg [2, 3] [w 31 (.fieldAddr U10 [.r, .l] 2),w 32 (.load U4 31),w 33 (.fieldAddr U10 [.r, .r, .l] 2),w 34 (.load U4 33),w 35 (.fieldAddr U10 [.r, .l] 3),w 36 (.load U4 35),w 37 (.fieldAddr U10 [.r, .r, .l] 3),w 38 (.load U4 37),w 39 (.call 70 [32, 34, 36, 38]),w 4 (.asg 39)])
def c35_14 : AC := (.seq c35_0 (.seq (.seq c35_1 c35_3) (.seq (.seq c35_4 c35_9) (.seq (.seq c35_10 c35_12) (.seq c35_13 .ret)))))
def c35 : AC := c35_14
def d35 : FD := { nargs := 2, body := c35, res := [.t 4] }
def c79_0 : AC := .out [1] (.reg [0] [w 1 (.box U10 0),w 2 (.asg (.c U1 0))])
def c79_1 : AC := .out [1, 5] (.reg [1] [w 3 (.load U10 1),w 4 (.call 54 [3]),w 5 (.un .not 4)])
def c79_2 : AC := .out [2] (.reg [] [w 2 (.asg (.c U1 1))])
def c79_3 : AC := .out [1, 2] (.cond (.t 5) (.seq c79_2 .ret) .skip)
def c79_4 : AC := .out [20] (.draw [1] [⟨w 6 (.fieldAddr U10 [.l] 1), [], [6], [], false, []⟩,⟨w 7 (.load .bool 6), [], [7], [0], false, []⟩,⟨m 8 7, [], [8], [0, 1], false, []⟩,⟨⟨some 9, .load U10 1, some (8, false)⟩, [10], [9], [0, 1, 2], false, []⟩,⟨⟨some 10, .call 104 [], some (8, false)⟩, [9], [10], [0, 1, 2], false, []⟩,⟨⟨some 11, .call 35 [9, 10], some (8, false)⟩, [], [11], [0, 1, 2, 3, 4], false, []⟩,⟨⟨some 12, .bin .gtr 11 (.c U1 0), some (8, false)⟩, [], [12], [0, 1, 2, 3, 4, 5], false, []⟩,⟨w 13 (.pick 8 (.c .bool true) 12), [], [13], [0, 1, 2, 3, 4, 5, 6], false, []⟩,⟨m 14 13, [], [14], [0, 1, 2, 3, 4, 5, 6, 7], false, []⟩,⟨⟨some 15, .fieldAddr U10 [.r, .r, .l] 1, some (14, false)⟩, [17], [15], [0, 1, 2, 3, 4, 5, 6, 7, 8], false, []⟩,⟨⟨some 16, .load U4 15, some (14, false)⟩, [17], [16], [0, 1, 2, 3, 4, 5, 6, 7, 8, 9], false, []⟩,⟨⟨some 17, .call 53 [(.c U1 1000)], some (14, false)⟩, [15, 16], [17], [0, 1, 2, 3, 4, 5, 6, 7, 8], false, []⟩,⟨⟨some 18, .call 60 [16, 17], some (14, false)⟩, [], [18], [0, 1, 2, 3, 4, 5, 6, 7, 8, 9, 10, 11], false, []⟩,⟨⟨some 19, .bin .gtr 18 (.c U1 0), some (14, false)⟩, [], [19], [0, 1, 2, 3, 4, 5, 6, 7, 8, 9, 10, 11, 12], false, []⟩,⟨w 20 (.pick 14 (.c .bool true) 19), [], [20], [0, 1, 2, 3, 4, 5, 6, 7, 8, 9, 10, 11, 12, 13], false, []⟩])
def c79_5 : AC := .out [2] (.reg [] [w 2 (.asg (.c U1 6))])
def c79_6 : AC := .out [2] (.cond (.t 20) (.seq c79_5 .ret) .skip)
def c79_7 : AC := .out [2] (.reg [] [w 2 (.asg (.c U1 0))])
def c79_8 : AC := (.seq c79_0 (.seq (.seq c79_1 c79_3) (.seq (.seq c79_4 c79_6) (.seq c79_7 .ret))))
def c79 : AC := c79_8
def d79 : FD := { nargs := 1, body := c79, res := [.t 2] }
def c47_0 : AC := .out [1, 2, 3, 4, 5] (.reg [0, 1, 2, 3, 4] [w 5 (.box U10 0),w 10 (.asg (.c U1 0))])
def c47_3 : AC := .out [10] (.reg [11] [m 16 11,w 10 (.asg 16)])
def c47_4 : AC := .out [1, 2, 3, 4, 10] (.cond (.t 15) (.seq c47_3 .ret) .skip)
def c47_5 : AC := (.seq (.out [1, 2, 3, 4, 11] (.reg [1, 2, 3, 4, 5] [w 12 (.load U10 5),w 13 (.call 79 [12]),w 11 (.asg 13)])) (.seq (.out [1, 2, 3, 4, 11, 15] (.reg [1, 2, 3, 4, 11] [m 14 11,w 15 (.bin .neq 14 (.c U1 0))])) c47_4))
def c47_6 : AC := .out [32] (.reg [1, 2, 3, 4] [m 17 1,w 18 (.bin .lss 17 (.c U1 0)),m 19 18,⟨some 20, .mv 1, some (19, false)⟩,⟨some 21, .mv 2, some (19, false)⟩,⟨some 22, .bin .gtr 20 21, some (19, false)⟩,w 23 (.pick 19 (.c .bool true) 22),m 24 23,⟨some 25, .mv 3, some (24, false)⟩,⟨some 26, .bin .lss 25 (.c U1 0), some (24, false)⟩,w 27 (.pick 24 (.c .bool true) 26),m 28 27,⟨some 29, .mv 3, some (28, false)⟩,⟨some 30, .mv 4, some (28, false)⟩,⟨some 31, .bin .gtr 29 30, some (28, false)⟩,w 32 (.pick 28 (.c .bool true) 31)])
def c47_7 : AC := .out [10] (.reg [] [w 10 (.asg (.c U1 6))])
def c47_8 : AC := .out [10] (.cond (.t 32) (.seq c47_7 .ret) .skip)
def c47_9 : AC := .out [10] (.reg [] [w 10 (.asg (.c U1 0))])
def c47_10 : AC := (.seq c47_0 (.seq c47_5 (.seq (.seq c47_6 c47_8) (.seq c47_9 .ret))))
def c47 : AC := c47_10
def d47 : FD := { nargs := 5, body := c47, res := [.t 10] }
def c61_0 : AC := .out [2, 3, 4] (.reg [0, 1] [w 2 (.box U4 0),w 3 (.box U4 1),w 4 (.alloc U4 (.pair (.own true 3 .no) .no)),w 5 (.asg (.c U1 0))])
def c61_1 : AC := .out [2, 3, 4, 13] (.reg [2, 3, 4] [w 6 (.load U4 2),w 7 (.call 86 [6]),w 8 (.un .not 7),m 9 8,⟨some 10, .load U4 3, some (9, false)⟩,⟨some 11, .call 86 [10], some (9, false)⟩,⟨some 12, .un .not 11, some (9, false)⟩,w 13 (.pick 9 (.c .bool true) 12)])
def c61_2 : AC := .out [4, 5] (.reg [4] [w 14 (.buildN U4 (.pair (.own true 3 .no) .no) []),⟨none, .store U4 4 14, none⟩,w 5 (.asg (.c U1 1))])
def c61_3 : AC := .out [2, 3, 4, 5] (.cond (.t 13) (.seq c61_2 .ret) .skip)
def c61_4 : AC := .out [2, 3, 4, 18] (.reg [2, 3, 4] [w 15 (.load U4 2),w 16 (.load U4 3),w 17 (.call 60 [15, 16]),w 18 (.bin .lss 17 (.c U1 0))])
def c61_5 : AC := .out [4, 5] (.reg [4] [w 19 (.buildN U4 (.pair (.own true 3 .no) .no) []),⟨none, .store U4 4 19, none⟩,w 5 (.asg (.c U1 6))])
def c61_6 : AC := .out [2, 3, 4, 5] (.cond (.t 18) (.seq c61_5 .ret) .skip)
def c61_7 : AC := .out [4, 5] (.reg [2, 3, 4] [w 20 (.fieldAddr U4 [.l] 2),w 21 (.load U2 20),w 22 (.fieldAddr U4 [.l] 3),w 23 (.load U2 22),w 24 (.call 91 [21, 23]),w 25 (.build U4 [([.l], 24)]),⟨none, .store U4 4 25, none⟩,w 5 (.asg (.c U1 0))])
def c61_8 : AC := (.seq c61_0 (.seq (.seq c61_1 c61_3) (.seq (.seq c61_4 c61_6) (.seq c61_7 .ret))))
def c61 : AC := c61_8
def d61 : FD := { nargs := 2, body := c61, res := [.cell 4 U4, .t 5] }
def c93_0 : AC := .out [0, 1, 4] (.reg [0, 1] [w 4 (.alloc U4 (.pair (.own true 3 .no) .no)),w 5 (.asg (.c U1 0))])
def c93_1 : AC := .out [0, 1, 4, 22] (.reg [0, 1, 4] [m 8 0,w 9 (.bin .lss 8 (.c U1 0)),m 10 9,⟨some 11, .mv 0, some (10, false)⟩,⟨some 12, .bin .gtr 11 (.c U1 400), some (10, false)⟩,w 13 (.pick 10 (.c .bool true) 12),m 14 13,⟨some 15, .mv 1, some (14, false)⟩,⟨some 16, .bin .lss 15 (.c U1 0), some (14, false)⟩,w 17 (.pick 14 (.c .bool true) 16),m 18 17,⟨some 19, .mv 1, some (18, false)⟩,⟨some 20, .mv 0, some (18, false)⟩,⟨some 21, .bin .gtr 19 20, some (18, false)⟩,w 22 (.pick 18 (.c .bool true) 21)])
def c93_2 : AC := .out [4, 5] (.reg [4] [w 23 (.buildN U4 (.pair (.own true 3 .no) .no) []),⟨none, .store U4 4 23, none⟩,w 5 (.asg (.c U1 6))])
def c93_3 : AC := .out [0, 1, 4, 5] (.cond (.t 22) (.seq c93_2 .ret) .skip)
def c93_4 : AC := .out [0, 1, 4, 6] (.reg [0, 1, 4] [w 24 (.buildSlice 3 U1 [(.c U1 1)]),w 6 (.cp 24)])
def c93_5 : AC := .out [0, 1, 4, 6, 7] (.reg [0, 1, 4, 6] [w 7 (.asg (.c U1 1))])
def c93_6 : AC := .out [0, 1, 4, 6, 7, 27] (.reg [0, 1, 4, 6, 7] [m 25 7,m 26 1,w 27 (.bin .leq 25 26)])
def c93_7 : AC := .out [0, 1, 4, 6, 7] (.cond (.t 27) .skip (.exit 0))
def c93_8 : AC := .out [0, 1, 4, 6, 7] (.reg [0, 1, 4, 6, 7] [m 31 6,m 32 0,m 33 1,w 34 (.bin .sub 32 33),m 35 7,w 36 (.bin .add 34 35),w 37 (.buildSlice 3 U1 [36]),w 38 (.call 88 [31, 37]),m 39 7,w 40 (.buildSlice 3 U1 [39]),w 41 (.call 110 [38, 40]),m 30 41,w 42 (.extract 30 0),w 43 (.extract 30 1),w 6 (.cp 42)])
def c93_9 : AC := .out [0, 1, 4, 6, 7] (.block 1 c93_8)
def c93_10 : AC := .out [0, 1, 4, 6, 7] (.reg [0, 1, 4, 6, 7] [m 28 7,w 29 (.bin .add 28 (.c U1 1)),w 7 (.asg 29)])
def c93_11 : AC := (.seq (.seq c93_6 c93_7) (.seq c93_9 c93_10))
def c93_12 : AC := .out [4, 6] (.loop [0, 1, 4, 6, 7] c93_11)
def c93_13 : AC := .out [4, 6] (.block 0 c93_12)
def c93_14 : AC := .out [4, 5] (.reg [4, 6] [m 44 6,w 45 (.build U4 [([.l], 44)]),⟨none, .store U4 4 45, none⟩,w 5 (.asg (.c U1 0))])
def c93_15 : AC := (.seq c93_0 (.seq (.seq c93_1 c93_3) (.seq c93_4 (.seq (.seq c93_5 c93_13) (.seq c93_14 .ret)))))
def c93 : AC := c93_15
def d93 : FD := { nargs := 2, body := c93, res := [.cell 4 U4, .t 5] }
def c87_0 : AC := .out [0, 2] (.reg [0] [w 2 (.alloc U4 (.pair (.own true 3 .no) .no)),w 3 (.asg (.c U1 0))])
def c87_1 : AC := .out [0, 2, 6] (.reg [0, 2] [m 4 0,w 5 (.lenL 4),w 6 (.bin .gtr 5 (.c U1 200))])
def c87_2 : AC := .out [2, 3] (.reg [2] [w 7 (.buildN U4 (.pair (.own true 3 .no) .no) []),⟨none, .store U4 2 7, none⟩,w 3 (.asg (.c U1 3))])
def c87_3 : AC := .out [0, 2, 3] (.cond (.t 6) (.seq c87_2 .ret) .skip)
def c87_4 : AC := .out [2, 3] (.reg [0, 2] [m 8 0,w 9 (.build U4 [([.l], 8)]),⟨none, .store U4 2 9, none⟩,w 3 (.asg (.c U1 0))])
def c87_5 : AC := (.seq c87_0 (.seq (.seq c87_1 c87_3) (.seq c87_4 .ret)))
def c87 : AC := c87_5
def d87 : FD := { nargs := 1, body := c87, res := [.cell 2 U4, .t 3] }
def c58_0 : AC := .out [2, 3, 4] (.reg [0, 1] [w 2 (.box U4 0),w 3 (.box U4 1),w 4 (.alloc U4 (.pair (.own true 3 .no) .no)),w 5 (.asg (.c U1 0))])
def c58_1 : AC := .out [2, 3, 4, 13] (.reg [2, 3, 4] [w 6 (.load U4 2),w 7 (.call 86 [6]),w 8 (.un .not 7),m 9 8,⟨some 10, .load U4 3, some (9, false)⟩,⟨some 11, .call 86 [10], some (9, false)⟩,⟨some 12, .un .not 11, some (9, false)⟩,w 13 (.pick 9 (.c .bool true) 12)])
def c58_2 : AC := .out [4, 5] (.reg [4] [w 14 (.buildN U4 (.pair (.own true 3 .no) .no) []),⟨none, .store U4 4 14, none⟩,w 5 (.asg (.c U1 1))])
def c58_3 : AC := .out [2, 3, 4, 5] (.cond (.t 13) (.seq c58_2 .ret) .skip)
def c58_4 : AC := .out [4, 5] (.reg [2, 3, 4] [w 15 (.fieldAddr U4 [.l] 2),w 16 (.load U2 15),w 17 (.fieldAddr U4 [.l] 3),w 18 (.load U2 17),w 19 (.call 88 [16, 18]),w 20 (.call 87 [19]),w 21 (.extract 20 0),w 22 (.extract 20 1),⟨none, .store U4 4 21, none⟩,w 5 (.asg 22)])
def c58_5 : AC := (.seq c58_0 (.seq (.seq c58_1 c58_3) (.seq c58_4 .ret)))
def c58 : AC := c58_5
def d58 : FD := { nargs := 2, body := c58, res := [.cell 4 U4, .t 5] }
def c80_2 : AC := .out [1, 2, 4, 5, 6] (.reg [1, 2, 4, 5] [w 6 (.asg (.c U1 0))])
def c80_3 : AC := .out [1, 2, 4, 5, 6, 10] (.reg [1, 2, 4, 5, 6] [m 8 6,m 9 1,w 10 (.bin .lss 8 9)])
def c80_4 : AC := .out [1, 2, 4, 5, 6] (.cond (.t 10) .skip (.exit 0))
def c80_5 : AC := .out [1, 2, 4, 5, 6] (.reg [1, 2, 4, 5, 6] [w 14 (.load U4 5),w 15 (.load U4 2),w 16 (.call 58 [14, 15]),m 13 16,w 17 (.extract 13 0),w 18 (.extract 13 1),⟨none, .store U4 5 17, none⟩])
def c80_6 : AC := .out [1, 2, 4, 5, 6] (.block 1 c80_5)
def c80_7 : AC := .out [1, 2, 4, 5, 6] (.reg [1, 2, 4, 5, 6] [m 11 6,w 12 (.bin .add 11 (.c U1 1)),w 6 (.asg 12)])
def c80_8 : AC := (.seq (.seq c80_3 c80_4) (.seq c80_6 c80_7))
def c80_9 : AC := .out [4, 5] (.loop [1, 2, 4, 5, 6] c80_8)
def c80_10 : AC := .out [4, 5] (.block 0 c80_9)
def c80_11 : AC := .out [4] (.reg [4, 5] [w 19 (.load U4 5),⟨none, .store U4 4 19, none⟩])
def c80_12 : AC := (.seq (.out [1, 2, 4] (.reg [0, 1] [w 2 (.box U4 0),w 4 (.alloc U4 (.pair (.own true 3 .no) .no))])) (.seq (.out [1, 2, 4, 5] (.reg [1, 2, 4] [w 7 (.call 53 [(.c U1 1)]),w 5 (.alloc U4 (.pair (.own true 3 .no) .no)),⟨none, .store U4 5 7, none⟩])) (.seq (.seq c80_2 c80_10) (.seq c80_11 .ret))))
def c80 : AC := c80_12
def d80 : FD := { nargs := 2, body := c80, res := [.cell 4 U4] }
def c71_6 : AC := (.seq (.out [0, 1, 5, 6] (.reg [0, 1, 2] [w 5 (.box U10 2),w 6 (.alloc U4 (.pair (.own true 3 .no) .no))])) (.seq (.out [0, 1, 5, 6, 7] (.reg [0, 1, 5, 6] [w 12 (.fieldAddr U10 [.r, .r, .l] 5),w 13 (.load U4 12),w 14 (.fieldAddr U10 [.r, .l] 5),w 15 (.load U4 14),w 16 (.call 61 [13, 15]),m 11 16,w 17 (.extract 11 0),w 18 (.extract 11 1),w 7 (.alloc U4 (.pair (.own true 3 .no) .no)),⟨none, .store U4 7 17, none⟩,w 8 (.asg 18)])) (.seq (.out [0, 1, 5, 6, 7, 9] (.reg [0, 1, 5, 6, 7] [m 20 0,m 21 1,w 22 (.call 93 [20, 21]),m 19 22,w 23 (.extract 19 0),w 24 (.extract 19 1),w 9 (.alloc U4 .no),⟨none, .store U4 9 23, none⟩,w 10 (.asg 24)])) (.seq (.out [0, 1, 6, 7, 9] (.draw [0, 1, 5, 6, 7, 9] [⟨w 26 (.load U4 9), [27, 28, 29, 30], [26], [], false, []⟩,⟨w 27 (.fieldAddr U10 [.r, .l] 5), [26, 29], [27], [], false, []⟩,⟨w 28 (.load U4 27), [26, 29], [28], [1], false, []⟩,⟨m 29 1, [26, 27, 28], [29], [], false, []⟩,⟨w 30 (.call 80 [28, 29]), [26], [30], [1, 2, 3], false, []⟩,⟨w 31 (.callF 58 [26, 30]), [], [31], [0, 1, 2, 3, 4], true, []⟩,⟨m 25 31, [], [25], [0, 1, 2, 3, 4, 5], true, []⟩,⟨w 32 (.extract 25 0), [33], [32], [0, 1, 2, 3, 4, 5, 6], false, []⟩,⟨w 33 (.extract 25 1), [9, 32], [33], [0, 1, 2, 3, 4, 5, 6], false, []⟩,⟨⟨none, .store U4 9 32, none⟩, [33], [9], [0, 1, 2, 3, 4, 5, 6, 7], false, []⟩])) (.seq (.out [6, 9] (.draw [0, 1, 6, 7, 9] [⟨w 35 (.load U4 9), [36, 37, 38, 39, 40], [35], [], false, []⟩,⟨w 36 (.load U4 7), [35, 37, 38, 39], [36], [], false, []⟩,⟨m 37 0, [35, 36, 38], [37], [], false, []⟩,⟨m 38 1, [35, 36, 37], [38], [], false, []⟩,⟨w 39 (.bin .sub 37 38), [35, 36], [39], [2, 3], false, []⟩,⟨w 40 (.call 80 [36, 39]), [35], [40], [1, 2, 3, 4], false, []⟩,⟨w 41 (.callF 58 [35, 40]), [], [41], [0, 1, 2, 3, 4, 5], true, []⟩,⟨m 34 41, [], [34], [0, 1, 2, 3, 4, 5, 6], true, []⟩,⟨w 42 (.extract 34 0), [43], [42], [0, 1, 2, 3, 4, 5, 6, 7], false, []⟩,⟨w 43 (.extract 34 1), [9, 42], [43], [0, 1, 2, 3, 4, 5, 6, 7], false, []⟩,⟨⟨none, .store U4 9 42, none⟩, [43], [9], [0, 1, 2, 3, 4, 5, 6, 7, 8], false, []⟩])) (.seq (.out [6] (.reg [6, 9] [w 44 (.load U4 9),⟨none, .store U4 6 44, none⟩])) .ret))))))
def c71 : AC := c71_6
def d71 : FD := { nargs := 3, body := c71, res := [.cell 6 U4] }
def c72_0 : AC := .out [2, 3, 4] (.reg [0, 1] [w 2 (.box U4 0),w 3 (.box U4 1),w 4 (.alloc U10 (.pair .no (.pair (.pair (.own true 3 .no) .no) (.pair (.pair (.own true 3 .no) .no) .no)))),w 5 (.asg (.c U1 0))])
def c72_1 : AC := .out [2, 3, 4, 13] (.reg [2, 3, 4] [w 6 (.load U4 2),w 7 (.call 86 [6]),w 8 (.un .not 7),m 9 8,⟨some 10, .load U4 3, some (9, false)⟩,⟨some 11, .call 86 [10], some (9, false)⟩,⟨some 12, .un .not 11, some (9, false)⟩,w 13 (.pick 9 (.c .bool true) 12)])
def c72_2 : AC := .out [4, 5] (.reg [4] [w 14 (.build U10 []),⟨none, .store U10 4 14, none⟩,w 5 (.asg (.c U1 1))])
def c72_3 : AC := .out [2, 3, 4, 5] (.cond (.t 13) (.seq c72_2 .ret) .skip)
def c72_4 : AC := .out [2, 3, 4, 16] (.reg [2, 3, 4] [w 15 (.load U4 3),w 16 (.call 56 [15])])
def c72_5 : AC := .out [4, 5] (.reg [4] [w 17 (.build U10 []),⟨none, .store U10 4 17, none⟩,w 5 (.asg (.c U1 6))])
def c72_6 : AC := .out [2, 3, 4, 5] (.cond (.t 16) (.seq c72_5 .ret) .skip)
def c72_7 : AC := .out [4, 5] (.reg [2, 3, 4] [w 18 (.load U4 2),w 19 (.load U4 3),w 20 (.call 52 [(.c .bool false), 18, 19]),⟨none, .store U10 4 20, none⟩,w 5 (.asg (.c U1 0))])
def c72_8 : AC := (.seq c72_0 (.seq (.seq c72_1 c72_3) (.seq (.seq c72_4 c72_6) (.seq c72_7 .ret))))
def c72 : AC := c72_8
def d72 : FD := { nargs := 2, body := c72, res := [.cell 4 U10, .t 5] }
def c37_0 : AC := .out [0, 1, 5, 6] (.reg [0, 1, 2] [w 5 (.box U10 2),w 6 (.alloc U10 (.pair .no (.pair (.pair (.own true 3 .no) .no) (.pair (.pair (.own true 3 .no) .no) .no)))),w 7 (.asg (.c U1 0))])
def c37_3 : AC := .out [6, 7] (.reg [6, 8] [w 18 (.build U10 []),m 19 8,⟨none, .store U10 6 18, none⟩,w 7 (.asg 19)])
def c37_4 : AC := .out [0, 1, 5, 6, 7] (.cond (.t 17) (.seq c37_3 .ret) .skip)
def c37_5 : AC := (.seq (.out [0, 1, 5, 6, 8] (.reg [0, 1, 5, 6] [w 10 (.load U10 5),m 11 0,m 12 1,m 13 0,w 14 (.bin .sub 13 (.c U1 1)),w 15 (.call 47 [10, 11, (.c U1 200), 12, 14]),w 8 (.asg 15)])) (.seq (.out [0, 1, 5, 6, 8, 17] (.reg [0, 1, 5, 6, 8] [m 16 8,w 17 (.bin .neq 16 (.c U1 0))])) c37_4))
def c37_6 : AC := .out [0, 1, 5, 6, 9] (.reg [0, 1, 5, 6] [m 20 0,m 21 1,w 22 (.load U10 5),w 23 (.call 71 [20, 21, 22]),w 9 (.alloc U4 (.pair (.own true 3 .no) .no)),⟨none, .store U4 9 23, none⟩])
def c37_7 : AC := .out [0, 1, 5, 6, 9, 27] (.reg [0, 1, 5, 6, 9] [w 24 (.fieldAddr U4 [.l] 9),w 25 (.load U2 24),w 26 (.lenL 25),w 27 (.bin .eql 26 (.c U1 0))])
def c37_8 : AC := .out [6, 7] (.reg [6] [w 28 (.build U10 []),⟨none, .store U10 6 28, none⟩,w 7 (.asg (.c U1 10))])
def c37_9 : AC := .out [0, 1, 5, 6, 7, 9] (.cond (.t 27) (.seq c37_8 .ret) .skip)
def c37_10 : AC := .out [6, 7] (.draw [0, 1, 5, 6, 9] [⟨m 29 0, [30, 31, 32, 34], [29], [], false, []⟩,⟨m 30 1, [29, 32, 34], [30], [], false, []⟩,⟨w 31 (.bin .add 30 (.c U1 1)), [29, 32, 34], [31], [1], false, []⟩,⟨w 32 (.load U10 5), [29, 30, 31, 34], [32], [], false, []⟩,⟨w 33 (.call 71 [29, 31, 32]), [34], [33], [0, 1, 2, 3], false, []⟩,⟨w 34 (.load U4 9), [29, 30, 31, 32, 33], [34], [], false, []⟩,⟨w 35 (.callF 72 [33, 34]), [], [35], [0, 1, 2, 3, 4, 5], true, []⟩,⟨w 36 (.extract 35 0), [37], [36], [0, 1, 2, 3, 4, 5, 6], false, []⟩,⟨w 37 (.extract 35 1), [36], [37], [0, 1, 2, 3, 4, 5, 6], false, []⟩,⟨⟨none, .store U10 6 36, none⟩, [], [6], [0, 1, 2, 3, 4, 5, 6, 7, 8], true, []⟩,⟨w 7 (.asg 37), [], [7], [0, 1, 2, 3, 4, 5, 6, 7, 8, 9], false, []⟩])
def c37_11 : AC := (.seq c37_0 (.seq c37_5 (.seq c37_6 (.seq (.seq c37_7 c37_9) (.seq c37_10 .ret)))))
def c37 : AC := c37_11
def d37 : FD := { nargs := 3, body := c37, res := [.cell 6 U10, .t 7] }
def c33_2 : AC := .out [0, 4, 6, 7, 8, 17] (.reg [0, 4, 6, 7, 8] [m 16 8,w 17 (.bin .neq 16 (.c U1 0))])
def c33_3 : AC := .out [4, 5] (.reg [4, 8] [w 18 (.build U10 []),m 19 8,⟨none, .store U10 4 18, none⟩,w 5 (.asg 19)])
def c33_4 : AC := .out [0, 4, 5, 6, 7] (.cond (.t 17) (.seq c33_3 .ret) .skip)
def c33_5 : AC := .out [4, 5] (.reg [0, 4, 6, 7] [m 20 0,m 21 6,w 22 (.bin .mul 20 21),m 23 7,w 24 (.call 68 [22, 23]),w 25 (.extract 24 0),w 26 (.extract 24 1),⟨none, .store U10 4 25, none⟩,w 5 (.asg 26)])
def c33_6 : AC := (.seq (.out [0, 3, 4] (.reg [0, 1] [w 3 (.box U10 1),w 4 (.alloc U10 (.pair .no (.pair (.pair (.own true 3 .no) .no) (.pair (.pair (.own true 3 .no) .no) .no)))),w 5 (.asg (.c U1 0))])) (.seq (.out [0, 4, 6, 7, 8] (.reg [0, 3, 4] [m 10 0,w 11 (.load U10 3),w 12 (.call 43 [10, (.c U1 0), (.c U1 200), (.c U1 0), 11]),m 9 12,w 13 (.extract 9 0),w 14 (.extract 9 1),w 15 (.extract 9 2),w 6 (.asg 13),w 7 (.asg 14),w 8 (.asg 15)])) (.seq (.seq c33_2 c33_4) (.seq c33_5 .ret))))
def c33 : AC := c33_6
def d33 : FD := { nargs := 2, body := c33, res := [.cell 4 U10, .t 5] }
def c57_2 : AC := .out [6, 7, 8, 9, 11, 12, 21] (.reg [6, 7, 8, 9, 11, 12] [m 20 12,w 21 (.bin .neq 20 (.c U1 0))])
def c57_3 : AC := .out [8, 9, 10] (.draw [8, 9, 11, 12] [⟨w 22 (.load U4 11), [23, 24], [22], [], false, []⟩,⟨w 23 (.load U4 11), [8, 22, 24], [23], [], false, []⟩,⟨m 24 12, [8, 9, 22, 23], [24], [], false, []⟩,⟨⟨none, .store U4 8 22, none⟩, [23, 24], [8], [0], false, []⟩,⟨⟨none, .store U4 9 23, none⟩, [24], [9], [0, 1, 3], false, []⟩,⟨w 10 (.asg 24), [], [10], [0, 1, 2, 3, 4], false, []⟩])
def c57_4 : AC := .out [6, 7, 8, 9, 10, 11] (.cond (.t 21) (.seq c57_3 .ret) .skip)
def c57_7 : AC := (.seq (.out [8, 9, 11, 12, 13] (.reg [6, 7, 8, 9, 11] [w 26 (.load U4 6),w 27 (.load U4 7),w 28 (.call 58 [26, 27]),m 25 28,w 29 (.extract 25 0),w 30 (.extract 25 1),w 13 (.alloc U4 (.pair (.own true 3 .no) .no)),⟨none, .store U4 13 29, none⟩,w 12 (.asg 30)])) (.seq (.out [8, 9, 10] (.draw [8, 9, 11, 12, 13] [⟨w 31 (.load U4 11), [32, 33], [31], [], false, []⟩,⟨w 32 (.load U4 13), [8, 31, 33], [32], [], false, []⟩,⟨m 33 12, [8, 9, 31, 32], [33], [], false, []⟩,⟨⟨none, .store U4 8 31, none⟩, [32, 33], [8], [0], false, []⟩,⟨⟨none, .store U4 9 32, none⟩, [33], [9], [0, 1, 3], false, []⟩,⟨w 10 (.asg 33), [], [10], [0, 1, 2, 3, 4], false, []⟩])) .ret))
def c57_8 : AC := (.seq (.out [4, 5, 6, 7, 8, 9] (.reg [0, 1, 2, 3] [w 4 (.box U4 0),w 5 (.box U4 1),w 6 (.box U4 2),w 7 (.box U4 3),w 8 (.alloc U4 .no),w 9 (.alloc U4 .no),w 10 (.asg (.c U1 0))])) (.seq (.out [6, 7, 8, 9, 11, 12] (.reg [4, 5, 6, 7, 8, 9] [w 15 (.load U4 4),w 16 (.load U4 5),w 17 (.call 58 [15, 16]),m 14 17,w 18 (.extract 14 0),w 19 (.extract 14 1),w 11 (.alloc U4 (.pair (.own true 3 .no) .no)),⟨none, .store U4 11 18, none⟩,w 12 (.asg 19)])) (.seq (.seq c57_2 c57_4) c57_7)))
def c57 : AC := c57_8
def d57 : FD := { nargs := 4, body := c57, res := [.cell 8 U4, .cell 9 U4, .t 10] }
def c25_0 : AC := .out [2, 3, 4] (.reg [0, 1] [w 2 (.box U10 0),w 3 (.box U10 1),w 4 (.alloc U10 (.pair .no (.pair (.pair (.own true 3 .no) .no) (.pair (.pair (.own true 3 .no) .no) .no)))),w 5 (.asg (.c U1 0))])
def c25_1 : AC := .out [2, 3, 4, 16] (.reg [2, 3, 4] [w 9 (.load U10 2),w 10 (.call 54 [9]),w 11 (.un .not 10),m 12 11,⟨some 13, .load U10 3, some (12, false)⟩,⟨some 14, .call 54 [13], some (12, false)⟩,⟨some 15, .un .not 14, some (12, false)⟩,w 16 (.pick 12 (.c .bool true) 15)])
def c25_2 : AC := .out [4, 5] (.reg [4] [w 17 (.build U10 []),⟨none, .store U10 4 17, none⟩,w 5 (.asg (.c U1 1))])
def c25_3 : AC := .out [2, 3, 4, 5] (.cond (.t 16) (.seq c25_2 .ret) .skip)
def c25_4 : AC := .out [2, 3, 4, 6, 7, 8] (.reg [2, 3, 4] [w 19 (.fieldAddr U10 [.r, .l] 2),w 20 (.load U4 19),w 21 (.fieldAddr U10 [.r, .l] 3),w 22 (.load U4 21),w 23 (.fieldAddr U10 [.r, .r, .l] 2),w 24 (.load U4 23),w 25 (.fieldAddr U10 [.r, .r, .l] 3),w 26 (.load U4 25),w 27 (.call 57 [20, 22, 24, 26]),m 18 27,w 28 (.extract 18 0),w 29 (.extract 18 1),w 30 (.extract 18 2),w 6 (.alloc U4 (.pair (.own true 3 .no) .no)),w 7 (.alloc U4 (.pair (.own true 3 .no) .no)),⟨none, .store U4 6 28, none⟩,⟨none, .store U4 7 29, none⟩,w 8 (.asg 30)])
def c25_5 : AC := .out [2, 3, 4, 6, 7, 8, 32] (.reg [2, 3, 4, 6, 7, 8] [m 31 8,w 32 (.bin .neq 31 (.c U1 0))])
def c25_6 : AC := .out [4, 5] (.reg [4, 8] [w 33 (.build U10 []),m 34 8,⟨none, .store U10 4 33, none⟩,w 5 (.asg 34)])
def c25_7 : AC := .out [2, 3, 4, 5, 6, 7] (.cond (.t 32) (.seq c25_6 .ret) .skip)
def c25_8 : AC := .out [4, 5] (.reg [2, 3, 4, 6, 7] [w 35 (.fieldAddr U10 [.l] 2),w 36 (.load .bool 35),w 37 (.fieldAddr U10 [.l] 3),w 38 (.load .bool 37),w 39 (.eqT true .bool 36 38),w 40 (.load U4 6),w 41 (.load U4 7),w 42 (.call 52 [39, 40, 41]),⟨none, .store U10 4 42, none⟩,w 5 (.asg (.c U1 0))])
def c25_9 : AC := (.seq c25_0 (.seq (.seq c25_1 c25_3) (.seq c25_4 (.seq (.seq c25_5 c25_7) (.seq c25_8 .ret)))))
def c25 : AC := c25_9
def d25 : FD := { nargs := 2, body := c25, res := [.cell 4 U10, .t 5] }
def c38_0 : AC := .out [0, 3, 4] (.reg [0, 1] [w 3 (.box U10 1),w 4 (.alloc U10 (.pair .no (.pair (.pair (.own true 3 .no) .no) (.pair (.pair (.own true 3 .no) .no) .no)))),w 5 (.asg (.c U1 0))])
def c38_3 : AC := .out [4, 5] (.reg [4, 6] [w 14 (.build U10 []),m 15 6,⟨none, .store U10 4 14, none⟩,w 5 (.asg 15)])
def c38_4 : AC := .out [0, 3, 4, 5] (.cond (.t 13) (.seq c38_3 .ret) .skip)
def c38_5 : AC := (.seq (.out [0, 3, 4, 6] (.reg [0, 3, 4] [w 9 (.load U10 3),m 10 0,w 11 (.call 47 [9, 10, (.c U1 200), (.c U1 0), (.c U1 0)]),w 6 (.asg 11)])) (.seq (.out [0, 3, 4, 6, 13] (.reg [0, 3, 4, 6] [m 12 6,w 13 (.bin .neq 12 (.c U1 0))])) c38_4))
def c38_8 : AC := (.seq (.out [3, 4, 7] (.reg [0, 3, 4] [m 17 0,w 18 (.call 23 [17, (.c U1 1)]),m 16 18,w 19 (.extract 16 0),w 20 (.extract 16 1),w 7 (.alloc U10 (.pair .no (.pair (.pair (.own true 3 .no) .no) (.pair (.pair (.own true 3 .no) .no) .no)))),⟨none, .store U10 7 19, none⟩,w 8 (.asg 20)])) (.seq (.out [4, 5] (.reg [3, 4, 7] [w 21 (.load U10 7),w 22 (.load U10 3),w 23 (.call 25 [21, 22]),w 24 (.extract 23 0),w 25 (.extract 23 1),⟨none, .store U10 4 24, none⟩,w 5 (.asg 25)])) .ret))
def c38_9 : AC := (.seq c38_0 (.seq c38_5 c38_8))
def c38 : AC := c38_9
def d38 : FD := { nargs := 2, body := c38, res := [.cell 4 U10, .t 5] }
def c106_0 : AC := .out [0, 2] (.reg [0] [w 2 (.alloc U4 (.pair (.own true 3 .no) .no)),w 3 (.asg (.c U1 0))])
def c106_1 : AC := .out [0, 2, 6] (.reg [0, 2] [m 4 0,w 5 (.lenL 4),w 6 (.bin .gtr 5 (.c U1 200))])
def c106_2 : AC := .out [2, 3] (.reg [2] [w 7 (.buildN U4 (.pair (.own true 3 .no) .no) []),⟨none, .store U4 2 7, none⟩,w 3 (.asg (.c U1 3))])
def c106_3 : AC := .out [0, 2, 3] (.cond (.t 6) (.seq c106_2 .ret) .skip)
def c106_4 : AC := .out [2, 3] (.reg [0, 2] [m 8 0,w 9 (.call 105 [8]),⟨none, .store U4 2 9, none⟩,w 3 (.asg (.c U1 0))])
def c106_5 : AC := (.seq c106_0 (.seq (.seq c106_1 c106_3) (.seq c106_4 .ret)))
def c106 : AC := c106_5
def d106 : FD := { nargs := 1, body := c106, res := [.cell 2 U4, .t 3] }
def c92_0 : AC := .out [0, 1, 4] (.reg [0, 1] [w 4 (.alloc U4 (.pair (.own true 3 .no) .no)),w 5 (.asg (.c U1 0))])
def c92_1 : AC := .out [0, 1, 4, 22] (.reg [0, 1, 4] [m 8 0,w 9 (.bin .lss 8 (.c U1 0)),m 10 9,⟨some 11, .mv 0, some (10, false)⟩,⟨some 12, .bin .gtr 11 (.c U1 400), some (10, false)⟩,w 13 (.pick 10 (.c .bool true) 12),m 14 13,⟨some 15, .mv 1, some (14, false)⟩,⟨some 16, .bin .lss 15 (.c U1 0), some (14, false)⟩,w 17 (.pick 14 (.c .bool true) 16),m 18 17,⟨some 19, .mv 1, some (18, false)⟩,⟨some 20, .mv 0, some (18, false)⟩,⟨some 21, .bin .gtr 19 20, some (18, false)⟩,w 22 (.pick 18 (.c .bool true) 21)])
def c92_2 : AC := .out [4, 5] (.reg [4] [w 23 (.buildN U4 (.pair (.own true 3 .no) .no) []),⟨none, .store U4 4 23, none⟩,w 5 (.asg (.c U1 6))])
def c92_3 : AC := .out [0, 1, 4, 5] (.cond (.t 22) (.seq c92_2 .ret) .skip)
def c92_4 : AC := .out [0, 1, 4, 6] (.reg [0, 1, 4] [w 24 (.buildSlice 3 U1 [(.c U1 1)]),w 6 (.cp 24)])
def c92_5 : AC := .out [0, 1, 4, 6, 7] (.reg [0, 1, 4, 6] [w 7 (.asg (.c U1 1))])
def c92_6 : AC := .out [0, 1, 4, 6, 7, 31] (.reg [0, 1, 4, 6, 7] [m 25 7,m 26 1,m 27 0,m 28 1,w 29 (.bin .sub 27 28),w 30 (.mm false 26 29),w 31 (.bin .leq 25 30)])
def c92_7 : AC := .out [0, 1, 4, 6, 7] (.cond (.t 31) .skip (.exit 0))
def c92_10 : AC := (.seq (.out [0, 1, 4, 6, 7] (.reg [0, 1, 4, 6, 7] [m 34 6,m 35 0,w 36 (.bin .add 35 (.c U1 1)),m 37 7,w 38 (.bin .sub 36 37),w 39 (.buildSlice 3 U1 [38]),w 40 (.call 114 [34, 39]),w 6 (.cp 40)])) (.out [0, 1, 4, 6, 7] (.reg [0, 1, 4, 6, 7] [m 42 6,m 43 7,w 44 (.buildSlice 3 U1 [43]),w 45 (.call 115 [42, 44]),m 41 45,w 46 (.extract 41 0),w 47 (.extract 41 1),w 6 (.cp 46)])))
def c92_11 : AC := .out [0, 1, 4, 6, 7] (.block 1 c92_10)
def c92_12 : AC := .out [0, 1, 4, 6, 7] (.reg [0, 1, 4, 6, 7] [m 32 7,w 33 (.bin .add 32 (.c U1 1)),w 7 (.asg 33)])
def c92_13 : AC := (.seq (.seq c92_6 c92_7) (.seq c92_11 c92_12))
def c92_14 : AC := .out [4, 6] (.loop [0, 1, 4, 6, 7] c92_13)
def c92_15 : AC := .out [4, 6] (.block 0 c92_14)
def c92_16 : AC := .out [4, 5] (.reg [4, 6] [m 48 6,w 49 (.call 106 [48]),w 50 (.extract 49 0),w 51 (.extract 49 1),⟨none, .store U4 4 50, none⟩,w 5 (.asg 51)])
def c92_17 : AC := (.seq c92_0 (.seq (.seq c92_1 c92_3) (.seq c92_4 (.seq (.seq c92_5 c92_15) (.seq c92_16 .ret)))))
def c92 : AC := c92_17
def d92 : FD := { nargs := 2, body := c92, res := [.cell 4 U4, .t 5] }
def c64_0 : AC := .out [0, 1, 4] (.reg [0, 1] [w 4 (.alloc U4 (.pair (.own true 3 .no) .no))])
def c64_1 : AC := .out [0, 1, 4, 13] (.reg [0, 1, 4] [m 7 1,w 8 (.bin .lss 7 (.c U1 0)),m 9 8,⟨some 10, .mv 1, some (9, false)⟩,⟨some 11, .mv 0, some (9, false)⟩,⟨some 12, .bin .gtr 10 11, some (9, false)⟩,w 13 (.pick 9 (.c .bool true) 12)])
def c64_2 : AC := .out [4] (.reg [4] [w 14 (.call 49 [(.c U1 0)]),⟨none, .store U4 4 14, none⟩])
def c64_3 : AC := .out [0, 1, 4] (.cond (.t 13) (.seq c64_2 .ret) .skip)
def c64_6 : AC := (.seq (.out [4, 5] (.reg [0, 1, 4] [m 16 0,m 17 1,w 18 (.call 92 [16, 17]),m 15 18,w 19 (.extract 15 0),w 20 (.extract 15 1),w 5 (.alloc U4 (.pair (.own true 3 .no) .no)),⟨none, .store U4 5 19, none⟩,w 6 (.asg 20)])) (.seq (.out [4] (.reg [4, 5] [w 21 (.load U4 5),⟨none, .store U4 4 21, none⟩])) .ret))
def c64_7 : AC := (.seq c64_0 (.seq (.seq c64_1 c64_3) c64_6))
def c64 : AC := c64_7
def d64 : FD := { nargs := 2, body := c64, res := [.cell 4 U4] }
def c103_0 : AC := .out [2, 3, 4] (.reg [0, 1] [w 2 (.box U4 0),w 3 (.box U4 1),w 4 (.alloc U4 (.pair (.own true 3 .no) .no)),w 5 (.asg (.c U1 0))])
def c103_1 : AC := .out [2, 3, 4, 13] (.reg [2, 3, 4] [w 6 (.load U4 2),w 7 (.call 75 [6]),w 8 (.un .not 7),m 9 8,⟨some 10, .load U4 3, some (9, false)⟩,⟨some 11, .call 75 [10], some (9, false)⟩,⟨some 12, .un .not 11, some (9, false)⟩,w 13 (.pick 9 (.c .bool true) 12)])
def c103_2 : AC := .out [4, 5] (.reg [4] [w 14 (.buildN U4 (.pair (.own true 3 .no) .no) []),⟨none, .store U4 4 14, none⟩,w 5 (.asg (.c U1 1))])
def c103_3 : AC := .out [2, 3, 4, 5] (.cond (.t 13) (.seq c103_2 .ret) .skip)
def c103_4 : AC := .out [4, 5] (.reg [2, 3, 4] [w 15 (.fieldAddr U4 [.l] 2),w 16 (.load U2 15),w 17 (.fieldAddr U4 [.l] 3),w 18 (.load U2 17),w 19 (.call 114 [16, 18]),w 20 (.call 106 [19]),w 21 (.extract 20 0),w 22 (.extract 20 1),⟨none, .store U4 4 21, none⟩,w 5 (.asg 22)])
def c103_5 : AC := (.seq c103_0 (.seq (.seq c103_1 c103_3) (.seq c103_4 .ret)))
def c103 : AC := c103_5
def d103 : FD := { nargs := 2, body := c103, res := [.cell 4 U4, .t 5] }
def c78_3 : AC := (.seq (.out [2, 3, 4] (.reg [0, 1] [w 2 (.box U4 0),w 3 (.box U4 1),w 4 (.alloc U4 (.pair (.own true 3 .no) .no))])) (.seq (.out [4, 5] (.reg [2, 3, 4] [w 8 (.load U4 2),w 9 (.load U4 3),w 10 (.call 103 [8, 9]),m 7 10,w 11 (.extract 7 0),w 12 (.extract 7 1),w 5 (.alloc U4 (.pair (.own true 3 .no) .no)),⟨none, .store U4 5 11, none⟩,w 6 (.asg 12)])) (.seq (.out [4] (.reg [4, 5] [w 13 (.load U4 5),⟨none, .store U4 4 13, none⟩])) .ret)))
def c78 : AC := c78_3
def d78 : FD := { nargs := 2, body := c78, res := [.cell 4 U4] }
def c46_2 : AC := .out [4, 5, 6, 10, 11] (.reg [1, 4, 5, 6] [m 10 1,w 11 (.mv (.c U1 0))])
def c46_3 : AC := .out [4, 5, 6, 10, 11, 12] (.reg [4, 5, 6, 10, 11] [w 12 (.bin .lss 11 10)])
def c46_4 : AC := .out [4, 5, 6, 10, 11] (.cond (.t 12) .skip (.exit 0))
def c46_5 : AC := .out [4, 5, 6, 10, 11] (.reg [4, 5, 6, 10, 11] [w 13 (.load U4 5),w 14 (.load U4 6),w 15 (.call 78 [13, 14]),⟨none, .store U4 5 15, none⟩])
def c46_6 : AC := .out [4, 5, 6, 10, 11] (.block 1 c46_5)
def c46_7 : AC := .out [4, 5, 6, 10, 11] (.reg [4, 5, 6, 10, 11] [w 16 (.bin .add 11 (.c U1 1)),m 11 16])
def c46_8 : AC := (.seq c46_3 (.seq c46_4 (.seq c46_6 c46_7)))
def c46_9 : AC := .out [4, 5] (.loop [4, 5, 6, 10, 11] c46_8)
def c46_10 : AC := .out [4, 5] (.block 0 c46_9)
def c46_11 : AC := .out [4] (.reg [4, 5] [w 17 (.load U4 5),⟨none, .store U4 4 17, none⟩])
def c46_12 : AC := (.seq (.out [0, 1, 4] (.reg [0, 1] [w 4 (.alloc U4 (.pair (.own true 3 .no) .no))])) (.seq (.out [1, 4, 5, 6] (.reg [0, 1, 4] [w 7 (.call 49 [(.c U1 1)]),m 8 0,w 9 (.call 49 [8]),w 5 (.alloc U4 (.pair (.own true 3 .no) .no)),w 6 (.alloc U4 (.pair (.own true 3 .no) .no)),⟨none, .store U4 5 7, none⟩,⟨none, .store U4 6 9, none⟩])) (.seq (.seq c46_2 c46_10) (.seq c46_11 .ret))))
def c46 : AC := c46_12
def d46 : FD := { nargs := 2, body := c46, res := [.cell 4 U4] }
def c45_2 : AC := (.seq (.out [0, 1, 2, 3, 8] (.reg [0, 1, 2, 3] [w 8 (.alloc U4 (.pair (.own true 3 .no) .no))])) (.seq (.out [8] (.reg [0, 1, 2, 3, 8] [m 9 0,m 10 1,w 11 (.call 64 [9, 10]),m 12 2,m 13 1,w 14 (.call 46 [12, 13]),m 15 3,m 16 2,w 17 (.bin .sub 15 16),m 18 0,m 19 1,w 20 (.bin .sub 18 19),w 21 (.call 46 [17, 20]),w 22 (.call 78 [14, 21]),w 23 (.call 78 [11, 22]),⟨none, .store U4 8 23, none⟩])) .ret))
def c45 : AC := c45_2
def d45 : FD := { nargs := 4, body := c45, res := [.cell 8 U4] }
def c34_2 : AC := .out [0, 6, 7, 8, 21] (.reg [0, 6, 7, 8] [m 20 8,w 21 (.bin .neq 20 (.c U1 0))])
def c34_3 : AC := .out [4, 5] (.reg [8] [m 22 8,w 4 (.asg (.c U1 0)),w 5 (.asg 22)])
def c34_4 : AC := .out [0, 4, 5, 6, 7] (.cond (.t 21) (.seq c34_3 .ret) .skip)
def c34_5 : AC := .out [0, 6, 7, 9, 10] (.reg [0, 6, 7] [m 23 0,m 24 6,m 25 7,w 26 (.call 45 [23, (.c U1 0), 24, 25]),w 10 (.alloc U4 (.pair (.own true 3 .no) .no)),w 9 (.asg (.c U1 0)),⟨none, .store U4 10 26, none⟩])
def c34_6 : AC := .out [0, 6, 7, 9, 10, 11] (.reg [0, 6, 7, 9, 10] [w 11 (.asg (.c U1 1))])
def c34_7 : AC := .out [0, 6, 7, 9, 10, 11, 29] (.reg [0, 6, 7, 9, 10, 11] [m 27 11,m 28 0,w 29 (.bin .leq 27 28)])
def c34_8 : AC := .out [0, 6, 7, 9, 10, 11] (.cond (.t 29) .skip (.exit 0))
def c34_11 : AC := .out [0, 6, 7, 9, 10, 11] (.draw [0, 6, 7, 10, 11, 12] [⟨m 41 11, [42], [41], [], false, []⟩,⟨w 42 (.load U4 12), [9, 41], [42], [], false, []⟩,⟨w 9 (.asg 41), [42], [9], [0], false, []⟩,⟨⟨none, .store U4 10 42, none⟩, [], [10], [0, 1, 2], true, []⟩])
def c34_12 : AC := .out [0, 6, 7, 9, 10, 11] (.cond (.t 40) c34_11 .skip)
def c34_13 : AC := (.seq (.out [0, 6, 7, 9, 10, 11, 12] (.reg [0, 6, 7, 9, 10, 11] [m 32 0,m 33 11,m 34 6,m 35 7,w 36 (.call 45 [32, 33, 34, 35]),w 12 (.alloc U4 (.pair (.own true 3 .no) .no)),⟨none, .store U4 12 36, none⟩])) (.seq (.out [0, 6, 7, 9, 10, 11, 12, 40] (.reg [0, 6, 7, 9, 10, 11, 12] [w 37 (.load U4 12),w 38 (.load U4 10),w 39 (.call 69 [37, 38]),w 40 (.bin .gtr 39 (.c U1 0))])) c34_12))
def c34_14 : AC := .out [0, 6, 7, 9, 10, 11] (.block 1 c34_13)
def c34_15 : AC := .out [0, 6, 7, 9, 10, 11] (.reg [0, 6, 7, 9, 10, 11] [m 30 11,w 31 (.bin .add 30 (.c U1 1)),w 11 (.asg 31)])
def c34_16 : AC := (.seq (.seq c34_7 c34_8) (.seq c34_14 c34_15))
def c34_17 : AC := .out [9] (.loop [0, 6, 7, 9, 10, 11] c34_16)
def c34_18 : AC := .out [9] (.block 0 c34_17)
def c34_19 : AC := .out [4, 5] (.reg [9] [m 43 9,w 4 (.asg 43),w 5 (.asg (.c U1 0))])
def c34_20 : AC := (.seq (.out [0, 3] (.reg [0, 1] [w 3 (.box U10 1),w 4 (.asg (.c U1 0)),w 5 (.asg (.c U1 0))])) (.seq (.out [0, 6, 7, 8] (.reg [0, 3] [m 14 0,w 15 (.load U10 3),w 16 (.call 43 [14, (.c U1 0), (.c U1 200), (.c U1 0), 15]),m 13 16,w 17 (.extract 13 0),w 18 (.extract 13 1),w 19 (.extract 13 2),w 6 (.asg 17),w 7 (.asg 18),w 8 (.asg 19)])) (.seq (.seq c34_2 c34_4) (.seq c34_5 (.seq (.seq c34_6 c34_18) (.seq c34_19 .ret))))))
def c34 : AC := c34_20
def d34 : FD := { nargs := 2, body := c34, res := [.t 4, .t 5] }
def c39_0 : AC := .out [0, 3] (.reg [0, 1] [w 3 (.box U10 1),w 4 (.asg (.c U1 0)),w 5 (.asg (.c U1 0))])
def c39_3 : AC := .out [4, 5] (.reg [6] [m 16 6,w 4 (.asg (.c U1 0)),w 5 (.asg 16)])
def c39_4 : AC := .out [0, 3, 4, 5] (.cond (.t 15) (.seq c39_3 .ret) .skip)
def c39_5 : AC := (.seq (.out [0, 3, 6] (.reg [0, 3] [w 11 (.load U10 3),m 12 0,w 13 (.call 47 [11, 12, (.c U1 200), (.c U1 0), (.c U1 0)]),w 6 (.asg 13)])) (.seq (.out [0, 3, 6, 15] (.reg [0, 3, 6] [m 14 6,w 15 (.bin .neq 14 (.c U1 0))])) c39_4))
def c39_8 : AC := .out [0, 3, 7, 8, 9] (.reg [0, 3, 7, 8] [w 9 (.asg (.c U1 1))])
def c39_9 : AC := .out [0, 3, 7, 8, 9, 22] (.reg [0, 3, 7, 8, 9] [m 20 9,m 21 0,w 22 (.bin .leq 20 21)])
def c39_10 : AC := .out [0, 3, 7, 8, 9] (.cond (.t 22) .skip (.exit 0))
def c39_15 : AC := (.seq (.out [0, 3, 7, 8, 9, 10] (.reg [0, 3, 8, 9, 10] [m 33 9,w 7 (.asg 33)])) (.out [0, 3, 7, 8, 9] (.reg [0, 3, 7, 8, 9, 10] [w 34 (.load U4 10),⟨none, .store U4 8 34, none⟩])))
def c39_16 : AC := .out [0, 3, 7, 8, 9] (.cond (.t 32) c39_15 .skip)
def c39_17 : AC := (.seq (.out [0, 3, 7, 8, 9, 10] (.reg [0, 3, 7, 8, 9] [m 25 0,m 26 9,w 27 (.load U10 3),w 28 (.call 71 [25, 26, 27]),w 10 (.alloc U4 (.pair (.own true 3 .no) .no)),⟨none, .store U4 10 28, none⟩])) (.seq (.out [0, 3, 7, 8, 9, 10, 32] (.reg [0, 3, 7, 8, 9, 10] [w 29 (.load U4 10),w 30 (.load U4 8),w 31 (.call 60 [29, 30]),w 32 (.bin .gtr 31 (.c U1 0))])) c39_16))
def c39_18 : AC := .out [0, 3, 7, 8, 9] (.block 1 c39_17)
def c39_19 : AC := .out [0, 3, 7, 8, 9] (.reg [0, 3, 7, 8, 9] [m 23 9,w 24 (.bin .add 23 (.c U1 1)),w 9 (.asg 24)])
def c39_20 : AC := (.seq (.seq c39_9 c39_10) (.seq c39_18 c39_19))
def c39_21 : AC := .out [7] (.loop [0, 3, 7, 8, 9] c39_20)
def c39_22 : AC := .out [7] (.block 0 c39_21)
def c39_23 : AC := .out [4, 5] (.reg [7] [m 35 7,w 4 (.asg 35),w 5 (.asg (.c U1 0))])
def c39_24 : AC := (.seq (.out [0, 3, 7] (.reg [0, 3] [w 7 (.asg (.c U1 0))])) (.seq (.out [0, 3, 7, 8] (.reg [0, 3, 7] [m 17 0,w 18 (.load U10 3),w 19 (.call 71 [17, (.c U1 0), 18]),w 8 (.alloc U4 (.pair (.own true 3 .no) .no)),⟨none, .store U4 8 19, none⟩])) (.seq (.seq c39_8 c39_22) (.seq c39_23 .ret))))
def c39_25 : AC := (.seq c39_0 (.seq c39_5 c39_24))
def c39 : AC := c39_25
def d39 : FD := { nargs := 2, body := c39, res := [.t 4, .t 5] }
def c21_2 : AC := (.seq (.out [2, 3] (.reg [0, 1] [w 2 (.box U10 0),w 3 (.box U10 1),w 4 (.asg (.c .bool false))])) (.seq (.out [4] (.reg [2, 3] [w 5 (.fieldAddr U10 [.l] 2),w 6 (.load .bool 5),w 7 (.fieldAddr U10 [.l] 3),w 8 (.load .bool 7),w 9 (.eqT false .bool 6 8),m 10 9,⟨some 11, .fieldAddr U10 [.r, .l] 2, some (10, true)⟩,⟨some 12, .load U4 11, some (10, true)⟩,⟨some 13, .fieldAddr U10 [.r, .l] 3, some (10, true)⟩,⟨some 14, .load U4 13, some (10, true)⟩,⟨some 15, .call 51 [12, 14], some (10, true)⟩,w 16 (.pick 10 15 (.c .bool false)),m 17 16,⟨some 18, .fieldAddr U10 [.r, .r, .l] 2, some (17, true)⟩,⟨some 19, .load U4 18, some (17, true)⟩,⟨some 20, .fieldAddr U10 [.r, .r, .l] 3, some (17, true)⟩,⟨some 21, .load U4 20, some (17, true)⟩,⟨some 22, .call 51 [19, 21], some (17, true)⟩,w 23 (.pick 17 22 (.c .bool false)),w 4 (.asg 23)])) .ret))
def c21 : AC := c21_2
def d21 : FD := { nargs := 2, body := c21, res := [.t 4] }
def c10_0 : AC := .out [2, 3] (.reg [0, 1] [w 2 (.box U8 0),w 3 (.box U10 1),w 4 (.asg (.c .bool false))])
def c10_1 : AC := .out [2, 3, 30] (.reg [2, 3] [w 17 (.call 11 []),w 18 (.un .not 17),m 19 18,⟨some 20, .fieldAddr U8 [.l] 2, some (19, false)⟩,⟨some 21, .load U1 20, some (19, false)⟩,⟨some 22, .call 16 [21], some (19, false)⟩,⟨some 23, .un .not 22, some (19, false)⟩,w 24 (.pick 19 (.c .bool true) 23),m 25 24,⟨some 26, .load U10 3, some (25, false)⟩,⟨some 27, .buildSlice 26 U10 [26], some (25, false)⟩,⟨some 28, .call 12 [27, (.c U1 10)], some (25, false)⟩,⟨some 29, .un .not 28, some (25, false)⟩,w 30 (.pick 25 (.c .bool true) 29)])
def c10_2 : AC := .out [4] (.reg [] [w 31 (.call 11 []),w 4 (.asg 31)])
def c10_3 : AC := .out [2, 3, 4] (.cond (.t 30) (.seq c10_2 .ret) .skip)
def c10_11 : AC := (.seq (.out [2, 3, 5, 6] (.reg [2, 3] [w 33 (.fieldAddr U8 [.l] 2),w 34 (.load U1 33),w 35 (.fieldAddr U8 [.r, .l] 2),w 36 (.load U1 35),w 37 (.load U10 3),w 38 (.call 36 [34, 36, 37]),m 32 38,w 39 (.extract 32 0),w 40 (.extract 32 1),w 5 (.alloc U10 (.pair .no (.pair (.pair (.own true 3 .no) .no) (.pair (.pair (.own true 3 .no) .no) .no)))),⟨none, .store U10 5 39, none⟩,w 6 (.asg 40)])) (.seq (.out [2, 3, 5, 6, 7, 8] (.reg [2, 3, 5, 6] [w 42 (.fieldAddr U8 [.l] 2),w 43 (.load U1 42),w 44 (.fieldAddr U8 [.r, .l] 2),w 45 (.load U1 44),w 46 (.load U10 3),w 47 (.call 37 [43, 45, 46]),m 41 47,w 48 (.extract 41 0),w 49 (.extract 41 1),w 7 (.alloc U10 (.pair .no (.pair (.pair (.own true 3 .no) .no) (.pair (.pair (.own true 3 .no) .no) .no)))),⟨none, .store U10 7 48, none⟩,w 8 (.asg 49)])) (.seq (.out [2, 3, 5, 6, 7, 8, 9, 10] (.reg [2, 3, 5, 6, 7, 8] [w 51 (.fieldAddr U8 [.l] 2),w 52 (.load U1 51),w 53 (.load U10 3),w 54 (.call 33 [52, 53]),m 50 54,w 55 (.extract 50 0),w 56 (.extract 50 1),w 9 (.alloc U10 (.pair .no (.pair (.pair (.own true 3 .no) .no) (.pair (.pair (.own true 3 .no) .no) .no)))),⟨none, .store U10 9 55, none⟩,w 10 (.asg 56)])) (.seq (.out [2, 3, 5, 6, 7, 8, 9, 10, 11, 12] (.reg [2, 3, 5, 6, 7, 8, 9, 10] [w 58 (.fieldAddr U8 [.l] 2),w 59 (.load U1 58),w 60 (.load U10 3),w 61 (.call 38 [59, 60]),m 57 61,w 62 (.extract 57 0),w 63 (.extract 57 1),w 11 (.alloc U10 (.pair .no (.pair (.pair (.own true 3 .no) .no) (.pair (.pair (.own true 3 .no) .no) .no)))),⟨none, .store U10 11 62, none⟩,w 12 (.asg 63)])) (.seq (.out [2, 3, 5, 6, 7, 8, 9, 10, 11, 12, 13, 14] (.reg [2, 3, 5, 6, 7, 8, 9, 10, 11, 12] [w 65 (.fieldAddr U8 [.l] 2),w 66 (.load U1 65),w 67 (.load U10 3),w 68 (.call 34 [66, 67]),m 64 68,w 69 (.extract 64 0),w 70 (.extract 64 1),w 13 (.asg 69),w 14 (.asg 70)])) (.seq (.out [5, 6, 7, 8, 9, 10, 11, 12, 13, 14, 15, 16] (.reg [2, 3, 5, 6, 7, 8, 9, 10, 11, 12, 13, 14] [w 72 (.fieldAddr U8 [.l] 2),w 73 (.load U1 72),w 74 (.load U10 3),w 75 (.call 39 [73, 74]),m 71 75,w 76 (.extract 71 0),w 77 (.extract 71 1),w 15 (.asg 76),w 16 (.asg 77)])) (.seq (.out [4] (.reg [5, 6, 7, 8, 9, 10, 11, 12, 13, 14, 15, 16] [m 78 6,m 79 8,w 80 (.bin .eql 78 79),m 81 80,⟨some 82, .load U10 5, some (81, true)⟩,⟨some 83, .load U10 7, some (81, true)⟩,⟨some 84, .call 21 [82, 83], some (81, true)⟩,w 85 (.pick 81 84 (.c .bool false)),m 86 85,⟨some 87, .mv 10, some (86, true)⟩,⟨some 88, .mv 12, some (86, true)⟩,⟨some 89, .bin .eql 87 88, some (86, true)⟩,w 90 (.pick 86 89 (.c .bool false)),m 91 90,⟨some 92, .load U10 9, some (91, true)⟩,⟨some 93, .load U10 11, some (91, true)⟩,⟨some 94, .call 21 [92, 93], some (91, true)⟩,w 95 (.pick 91 94 (.c .bool false)),m 96 95,⟨some 97, .mv 14, some (96, true)⟩,⟨some 98, .mv 16, some (96, true)⟩,⟨some 99, .bin .eql 97 98, some (96, true)⟩,w 100 (.pick 96 99 (.c .bool false)),m 101 100,⟨some 102, .mv 13, some (101, true)⟩,⟨some 103, .mv 15, some (101, true)⟩,⟨some 104, .bin .eql 102 103, some (101, true)⟩,w 105 (.pick 101 104 (.c .bool false)),w 4 (.asg 105)])) .ret)))))))
def c10_12 : AC := (.seq c10_0 (.seq (.seq c10_1 c10_3) c10_11))
def c10 : AC := c10_12
def d10 : FD := { nargs := 2, body := c10, res := [.t 4] }
def c11 : AC := (.seq (.reg [] [w 0 (.asg (.c .bool false))]) (.seq (.reg [] [w 9 (.call 22 [(.c U0 1), (.c U0 2)]),w 1 (.alloc U10 (.pair .no (.pair (.pair (.own true 3 .no) .no) (.pair (.pair (.own true 3 .no) .no) .no)))),⟨none, .store U10 1 9, none⟩]) (.seq (.reg [1, 9] [w 11 (.load U10 1),w 12 (.call 13 [(.c U1 2), 11]),m 10 12,w 13 (.extract 10 0),w 14 (.extract 10 1),w 2 (.asg 13),w 3 (.asg 14)]) (.seq (.reg [1, 2, 3, 9, 13] [w 16 (.load U10 1),w 17 (.call 19 [(.c U1 2), (.c U1 1), 16]),m 15 17,w 18 (.extract 15 0),w 19 (.extract 15 1),w 4 (.alloc U10 (.pair .no (.pair (.pair (.own true 3 .no) .no) (.pair (.pair (.own true 3 .no) .no) .no)))),⟨none, .store U10 4 18, none⟩,w 5 (.asg 19)]) (.seq (.reg [2, 3, 4, 5, 13, 18] [w 21 (.call 27 [(.c U1 5), (.c U1 2), (.c U1 2), (.c U1 1)]),m 20 21,w 22 (.extract 20 0),w 23 (.extract 20 1),w 6 (.alloc U10 (.pair .no (.pair (.pair (.own true 3 .no) .no) (.pair (.pair (.own true 3 .no) .no) .no)))),⟨none, .store U10 6 22, none⟩,w 7 (.asg 23)]) (.seq (.reg [2, 3, 4, 5, 6, 7, 13, 18, 22] [w 8 (.asg (.fn 40 (.pair U10 .unit) .str))]) (.seq (.reg [2, 3, 4, 5, 6, 7, 8, 13, 18, 22] [m 24 3,w 25 (.bin .eql 24 (.c U1 0)),m 26 25,⟨some 27, .mv 2, some (26, true)⟩,⟨some 28, .lenL 27, some (26, true)⟩,⟨some 29, .bin .eql 28 (.c U1 3), some (26, true)⟩,w 30 (.pick 26 29 (.c .bool false)),m 31 30,⟨some 32, .mv 8, some (31, true)⟩,⟨some 33, .mv 2, some (31, true)⟩,⟨some 34, .indexAddr U10 33 (.c U1 0), some (31, true)⟩,⟨some 35, .load U10 34, some (31, true)⟩,⟨some 36, .callv 32 [35], some (31, true)⟩,⟨some 37, .bin .eql 36 (.c .str [52, 47, 57]), some (31, true)⟩,w 38 (.pick 31 37 (.c .bool false)),m 39 38,⟨some 40, .mv 8, some (39, true)⟩,⟨some 41, .mv 2, some (39, true)⟩,⟨some 42, .indexAddr U10 41 (.c U1 1), some (39, true)⟩,⟨some 43, .load U10 42, some (39, true)⟩,⟨some 44, .callv 40 [43], some (39, true)⟩,⟨some 45, .bin .eql 44 (.c .str [52, 47, 57]), some (39, true)⟩,w 46 (.pick 39 45 (.c .bool false)),m 47 46,⟨some 48, .mv 8, some (47, true)⟩,⟨some 49, .mv 2, some (47, true)⟩,⟨some 50, .indexAddr U10 49 (.c U1 2), some (47, true)⟩,⟨some 51, .load U10 50, some (47, true)⟩,⟨some 52, .callv 48 [51], some (47, true)⟩,⟨some 53, .bin .eql 52 (.c .str [49, 47, 57]), some (47, true)⟩,w 54 (.pick 47 53 (.c .bool false)),m 55 54,⟨some 56, .mv 5, some (55, true)⟩,⟨some 57, .bin .eql 56 (.c U1 0), some (55, true)⟩,w 58 (.pick 55 57 (.c .bool false)),m 59 58,⟨some 60, .mv 8, some (59, true)⟩,⟨some 61, .load U10 4, some (59, true)⟩,⟨some 62, .callv 60 [61], some (59, true)⟩,⟨some 63, .bin .eql 62 (.c .str [53, 47, 57]), some (59, true)⟩,w 64 (.pick 59 63 (.c .bool false)),m 65 64,⟨some 66, .mv 7, some (65, true)⟩,⟨some 67, .bin .eql 66 (.c U1 0), some (65, true)⟩,w 68 (.pick 65 67 (.c .bool false)),m 69 68,⟨some 70, .mv 8, some (69, true)⟩,⟨some 71, .load U10 6, some (69, true)⟩,⟨some 72, .callv 70 [71], some (69, true)⟩,⟨some 73, .bin .eql 72 (.c .str [51, 47, 53]), some (69, true)⟩,w 74 (.pick 69 73 (.c .bool false)),w 0 (.asg 74)]) .ret)))))))
def d11 : FD := { nargs := 0, body := c11, res := [.t 0] }
def c13 : AC := (.seq (.reg [0, 1] [w 3 (.box U10 1),w 4 (.asg (.nil 26 U10)),w 5 (.asg (.c U1 0))]) (.seq (.reg [0, 3] [m 14 0,w 15 (.load U10 3),w 16 (.call 43 [14, (.c U1 0), (.c U1 60), (.c U1 0), 15]),m 13 16,w 17 (.extract 13 0),w 18 (.extract 13 1),w 19 (.extract 13 2),w 6 (.asg 17),w 7 (.asg 18),w 8 (.asg 19)]) (.seq (.seq (.reg [0, 6, 7, 8] [m 20 8,w 21 (.bin .neq 20 (.c U1 0))]) (.cond (.t 21) (.seq (.reg [8] [m 22 8,w 4 (.asg (.nil 26 U10)),w 5 (.asg 22)]) .ret) .skip)) (.seq (.reg [0, 6, 7] [w 9 (.asg (.nil 26 U10))]) (.seq (.seq (.reg [0, 6, 7, 9, 46] [m 23 0,w 24 (.bin .add 23 (.c U1 1)),w 25 (.mv (.c U1 0))]) (.block 0 (.loop [0, 6, 7, 9, 24, 25, 46] (.seq (.reg [0, 6, 7, 9, 24, 25, 46] [w 26 (.bin .lss 25 24)]) (.seq (.cond (.t 26) .skip (.exit 0)) (.seq (.block 1 (.seq (.reg [0, 6, 7, 9, 24, 25, 46] [m 27 25,w 10 (.asg 27)]) (.seq (.reg [0, 6, 7, 9, 10, 24, 25, 46] [m 29 0,m 30 10,m 31 6,m 32 7,w 33 (.call 45 [29, 30, 31, 32]),m 34 7,m 35 0,w 36 (.call 46 [34, 35]),w 37 (.call 44 [33, 36]),m 28 37,w 38 (.extract 28 0),w 39 (.extract 28 1),w 11 (.alloc U10 (.pair .no (.pair (.pair (.own true 3 .no) .no) (.pair (.pair (.own true 3 .no) .no) .no)))),⟨none, .store U10 11 38, none⟩,w 12 (.asg 39)]) (.seq (.seq (.reg [0, 6, 7, 9, 11, 12, 24, 25, 38, 46] [m 40 12,w 41 (.bin .neq 40 (.c U1 0))]) (.cond (.t 41) (.seq (.reg [12] [m 42 12,w 4 (.asg (.nil 26 U10)),w 5 (.asg 42)]) .ret) .skip)) (.reg [0, 6, 7, 9, 11, 24, 25, 38, 46] [m 43 9,w 44 (.load U10 11),w 45 (.buildSlice 26 U10 [44]),w 46 (.append 26 U10 2513169434916 43 45),w 9 (.asg 46)]))))) (.reg [0, 6, 7, 9, 24, 25, 46] [w 47 (.bin .add 25 (.c U1 1)),m 25 47]))))))) (.seq (.reg [9, 46] [m 48 9,w 4 (.asg 48),w 5 (.asg (.c U1 0))]) .ret))))))
def d13 : FD := { nargs := 2, body := c13, res := [.t 4, .t 5] }
def c19 : AC := (.seq (.reg [0, 1, 2] [w 5 (.box U10 2),w 6 (.alloc U10 (.pair .no (.pair (.pair (.own true 3 .no) .no) (.pair (.pair (.own true 3 .no) .no) .no)))),w 7 (.asg (.c U1 0))]) (.seq (.reg [0, 1, 5, 6, 24, 45] [m 14 0,m 15 1,m 16 0,w 17 (.load U10 5),w 18 (.call 43 [14, 15, (.c U1 200), 16, 17]),m 13 18,w 19 (.extract 13 0),w 20 (.extract 13 1),w 21 (.extract 13 2),w 8 (.asg 19),w 9 (.asg 20),w 10 (.asg 21)]) (.seq (.seq (.reg [0, 1, 6, 8, 9, 10, 24, 45] [m 22 10,w 23 (.bin .neq 22 (.c U1 0))]) (.cond (.t 23) (.seq (.reg [6, 10, 24, 45] [w 24 (.build U10 []),m 25 10,⟨none, .store U10 6 24, none⟩,w 7 (.asg 25)]) .ret) .skip)) (.seq (.reg [0, 1, 6, 8, 9, 24, 45] [w 26 (.call 49 [(.c U1 0)]),w 11 (.alloc U4 (.pair (.own true 3 .no) .no)),⟨none, .store U4 11 26, none⟩]) (.seq (.seq (.reg [0, 1, 6, 8, 9, 11, 24, 26, 39, 45] [m 27 1,w 12 (.asg 27)]) (.block 0 (.loop [0, 6, 8, 9, 11, 12, 24, 26, 39, 45] (.seq (.seq (.reg [0, 6, 8, 9, 11, 12, 24, 26, 39, 45] [m 28 12,m 29 0,w 30 (.bin .leq 28 29)]) (.cond (.t 30) .skip (.exit 0))) (.seq (.block 1 (.draw [0, 6, 8, 9, 11, 12, 24, 26, 39, 45] [⟨w 33 (.load U4 11), [34, 35, 36, 37, 38], [33], [], false, []⟩,⟨m 34 0, [33, 35, 36, 37], [34], [], false, []⟩,⟨m 35 12, [33, 34, 36, 37], [35], [], false, []⟩,⟨m 36 8, [33, 34, 35, 37], [36], [], false, []⟩,⟨m 37 9, [33, 34, 35, 36], [37], [], false, []⟩,⟨w 38 (.call 45 [34, 35, 36, 37]), [33], [38], [1, 2, 3, 4], false, []⟩,⟨w 39 (.call 50 [33, 38]), [], [39], [0, 1, 2, 3, 4, 5], true, []⟩,⟨⟨none, .store U4 11 39, none⟩, [], [11], [0, 1, 2, 3, 4, 5, 6], true, []⟩])) (.reg [0, 6, 8, 9, 11, 12, 24, 26, 39, 45] [m 31 12,w 32 (.bin .add 31 (.c U1 1)),w 12 (.asg 32)])))))) (.seq (.draw [0, 6, 9, 11, 24, 26, 39, 45] [⟨w 40 (.load U4 11), [41, 42, 43], [40], [], false, []⟩,⟨m 41 9, [40, 42], [41], [], false, []⟩,⟨m 42 0, [40, 41], [42], [], false, []⟩,⟨w 43 (.call 46 [41, 42]), [40], [43], [1, 2], false, []⟩,⟨w 44 (.callF 44 [40, 43]), [], [44], [0, 1, 2, 3], true, []⟩,⟨w 45 (.extract 44 0), [46], [45], [0, 1, 2, 3, 4], false, []⟩,⟨w 46 (.extract 44 1), [45], [46], [0, 1, 2, 3, 4], false, []⟩,⟨⟨none, .store U10 6 45, none⟩, [], [6], [0, 1, 2, 3, 4, 5, 6], true, []⟩,⟨w 7 (.asg 46), [], [7], [0, 1, 2, 3, 4, 5, 6, 7], false, []⟩]) .ret))))))
def d19 : FD := { nargs := 3, body := c19, res := [.cell 6 U10, .t 7] }
def c22 : AC := (.seq (.reg [0, 1] [w 4 (.alloc U10 (.pair .no (.pair (.pair (.own true 3 .no) .no) (.pair (.pair (.own true 3 .no) .no) .no))))]) (.seq (.reg [0, 1, 4, 6, 20, 22] [m 8 1,w 9 (.bin .rem 8 (.c U0 20)),w 10 (.convI .i64 9),w 11 (.bin .add (.c U1 1) 10),w 5 (.asg 11)]) (.seq (.reg [0, 4, 5, 6, 20, 22] [m 13 0,w 14 (.convI .i64 13),m 15 5,w 16 (.bin .add 15 (.c U1 1)),w 17 (.bin .rem 14 16),m 18 5,w 19 (.call 23 [17, 18]),m 12 19,w 20 (.extract 12 0),w 21 (.extract 12 1),w 6 (.alloc U10 (.pair .no (.pair (.pair (.own true 3 .no) .no) (.pair (.pair (.own true 3 .no) .no) .no)))),⟨none, .store U10 6 20, none⟩,w 7 (.asg 21)]) (.seq (.reg [4, 6, 20, 22] [w 22 (.load U10 6),⟨none, .store U10 4 22, none⟩]) .ret))))
def d22 : FD := { nargs := 2, body := c22, res := [.cell 4 U10] }
def c27 : AC := (.seq (.reg [0, 1, 2, 3] [w 8 (.alloc U10 (.pair .no (.pair (.pair (.own true 3 .no) .no) (.pair (.pair (.own true 3 .no) .no) .no)))),w 9 (.asg (.c U1 0))]) (.seq (.seq (.reg [0, 1, 2, 3, 8, 18, 29] [m 11 0,m 12 1,m 13 2,m 14 3,w 15 (.call 62 [11, 12, 13, 14]),w 10 (.asg 15)]) (.seq (.reg [0, 1, 2, 3, 8, 10, 18, 29] [m 16 10,w 17 (.bin .neq 16 (.c U1 0))]) (.cond (.t 17) (.seq (.reg [8, 10, 18, 29] [w 18 (.build U10 []),m 19 10,⟨none, .store U10 8 18, none⟩,w 9 (.asg 19)]) .ret) .skip))) (.seq (.reg [0, 1, 2, 3, 8, 18, 29] [m 20 0,m 21 1,m 22 2,m 23 3,w 24 (.call 63 [20, 21, 22, 23]),m 25 0,m 26 2,w 27 (.call 64 [25, 26]),w 28 (.call 44 [24, 27]),w 29 (.extract 28 0),w 30 (.extract 28 1),⟨none, .store U10 8 29, none⟩,w 9 (.asg 30)]) .ret)))
def d27 : FD := { nargs := 4, body := c27, res := [.cell 8 U10, .t 9] }
def c40 : AC := (.seq (.reg [0] [w 1 (.box U10 0),w 2 (.asg (.c .str []))]) (.seq (.reg [1] [w 6 (.load U10 1),w 7 (.call 41 [6]),m 5 7,w 8 (.extract 5 0),w 9 (.extract 5 1),w 3 (.asg 8),w 4 (.asg 9)]) (.seq (.reg [3] [m 10 3,w 2 (.asg 10)]) .ret)))
def d40 : FD := { nargs := 1, body := c40, res := [.t 2] }
def c41 : AC := (.seq (.reg [0] [w 1 (.box U10 0),w 2 (.asg (.c .str [])),w 3 (.asg (.c U1 0))]) (.seq (.seq (.reg [1] [w 8 (.load U10 1),w 9 (.call 54 [8]),w 10 (.un .not 9)]) (.cond (.t 10) (.seq (.reg [] [w 2 (.asg (.c .str [])),w 3 (.asg (.c U1 1))]) .ret) .skip)) (.seq (.reg [1] [w 12 (.fieldAddr U10 [.r, .l] 1),w 13 (.load U4 12),w 14 (.call 73 [13]),m 11 14,w 15 (.extract 11 0),w 16 (.extract 11 1),w 4 (.asg 15),w 5 (.asg 16)]) (.seq (.seq (.reg [1, 4] [w 17 (.fieldAddr U10 [.l] 1),w 18 (.load .bool 17)]) (.cond (.t 18) (.reg [1, 4] [m 19 4,w 20 (.bin .add (.c .str [45]) 19),w 4 (.asg 20)]) .skip)) (.seq (.seq (.draw [1, 4] [⟨w 21 (.fieldAddr U10 [.r, .r, .l] 1), [23], [21], [], false, []⟩,⟨w 22 (.load U4 21), [23], [22], [0], false, []⟩,⟨w 23 (.call 53 [(.c U1 1)]), [21, 22], [23], [], false, []⟩,⟨w 24 (.call 51 [22, 23]), [], [24], [0, 1, 2], false, []⟩]) (.cond (.t 24) (.seq (.reg [4] [m 25 4,w 2 (.asg 25),w 3 (.asg (.c U1 0))]) .ret) .skip)) (.seq (.reg [1, 4] [w 27 (.fieldAddr U10 [.r, .r, .l] 1),w 28 (.load U4 27),w 29 (.call 73 [28]),m 26 29,w 30 (.extract 26 0),w 31 (.extract 26 1),w 6 (.asg 30),w 7 (.asg 31)]) (.seq (.reg [4, 6] [m 32 4,w 33 (.bin .add 32 (.c .str [47])),m 34 6,w 35 (.bin .add 33 34),w 2 (.asg 35),w 3 (.asg (.c U1 0))]) .ret)))))))
def d41 : FD := { nargs := 1, body := c41, res := [.t 2, .t 3] }
def c44 : AC := (.seq (.reg [0, 1] [w 2 (.box U4 0),w 3 (.box U4 1),w 4 (.alloc U10 (.pair .no (.pair (.pair (.own true 3 .no) .no) (.pair (.pair (.own true 3 .no) .no) .no)))),w 5 (.asg (.c U1 0))]) (.seq (.seq (.reg [2, 3, 4, 14, 17, 20] [w 6 (.load U4 2),w 7 (.call 75 [6]),w 8 (.un .not 7),m 9 8,⟨some 10, .load U4 3, some (9, false)⟩,⟨some 11, .call 75 [10], some (9, false)⟩,⟨some 12, .un .not 11, some (9, false)⟩,w 13 (.pick 9 (.c .bool true) 12)]) (.cond (.t 13) (.seq (.reg [4, 14, 17, 20] [w 14 (.build U10 []),⟨none, .store U10 4 14, none⟩,w 5 (.asg (.c U1 1))]) .ret) .skip)) (.seq (.seq (.reg [2, 3, 4, 14, 17, 20] [w 15 (.load U4 3),w 16 (.call 76 [15])]) (.cond (.t 16) (.seq (.reg [4, 14, 17, 20] [w 17 (.build U10 []),⟨none, .store U10 4 17, none⟩,w 5 (.asg (.c U1 6))]) .ret) .skip)) (.seq (.reg [2, 3, 4, 14, 17, 20] [w 18 (.load U4 2),w 19 (.load U4 3),w 20 (.call 77 [(.c .bool false), 18, 19]),⟨none, .store U10 4 20, none⟩,w 5 (.asg (.c U1 0))]) .ret))))
def d44 : FD := { nargs := 2, body := c44, res := [.cell 4 U10, .t 5] }
def c50 : AC := (.seq (.reg [0, 1] [w 2 (.box U4 0),w 3 (.box U4 1),w 4 (.alloc U4 (.pair (.own true 3 .no) .no))]) (.seq (.reg [2, 3, 4, 5, 11, 13] [w 8 (.load U4 2),w 9 (.load U4 3),w 10 (.call 82 [8, 9]),m 7 10,w 11 (.extract 7 0),w 12 (.extract 7 1),w 5 (.alloc U4 (.pair (.own true 3 .no) .no)),⟨none, .store U4 5 11, none⟩,w 6 (.asg 12)]) (.seq (.reg [4, 5, 11, 13] [w 13 (.load U4 5),⟨none, .store U4 4 13, none⟩]) .ret)))
def d50 : FD := { nargs := 2, body := c50, res := [.cell 4 U4] }
def c62 : AC := (.seq (.reg [0, 1, 2, 3] [w 8 (.asg (.c U1 0))]) (.seq (.seq (.reg [0, 1, 2, 3] [m 9 0,w 10 (.bin .lss 9 (.c U1 0)),m 11 10,⟨some 12, .mv 0, some (11, false)⟩,⟨some 13, .bin .gtr 12 (.c U1 400), some (11, false)⟩,w 14 (.pick 11 (.c .bool true) 13),m 15 14,⟨some 16, .mv 1, some (15, false)⟩,⟨some 17, .bin .lss 16 (.c U1 0), some (15, false)⟩,w 18 (.pick 15 (.c .bool true) 17),m 19 18,⟨some 20, .mv 1, some (19, false)⟩,⟨some 21, .mv 0, some (19, false)⟩,⟨some 22, .bin .gtr 20 21, some (19, false)⟩,w 23 (.pick 19 (.c .bool true) 22),m 24 23,⟨some 25, .mv 2, some (24, false)⟩,⟨some 26, .bin .lss 25 (.c U1 0), some (24, false)⟩,w 27 (.pick 24 (.c .bool true) 26),m 28 27,⟨some 29, .mv 2, some (28, false)⟩,⟨some 30, .mv 0, some (28, false)⟩,⟨some 31, .bin .gtr 29 30, some (28, false)⟩,w 32 (.pick 28 (.c .bool true) 31),m 33 32,⟨some 34, .mv 3, some (33, false)⟩,⟨some 35, .bin .lss 34 (.c U1 0), some (33, false)⟩,w 36 (.pick 33 (.c .bool true) 35),m 37 36,⟨some 38, .mv 3, some (37, false)⟩,⟨some 39, .mv 2, some (37, false)⟩,⟨some 40, .bin .gtr 38 39, some (37, false)⟩,w 41 (.pick 37 (.c .bool true) 40)]) (.cond (.t 41) (.seq (.reg [] [w 8 (.asg (.c U1 6))]) .ret) .skip)) (.seq (.reg [] [w 8 (.asg (.c U1 0))]) .ret)))
def d62 : FD := { nargs := 4, body := c62, res := [.t 8] }
def c63 : AC := (.seq (.reg [0, 1, 2, 3] [w 8 (.alloc U4 (.pair (.own true 3 .no) .no))]) (.seq (.reg [0, 1, 2, 3, 8, 19] [m 9 1,m 10 3,w 11 (.call 64 [9, 10]),m 12 0,m 13 1,w 14 (.bin .sub 12 13),m 15 2,m 16 3,w 17 (.bin .sub 15 16),w 18 (.call 64 [14, 17]),w 19 (.call 78 [11, 18]),⟨none, .store U4 8 19, none⟩]) .ret))
def d63 : FD := { nargs := 4, body := c63, res := [.cell 8 U4] }
def c73 : AC := (.seq (.reg [0] [w 1 (.box U4 0),w 2 (.asg (.c .str [])),w 3 (.asg (.c U1 0))]) (.seq (.seq (.reg [1] [w 8 (.load U4 1),w 9 (.call 86 [8]),w 10 (.un .not 9)]) (.cond (.t 10) (.seq (.reg [] [w 2 (.asg (.c .str [])),w 3 (.asg (.c U1 1))]) .ret) .skip)) (.seq (.reg [1] [w 4 (.asg (.c .str []))]) (.seq (.seq (.reg [1, 4] [w 5 (.asg (.c U1 0))]) (.block 0 (.loop [1, 4, 5] (.seq (.seq (.reg [1, 4, 5] [m 11 5,w 12 (.fieldAddr U4 [.l] 1),w 13 (.load U2 12),w 14 (.lenL 13),w 15 (.bin .lss 11 14)]) (.cond (.t 15) .skip (.exit 0))) (.seq (.block 1 (.seq (.reg [1, 4, 5] [w 18 (.fieldAddr U4 [.l] 1),w 19 (.load U2 18),m 20 5,w 21 (.indexAddr U1 19 20),w 22 (.load U1 21),w 6 (.asg 22)]) (.seq (.reg [1, 4, 5, 6] [w 7 (.asg (.c U1 0))]) (.block 2 (.loop [1, 4, 5, 6, 7] (.seq (.seq (.reg [1, 4, 5, 6, 7] [m 23 7,w 24 (.bin .lss 23 (.c U1 4))]) (.cond (.t 24) .skip (.exit 2))) (.seq (.block 3 (.seq (.reg [1, 4, 5, 6, 7] [m 27 6,w 28 (.bin .rem 27 (.c U1 10)),w 29 (.bin .add (.c U1 48) 28),w 30 (.convI .u8 29),w 31 (.buildSlice 5 U0 [30]),w 32 (.toStr 31),m 33 4,w 34 (.bin .add 32 33),w 4 (.asg 34)]) (.reg [1, 4, 5, 6, 7] [m 35 6,w 36 (.bin .quo 35 (.c U1 10)),w 6 (.asg 36)]))) (.reg [1, 4, 5, 6, 7] [m 25 7,w 26 (.bin .add 25 (.c U1 1)),w 7 (.asg 26)])))))))) (.reg [1, 4, 5] [m 16 5,w 17 (.bin .add 16 (.c U1 1)),w 5 (.asg 17)])))))) (.seq (.block 4 (.loop [4] (.seq (.seq (.reg [4] [m 37 4,w 38 (.lenS 37),w 39 (.bin .gtr 38 (.c U1 1)),m 40 39,⟨some 41, .mv 4, some (40, true)⟩,⟨some 42, .indexS 41 (.c U1 0), some (40, true)⟩,⟨some 43, .bin .eql 42 (.c U0 48), some (40, true)⟩,w 44 (.pick 40 43 (.c .bool false))]) (.cond (.t 44) .skip (.exit 4))) (.block 5 (.reg [4] [m 45 4,w 46 (.sliceS 45 (some (.c U1 1)) none),w 4 (.asg 46)]))))) (.seq (.seq (.reg [4] [m 47 4,w 48 (.bin .eql 47 (.c .str []))]) (.cond (.t 48) (.seq (.reg [] [w 2 (.asg (.c .str [48])),w 3 (.asg (.c U1 0))]) .ret) .skip)) (.seq (.reg [4] [m 49 4,w 2 (.asg 49),w 3 (.asg (.c U1 0))]) .ret)))))))
def d73 : FD := { nargs := 1, body := c73, res := [.t 2, .t 3] }
def c82 : AC := (.seq (.reg [0, 1] [w 2 (.box U4 0),w 3 (.box U4 1),w 4 (.alloc U4 (.pair (.own true 3 .no) .no)),w 5 (.asg (.c U1 0))]) (.seq (.seq (.reg [2, 3, 4, 14, 21] [w 6 (.load U4 2),w 7 (.call 75 [6]),w 8 (.un .not 7),m 9 8,⟨some 10, .load U4 3, some (9, false)⟩,⟨some 11, .call 75 [10], some (9, false)⟩,⟨some 12, .un .not 11, some (9, false)⟩,w 13 (.pick 9 (.c .bool true) 12)]) (.cond (.t 13) (.seq (.reg [4, 14, 21] [w 14 (.buildN U4 (.pair (.own true 3 .no) .no) []),⟨none, .store U4 4 14, none⟩,w 5 (.asg (.c U1 1))]) .ret) .skip)) (.seq (.reg [2, 3, 4, 14, 21] [w 15 (.fieldAddr U4 [.l] 2),w 16 (.load U2 15),w 17 (.fieldAddr U4 [.l] 3),w 18 (.load U2 17),w 19 (.call 107 [16, 18]),w 20 (.call 106 [19]),w 21 (.extract 20 0),w 22 (.extract 20 1),⟨none, .store U4 4 21, none⟩,w 5 (.asg 22)]) .ret)))
def d82 : FD := { nargs := 2, body := c82, res := [.cell 4 U4, .t 5] }
def c107 : AC := (.seq (.reg [0, 1, 14, 15] [w 4 (.asg (.nil 3 U1))]) (.seq (.seq (.reg [0, 1, 14, 15] [m 9 0,w 10 (.lenL 9),m 11 1,w 12 (.lenL 11),w 13 (.bin .lss 10 12)]) (.cond (.t 13) (.reg [0, 1, 14, 15] [m 14 1,m 15 0,w 0 (.asg 14),w 1 (.asg 15)]) .skip)) (.seq (.reg [0, 1, 14, 15] [m 16 0,w 17 (.lenL 16),w 18 (.bin .add 17 (.c U1 1)),w 19 (.mkSlice 3 U1 17592186044416 (.c U1 0) 18),w 5 (.asg 19)]) (.seq (.reg [0, 1, 5, 14, 15, 19, 44, 53] [w 6 (.asg (.c U1 0))]) (.seq (.seq (.reg [0, 1, 5, 6, 14, 15, 19, 44, 53] [m 20 0,w 21 (.lenL 20),w 22 (.mv (.c U1 0))]) (.block 0 (.loop [0, 1, 5, 6, 14, 15, 19, 20, 21, 22, 44, 53] (.seq (.reg [0, 1, 5, 6, 14, 15, 19, 20, 21, 22, 44, 53] [w 23 (.bin .lss 22 21)]) (.seq (.cond (.t 23) .skip (.exit 0)) (.seq (.block 1 (.seq (.reg [0, 1, 5, 6, 14, 15, 19, 20, 21, 22, 44, 53] [m 24 22,w 25 (.indexAddr U1 20 22),w 26 (.load U1 25),w 7 (.asg 24),w 8 (.asg 26)]) (.seq (.reg [0, 1, 5, 6, 7, 8, 14, 15, 19, 20, 21, 22, 44, 53] [m 27 6,m 28 8,w 29 (.bin .add 27 28),w 6 (.asg 29)]) (.seq (.seq (.reg [0, 1, 5, 6, 7, 14, 15, 19, 20, 21, 22, 44, 53] [m 30 7,m 31 1,w 32 (.lenL 31),w 33 (.bin .lss 30 32)]) (.cond (.t 33) (.reg [0, 1, 5, 6, 7, 14, 15, 19, 20, 21, 22, 44, 53] [m 34 6,m 35 1,m 36 7,w 37 (.indexAddr U1 35 36),w 38 (.load U1 37),w 39 (.bin .add 34 38),w 6 (.asg 39)]) .skip)) (.seq (.reg [0, 1, 5, 6, 14, 15, 19, 20, 21, 22, 44, 53] [m 40 5,m 41 6,w 42 (.bin .rem 41 (.c U1 10000)),w 43 (.buildSlice 3 U1 [42]),w 44 (.append 3 U1 17592186044416 40 43),w 5 (.asg 44)]) (.reg [0, 1, 5, 6, 14, 15, 19, 20, 21, 22, 44, 53] [m 45 6,w 46 (.bin .quo 45 (.c U1 10000)),w 6 (.asg 46)])))))) (.reg [0, 1, 5, 6, 14, 15, 19, 20, 21, 22, 44, 53] [w 47 (.bin .add 22 (.c U1 1)),m 22 47]))))))) (.seq (.seq (.reg [5, 6, 19, 44, 53] [m 48 6,w 49 (.bin .gtr 48 (.c U1 0))]) (.cond (.t 49) (.reg [5, 6, 19, 44, 53] [m 50 5,m 51 6,w 52 (.buildSlice 3 U1 [51]),w 53 (.append 3 U1 17592186044416 50 52),w 5 (.asg 53)]) .skip)) (.seq (.reg [5, 19, 44, 53] [m 54 5,w 4 (.asg 54)]) .ret)))))))
def d107 : FD := { nargs := 2, body := c107, res := [.t 4] }
def table : Table := fun f => match f with
 | 10 => some d10
 | 11 => some d11
 | 12 => some d12
 | 13 => some d13
 | 16 => some d16
 | 19 => some d19
 | 21 => some d21
 | 22 => some d22
 | 23 => some d23
 | 25 => some d25
 | 27 => some d27
 | 33 => some d33
 | 34 => some d34
 | 35 => some d35
 | 36 => some d36
 | 37 => some d37
 | 38 => some d38
 | 39 => some d39
 | 40 => some d40
 | 41 => some d41
 | 42 => some d42
 | 43 => some d43
 | 44 => some d44
 | 45 => some d45
 | 46 => some d46
 | 47 => some d47
 | 49 => some d49
 | 50 => some d50
 | 51 => some d51
 | 52 => some d52
 | 53 => some d53
 | 54 => some d54
 | 56 => some d56
 | 57 => some d57
 | 58 => some d58
 | 60 => some d60
 | 61 => some d61
 | 62 => some d62
 | 63 => some d63
 | 64 => some d64
 | 68 => some d68
 | 69 => some d69
 | 71 => some d71
 | 72 => some d72
 | 73 => some d73
 | 74 => some d74
 | 75 => some d75
 | 76 => some d76
 | 77 => some d77
 | 78 => some d78
 | 79 => some d79
 | 80 => some d80
 | 81 => some d81
 | 82 => some d82
 | 83 => some d83
 | 84 => some d84
 | 85 => some d85
 | 86 => some d86
 | 87 => some d87
 | 88 => some d88
 | 89 => some d89
 | 90 => some d90
 | 91 => some d91
 | 92 => some d92
 | 93 => some d93
 | 95 => some d95
 | 96 => some d96
 | 97 => some d97
 | 98 => some d98
 | 99 => some d99
 | 100 => some d100
 | 101 => some d101
 | 102 => some d102
 | 103 => some d103
 | 104 => some d104
 | 105 => some d105
 | 106 => some d106
 | 107 => some d107
 | 108 => some d108
 | 109 => some d109
 | 110 => some d110
 | 111 => some d111
 | 112 => some d112
 | 113 => some d113
 | 114 => some d114
 | 115 => some d115
 | 116 => some d116
 | 118 => some d118
 | 119 => some d119
 | _ => none
end Go.Fw.L51
