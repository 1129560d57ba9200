/- Printed by an own program for this claim: the machine's code of functions, or their typed forms with their equations; no conditions. -/
import Derived.Test.YtnobiophckdjfaaFwB1
set_option linter.unusedVariables false
set_option linter.unusedSimpArgs false
namespace Go.Fw.L51
open Go Go.Fw
abbrev U0 : Ty := (.int .u8)
abbrev V0 : Type := (List Int)
abbrev U1 : Ty := (.int .i64)
abbrev V1 : Type := (V0)
abbrev V2 : Type := (Int × Unit)
abbrev U2 : Ty := (.sl U1)
abbrev V3 : Type := (Int × Int × Int)
abbrev V4 : Type := (V0 × Unit)
abbrev V5 : Type := (Int × V2)
abbrev V6 : Type := (V4)
abbrev U3 : Ty := (.pair U0 .unit)
abbrev U4 : Ty := (.pair U1 .unit)
abbrev V7 : Type := (V0 × V0)
abbrev V8 : Type := (V4 × Int)
abbrev V9 : Type := (V4 × Unit)
abbrev V10 : Type := (V2 → Option Bool)
abbrev V11 : Type := (Int × V5)
abbrev U5 : Ty := (.pair U2 .unit)
abbrev V12 : Type := (Int × V11)
abbrev U6 : Ty := (.fn U4 .bool)
abbrev U7 : Ty := (.pair U0 U3)
abbrev U8 : Ty := (.pair U5 .unit)
abbrev V13 : Type := (V4 × V4 × Int)
abbrev V14 : Type := (V4 × V9)
abbrev V15 : Type := (Bool × V14)
abbrev U9 : Ty := (.pair U0 U7)
abbrev V16 : Type := (V15)
abbrev V17 : Type := (V15 × Int)
abbrev U10 : Ty := (.pair U0 U9)
abbrev U11 : Ty := (.pair U5 U8)
abbrev U12 : Ty := (.pair .bool U11)
instance (n : Nat) : OfNat Od n := ⟨.t n⟩
abbrev w (d : Nat) (o : AOp) : AI := { dst := some d, op := o }
abbrev m (d : Nat) (k : Nat) : AI := { dst := some d, op := .mv (.t k) }
def c111_0 : AC := .out [0, 2] (.reg [0] [w 2 (.alloc U5 (.pair (.own true 3 .no) .no)),w 3 (.asg (.c U1 0))])
def c111_1 : AC := .out [0, 2, 6] (.reg [0, 2] [m 5 0,w 6 (.bin .lss 5 (.c U1 0))])
def c111_2 : AC := .out [2, 3] (.reg [2] [w 7 (.buildN U5 (.pair (.own true 3 .no) .no) []),⟨none, .store U5 2 7, none⟩,w 3 (.asg (.c U1 6))])
def c111_3 : AC := .out [0, 2, 3] (.cond (.t 6) (.seq c111_2 .ret) .skip)
def c111_4 : AC := .out [0, 2, 4] (.reg [0, 2] [w 4 (.asg (.nil 3 U1))])
def c111_5 : AC := .out [0, 2, 4, 9] (.reg [0, 2, 4] [m 8 0,w 9 (.bin .gtr 8 (.c U1 0))])
def c111_6 : AC := .out [0, 2, 4] (.cond (.t 9) .skip (.exit 0))
def c111_9 : AC := (.seq (.out [0, 2, 4] (.reg [0, 2, 4] [m 10 4,m 11 0,w 12 (.bin .rem 11 (.c U1 10000)),w 13 (.buildSlice 3 U1 [12]),w 14 (.append 3 U1 17592186044416 10 13),w 4 (.asg 14)])) (.out [0, 2, 4] (.reg [0, 2, 4] [m 15 0,w 16 (.bin .quo 15 (.c U1 10000)),w 0 (.asg 16)])))
def c111_10 : AC := .out [0, 2, 4] (.block 1 c111_9)
def c111_11 : AC := (.seq (.seq c111_5 c111_6) c111_10)
def c111_12 : AC := .out [2, 4] (.loop [0, 2, 4] c111_11)
def c111_13 : AC := .out [2, 4] (.block 0 c111_12)
def c111_14 : AC := .out [2, 3] (.reg [2, 4] [m 17 4,w 18 (.build U5 [([.l], 17)]),⟨none, .store U5 2 18, none⟩,w 3 (.asg (.c U1 0))])
def c111_15 : AC := (.seq c111_0 (.seq (.seq c111_1 c111_3) (.seq c111_4 (.seq c111_13 (.seq c111_14 .ret)))))
def c111 : AC := c111_15
def d111 : FD := { nargs := 1, body := c111, res := [.cell 2 U5, .t 3] }
def c85_3 : AC := (.seq (.out [0, 2] (.reg [0] [w 2 (.alloc U5 (.pair (.own true 3 .no) .no))])) (.seq (.out [2, 3] (.reg [0, 2] [m 6 0,w 7 (.call 111 [6]),m 5 7,w 8 (.extract 5 0),w 9 (.extract 5 1),w 3 (.alloc U5 (.pair (.own true 3 .no) .no)),⟨none, .store U5 3 8, none⟩,w 4 (.asg 9)])) (.seq (.out [2] (.reg [2, 3] [w 10 (.load U5 3),⟨none, .store U5 2 10, none⟩])) .ret)))
def c85 : AC := c85_3
def d85 : FD := { nargs := 1, body := c85, res := [.cell 2 U5] }
def c53_2 : AC := (.seq (.out [0, 2] (.reg [0] [w 2 (.alloc U5 (.pair (.own true 3 .no) .no))])) (.seq (.out [2] (.reg [0, 2] [m 3 0,w 4 (.mm true 3 (.c U1 0)),w 5 (.call 85 [4]),⟨none, .store U5 2 5, none⟩])) .ret))
def c53 : AC := c53_2
def d53 : FD := { nargs := 1, body := c53, res := [.cell 2 U5] }
def c86_2 : AC := .out [1, 3, 22] (.reg [1, 3] [m 8 3,w 9 (.bin .gtr 8 (.c U1 200)),m 10 9,⟨some 11, .mv 3, some (10, false)⟩,⟨some 12, .bin .gtr 11 (.c U1 0), some (10, false)⟩,⟨some 13, .mv 12, some (10, false)⟩,⟨some 14, .fieldAddr U5 [.l] 1, some (13, true)⟩,⟨some 15, .load U2 14, some (13, true)⟩,⟨some 16, .mv 3, some (13, true)⟩,⟨some 17, .bin .sub 16 (.c U1 1), some (13, true)⟩,⟨some 18, .indexAddr U1 15 17, some (13, true)⟩,⟨some 19, .load U1 18, some (13, true)⟩,⟨some 20, .bin .eql 19 (.c U1 0), some (13, true)⟩,⟨some 21, .pick 13 20 (.c .bool false), some (10, false)⟩,w 22 (.pick 10 (.c .bool true) 21)])
def c86_3 : AC := .out [2] (.reg [] [w 2 (.asg (.c .bool false))])
def c86_4 : AC := .out [1, 2, 3] (.cond (.t 22) (.seq c86_3 .ret) .skip)
def c86_5 : AC := .out [1, 3, 4] (.reg [1, 3] [w 4 (.asg (.c U1 0))])
def c86_6 : AC := .out [1, 3, 4, 25] (.reg [1, 3, 4] [m 23 4,m 24 3,w 25 (.bin .lss 23 24)])
def c86_7 : AC := .out [1, 3, 4] (.cond (.t 25) .skip (.exit 0))
def c86_8 : AC := .out [1, 3, 4, 41] (.reg [1, 3, 4] [w 28 (.fieldAddr U5 [.l] 1),w 29 (.load U2 28),m 30 4,w 31 (.indexAddr U1 29 30),w 32 (.load U1 31),w 33 (.bin .lss 32 (.c U1 0)),m 34 33,⟨some 35, .fieldAddr U5 [.l] 1, some (34, false)⟩,⟨some 36, .load U2 35, some (34, false)⟩,⟨some 37, .mv 4, some (34, false)⟩,⟨some 38, .indexAddr U1 36 37, some (34, false)⟩,⟨some 39, .load U1 38, some (34, false)⟩,⟨some 40, .bin .geq 39 (.c U1 10000), some (34, false)⟩,w 41 (.pick 34 (.c .bool true) 40)])
def c86_9 : AC := .out [2] (.reg [] [w 2 (.asg (.c .bool false))])
def c86_10 : AC := .out [1, 2, 3, 4] (.cond (.t 41) (.seq c86_9 .ret) .skip)
def c86_11 : AC := .out [1, 2, 3, 4] (.block 1 (.seq c86_8 c86_10))
def c86_12 : AC := .out [1, 3, 4] (.reg [1, 3, 4] [m 26 4,w 27 (.bin .add 26 (.c U1 1)),w 4 (.asg 27)])
def c86_13 : AC := (.seq (.seq c86_6 c86_7) (.seq c86_11 c86_12))
def c86_14 : AC := .out [2] (.loop [1, 3, 4] c86_13)
def c86_15 : AC := .out [2] (.block 0 c86_14)
def c86_16 : AC := .out [2] (.reg [] [w 2 (.asg (.c .bool true))])
def c86_17 : AC := (.seq (.out [1] (.reg [0] [w 1 (.box U5 0),w 2 (.asg (.c .bool false))])) (.seq (.out [1, 3] (.reg [1] [w 5 (.fieldAddr U5 [.l] 1),w 6 (.load U2 5),w 7 (.lenL 6),w 3 (.asg 7)])) (.seq (.seq c86_2 c86_4) (.seq (.seq c86_5 c86_15) (.seq c86_16 .ret)))))
def c86 : AC := c86_17
def d86 : FD := { nargs := 1, body := c86, res := [.t 2] }
def c108_2 : AC := (.seq (.out [0] (.reg [0] [w 2 (.asg (.c .bool false))])) (.seq (.out [2] (.reg [0] [m 3 0,w 4 (.lenL 3),w 5 (.bin .eql 4 (.c U1 0)),m 6 5,⟨some 7, .mv 0, some (6, false)⟩,⟨some 8, .indexAddr U1 7 (.c U1 0), some (6, false)⟩,⟨some 9, .load U1 8, some (6, false)⟩,⟨some 10, .bin .rem 9 (.c U1 2), some (6, false)⟩,⟨some 11, .bin .eql 10 (.c U1 0), some (6, false)⟩,w 12 (.pick 6 (.c .bool true) 11),w 2 (.asg 12)])) .ret))
def c108 : AC := c108_2
def d108 : FD := { nargs := 1, body := c108, res := [.t 2] }
def c113_0 : AC := .out [0] (.reg [0] [w 2 (.asg (.nil 3 U1))])
def c113_1 : AC := .out [0, 14] (.reg [0] [m 3 0,w 4 (.lenL 3),w 5 (.bin .gtr 4 (.c U1 0)),m 6 5,⟨some 7, .mv 0, some (6, true)⟩,⟨some 8, .mv 0, some (6, true)⟩,⟨some 9, .lenL 8, some (6, true)⟩,⟨some 10, .bin .sub 9 (.c U1 1), some (6, true)⟩,⟨some 11, .indexAddr U1 7 10, some (6, true)⟩,⟨some 12, .load U1 11, some (6, true)⟩,⟨some 13, .bin .eql 12 (.c U1 0), some (6, true)⟩,w 14 (.pick 6 13 (.c .bool false))])
def c113_2 : AC := .out [0] (.cond (.t 14) .skip (.exit 0))
def c113_3 : AC := .out [0] (.reg [0] [m 15 0,m 16 0,w 17 (.lenL 16),w 18 (.bin .sub 17 (.c U1 1)),w 19 (.sliceL U1 15 none (some 18) none),w 0 (.asg 19)])
def c113_4 : AC := .out [0] (.block 1 c113_3)
def c113_5 : AC := (.seq (.seq c113_1 c113_2) c113_4)
def c113_6 : AC := .out [0] (.loop [0] c113_5)
def c113_7 : AC := .out [0] (.block 0 c113_6)
def c113_8 : AC := .out [2] (.reg [0] [m 20 0,w 2 (.asg 20)])
def c113_9 : AC := (.seq c113_0 (.seq c113_7 (.seq c113_8 .ret)))
def c113 : AC := c113_9
def d113 : FD := { nargs := 1, body := c113, res := [.t 2] }
def c109_3 : AC := .out [0, 3, 4, 5] (.reg [0, 3, 4] [m 10 0,w 11 (.lenL 10),w 12 (.bin .sub 11 (.c U1 1)),w 5 (.asg 12)])
def c109_4 : AC := .out [0, 3, 4, 5, 14] (.reg [0, 3, 4, 5] [m 13 5,w 14 (.bin .geq 13 (.c U1 0))])
def c109_5 : AC := .out [0, 3, 4, 5] (.cond (.t 14) .skip (.exit 0))
def c109_9 : AC := (.seq (.out [0, 3, 5, 6] (.reg [0, 3, 4, 5] [m 17 4,w 18 (.bin .mul 17 (.c U1 10000)),m 19 0,m 20 5,w 21 (.indexAddr U1 19 20),w 22 (.load U1 21),w 23 (.bin .add 18 22),w 6 (.asg 23)])) (.seq (.out [0, 3, 5, 6] (.reg [0, 3, 5, 6] [m 24 3,m 25 5,m 26 6,w 27 (.bin .quo 26 (.c U1 2)),w 28 (.indexAddr U1 24 25),⟨none, .store U1 28 27, none⟩])) (.out [0, 3, 4, 5] (.reg [0, 3, 5, 6] [m 29 6,w 30 (.bin .rem 29 (.c U1 2)),w 4 (.asg 30)]))))
def c109_10 : AC := .out [0, 3, 4, 5] (.block 1 c109_9)
def c109_11 : AC := .out [0, 3, 4, 5] (.reg [0, 3, 4, 5] [m 15 5,w 16 (.bin .sub 15 (.c U1 1)),w 5 (.asg 16)])
def c109_12 : AC := (.seq (.seq c109_4 c109_5) (.seq c109_10 c109_11))
def c109_13 : AC := .out [3] (.loop [0, 3, 4, 5] c109_12)
def c109_14 : AC := .out [3] (.block 0 c109_13)
def c109_15 : AC := .out [2] (.reg [3] [m 31 3,w 32 (.call 113 [31]),w 2 (.asg 32)])
def c109_16 : AC := (.seq (.out [0] (.reg [0] [w 2 (.asg (.nil 3 U1))])) (.seq (.out [0, 3] (.reg [0] [m 7 0,w 8 (.lenL 7),w 9 (.mkSlice 3 U1 17592186044416 8 8),w 3 (.asg 9)])) (.seq (.out [0, 3, 4] (.reg [0, 3] [w 4 (.asg (.c U1 0))])) (.seq (.seq c109_3 c109_14) (.seq c109_15 .ret)))))
def c109 : AC := c109_16
def d109 : FD := { nargs := 1, body := c109, res := [.t 2] }
def c90_0 : AC := .out [0, 1] (.reg [0, 1] [w 4 (.asg (.c U1 0))])
def c90_1 : AC := .out [0, 1, 10] (.reg [0, 1] [m 6 0,w 7 (.lenL 6),m 8 1,w 9 (.lenL 8),w 10 (.bin .lss 7 9)])
def c90_2 : AC := .out [4] (.reg [] [w 4 (.asg (.c U1 (-1)))])
def c90_3 : AC := .out [0, 1, 4] (.cond (.t 10) (.seq c90_2 .ret) .skip)
def c90_4 : AC := .out [0, 1, 15] (.reg [0, 1] [m 11 0,w 12 (.lenL 11),m 13 1,w 14 (.lenL 13),w 15 (.bin .gtr 12 14)])
def c90_5 : AC := .out [4] (.reg [] [w 4 (.asg (.c U1 1))])
def c90_6 : AC := .out [0, 1, 4] (.cond (.t 15) (.seq c90_5 .ret) .skip)
def c90_7 : AC := .out [0, 1, 5] (.reg [0, 1] [m 16 0,w 17 (.lenL 16),w 18 (.bin .sub 17 (.c U1 1)),w 5 (.asg 18)])
def c90_8 : AC := .out [0, 1, 5, 20] (.reg [0, 1, 5] [m 19 5,w 20 (.bin .geq 19 (.c U1 0))])
def c90_9 : AC := .out [0, 1, 5] (.cond (.t 20) .skip (.exit 0))
def c90_10 : AC := .out [0, 1, 5, 31] (.draw [0, 1, 5] [⟨m 23 0, [24, 27, 28, 29, 30], [23], [], false, []⟩,⟨m 24 5, [23, 27, 28, 29, 30], [24], [], false, []⟩,⟨w 25 (.indexAddr U1 23 24), [27, 28, 29, 30], [25], [0, 1], false, []⟩,⟨w 26 (.load U1 25), [27, 28, 29, 30], [26], [0, 1, 2], false, []⟩,⟨m 27 1, [23, 24, 25, 26, 28], [27], [], false, []⟩,⟨m 28 5, [23, 24, 25, 26, 27], [28], [], false, []⟩,⟨w 29 (.indexAddr U1 27 28), [23, 24, 25, 26], [29], [4, 5], false, []⟩,⟨w 30 (.load U1 29), [23, 24, 25, 26], [30], [4, 5, 6], false, []⟩,⟨w 31 (.bin .lss 26 30), [], [31], [0, 1, 2, 3, 4, 5, 6, 7], false, []⟩])
def c90_11 : AC := .out [4] (.reg [] [w 4 (.asg (.c U1 (-1)))])
def c90_12 : AC := .out [0, 1, 4, 5] (.cond (.t 31) (.seq c90_11 .ret) .skip)
def c90_13 : AC := .out [0, 1, 5, 40] (.draw [0, 1, 5] [⟨m 32 0, [33, 36, 37, 38, 39], [32], [], false, []⟩,⟨m 33 5, [32, 36, 37, 38, 39], [33], [], false, []⟩,⟨w 34 (.indexAddr U1 32 33), [36, 37, 38, 39], [34], [0, 1], false, []⟩,⟨w 35 (.load U1 34), [36, 37, 38, 39], [35], [0, 1, 2], false, []⟩,⟨m 36 1, [32, 33, 34, 35, 37], [36], [], false, []⟩,⟨m 37 5, [32, 33, 34, 35, 36], [37], [], false, []⟩,⟨w 38 (.indexAddr U1 36 37), [32, 33, 34, 35], [38], [4, 5], false, []⟩,⟨w 39 (.load U1 38), [32, 33, 34, 35], [39], [4, 5, 6], false, []⟩,⟨w 40 (.bin .gtr 35 39), [], [40], [0, 1, 2, 3, 4, 5, 6, 7], false, []⟩])
def c90_14 : AC := .out [4] (.reg [] [w 4 (.asg (.c U1 1))])
def c90_15 : AC := .out [0, 1, 4, 5] (.cond (.t 40) (.seq c90_14 .ret) .skip)
def c90_16 : AC := .out [0, 1, 4, 5] (.block 1 (.seq (.seq c90_10 c90_12) (.seq c90_13 c90_15)))
def c90_17 : AC := .out [0, 1, 5] (.reg [0, 1, 5] [m 21 5,w 22 (.bin .sub 21 (.c U1 1)),w 5 (.asg 22)])
def c90_18 : AC := (.seq (.seq c90_8 c90_9) (.seq c90_16 c90_17))
def c90_19 : AC := .out [4] (.loop [0, 1, 5] c90_18)
def c90_20 : AC := .out [4] (.block 0 c90_19)
def c90_21 : AC := .out [4] (.reg [] [w 4 (.asg (.c U1 0))])
def c90_22 : AC := (.seq c90_0 (.seq (.seq c90_1 c90_3) (.seq (.seq c90_4 c90_6) (.seq (.seq c90_7 c90_20) (.seq c90_21 .ret)))))
def c90 : AC := c90_22
def d90 : FD := { nargs := 2, body := c90, res := [.t 4] }
def c112_0 : AC := .out [0, 1] (.reg [0, 1] [w 4 (.asg (.c U1 0))])
def c112_1 : AC := .out [0, 1, 8] (.reg [0, 1] [m 5 1,m 6 0,w 7 (.lenL 6),w 8 (.bin .lss 5 7)])
def c112_2 : AC := .out [4] (.reg [0, 1] [m 9 0,m 10 1,w 11 (.indexAddr U1 9 10),w 12 (.load U1 11),w 4 (.asg 12)])
def c112_3 : AC := .out [4] (.cond (.t 8) (.seq c112_2 .ret) .skip)
def c112_4 : AC := .out [4] (.reg [] [w 4 (.asg (.c U1 0))])
def c112_5 : AC := (.seq c112_0 (.seq (.seq c112_1 c112_3) (.seq c112_4 .ret)))
def c112 : AC := c112_5
def d112 : FD := { nargs := 2, body := c112, res := [.t 4] }
def c91_3 : AC := .out [0, 1, 5, 6, 7] (.reg [0, 1, 5, 6] [w 7 (.asg (.c U1 0))])
def c91_4 : AC := .out [0, 1, 5, 6, 7, 12] (.reg [0, 1, 5, 6, 7] [m 9 7,m 10 0,w 11 (.lenL 10),w 12 (.bin .lss 9 11)])
def c91_5 : AC := .out [0, 1, 5, 6, 7] (.cond (.t 12) .skip (.exit 0))
def c91_8 : AC := .out [0, 1, 5, 6, 7, 8, 26] (.reg [0, 1, 5, 6, 7, 8] [m 25 8,w 26 (.bin .lss 25 (.c U1 0))])
def c91_11 : AC := (.seq (.out [0, 1, 5, 7, 8] (.reg [0, 1, 5, 7, 8] [m 27 8,w 28 (.bin .add 27 (.c U1 10000)),w 8 (.asg 28)])) (.out [0, 1, 5, 6, 7, 8] (.reg [0, 1, 5, 7, 8] [w 6 (.asg (.c U1 1))])))
def c91_12 : AC := .out [0, 1, 5, 6, 7, 8] (.cond (.t 26) c91_11 .skip)
def c91_13 : AC := (.seq c91_8 c91_12)
def c91_14 : AC := .out [0, 1, 5, 6, 7] (.reg [0, 1, 5, 6, 7, 8] [m 29 5,m 30 8,w 31 (.buildSlice 3 U1 [30]),w 32 (.append 3 U1 17592186044416 29 31),w 5 (.asg 32)])
def c91_15 : AC := (.seq (.out [0, 1, 5, 7, 8] (.draw [0, 1, 5, 6, 7] [⟨m 15 0, [16, 19, 20, 21, 23], [15], [], false, []⟩,⟨m 16 7, [15, 19, 20, 21, 23], [16], [], false, []⟩,⟨w 17 (.indexAddr U1 15 16), [19, 20, 21, 23], [17], [0, 1], false, []⟩,⟨w 18 (.load U1 17), [19, 20, 21, 23], [18], [0, 1, 2], false, []⟩,⟨m 19 1, [15, 16, 17, 18, 20, 23], [19], [], false, []⟩,⟨m 20 7, [15, 16, 17, 18, 19, 23], [20], [], false, []⟩,⟨w 21 (.call 112 [19, 20]), [15, 16, 17, 18, 23], [21], [4, 5], false, []⟩,⟨w 22 (.bin .sub 18 21), [23], [22], [0, 1, 2, 3, 4, 5, 6], false, []⟩,⟨m 23 6, [15, 16, 17, 18, 19, 20, 21, 22], [23], [], false, []⟩,⟨w 24 (.bin .sub 22 23), [], [24], [0, 1, 2, 3, 4, 5, 6, 7, 8], false, []⟩,⟨w 8 (.asg 24), [], [8], [0, 1, 2, 3, 4, 5, 6, 7, 8, 9], false, []⟩])) (.seq (.out [0, 1, 5, 6, 7, 8] (.reg [0, 1, 5, 7, 8] [w 6 (.asg (.c U1 0))])) (.seq c91_13 c91_14)))
def c91_16 : AC := .out [0, 1, 5, 6, 7] (.block 1 c91_15)
def c91_17 : AC := .out [0, 1, 5, 6, 7] (.reg [0, 1, 5, 6, 7] [m 13 7,w 14 (.bin .add 13 (.c U1 1)),w 7 (.asg 14)])
def c91_18 : AC := (.seq (.seq c91_4 c91_5) (.seq c91_16 c91_17))
def c91_19 : AC := .out [5] (.loop [0, 1, 5, 6, 7] c91_18)
def c91_20 : AC := .out [5] (.block 0 c91_19)
def c91_21 : AC := .out [4] (.reg [5] [m 33 5,w 34 (.call 113 [33]),w 4 (.asg 34)])
def c91_22 : AC := (.seq (.out [0, 1] (.reg [0, 1] [w 4 (.asg (.nil 3 U1))])) (.seq (.out [0, 1, 5] (.reg [0, 1] [w 5 (.asg (.nil 3 U1))])) (.seq (.out [0, 1, 5, 6] (.reg [0, 1, 5] [w 6 (.asg (.c U1 0))])) (.seq (.seq c91_3 c91_20) (.seq c91_21 .ret)))))
def c91 : AC := c91_22
def d91 : FD := { nargs := 2, body := c91, res := [.t 4] }
def c89_3 : AC := .out [0, 1, 5, 6, 7] (.reg [0, 1, 5, 6] [w 7 (.asg (.c U1 0))])
def c89_4 : AC := .out [0, 1, 5, 6, 7, 18] (.reg [0, 1, 5, 6, 7] [m 9 7,m 10 0,w 11 (.lenL 10),w 12 (.bin .lss 9 11),m 13 12,⟨some 14, .mv 7, some (13, false)⟩,⟨some 15, .mv 1, some (13, false)⟩,⟨some 16, .lenL 15, some (13, false)⟩,⟨some 17, .bin .lss 14 16, some (13, false)⟩,w 18 (.pick 13 (.c .bool true) 17)])
def c89_5 : AC := .out [0, 1, 5, 6, 7] (.cond (.t 18) .skip (.exit 0))
def c89_9 : AC := (.seq (.out [0, 1, 5, 7, 8] (.reg [0, 1, 5, 6, 7] [m 21 0,m 22 7,w 23 (.call 112 [21, 22]),m 24 1,m 25 7,w 26 (.call 112 [24, 25]),w 27 (.bin .add 23 26),m 28 6,w 29 (.bin .add 27 28),w 8 (.asg 29)])) (.seq (.out [0, 1, 5, 7, 8] (.reg [0, 1, 5, 7, 8] [m 30 5,m 31 8,w 32 (.bin .rem 31 (.c U1 10000)),w 33 (.buildSlice 3 U1 [32]),w 34 (.append 3 U1 17592186044416 30 33),w 5 (.asg 34)])) (.out [0, 1, 5, 6, 7] (.reg [0, 1, 5, 7, 8] [m 35 8,w 36 (.bin .quo 35 (.c U1 10000)),w 6 (.asg 36)]))))
def c89_10 : AC := .out [0, 1, 5, 6, 7] (.block 1 c89_9)
def c89_11 : AC := .out [0, 1, 5, 6, 7] (.reg [0, 1, 5, 6, 7] [m 19 7,w 20 (.bin .add 19 (.c U1 1)),w 7 (.asg 20)])
def c89_12 : AC := (.seq (.seq c89_4 c89_5) (.seq c89_10 c89_11))
def c89_13 : AC := .out [5, 6] (.loop [0, 1, 5, 6, 7] c89_12)
def c89_14 : AC := .out [5, 6] (.block 0 c89_13)
def c89_15 : AC := .out [4] (.reg [5, 6] [m 37 5,m 38 6,w 39 (.buildSlice 3 U1 [38]),w 40 (.append 3 U1 17592186044416 37 39),w 41 (.call 113 [40]),w 4 (.asg 41)])
def c89_16 : AC := (.seq (.out [0, 1] (.reg [0, 1] [w 4 (.asg (.nil 3 U1))])) (.seq (.out [0, 1, 5] (.reg [0, 1] [w 5 (.asg (.nil 3 U1))])) (.seq (.out [0, 1, 5, 6] (.reg [0, 1, 5] [w 6 (.asg (.c U1 0))])) (.seq (.seq c89_3 c89_14) (.seq c89_15 .ret)))))
def c89 : AC := c89_16
def d89 : FD := { nargs := 2, body := c89, res := [.t 4] }
def c83_0 : AC := .out [2, 3, 4] (.reg [0, 1] [w 2 (.box U5 0),w 3 (.box U5 1),w 4 (.alloc U5 (.pair (.own true 3 .no) .no)),w 5 (.asg (.c U1 0))])
def c83_1 : AC := .out [2, 3, 4, 18] (.reg [2, 3, 4] [w 11 (.load U5 2),w 12 (.call 86 [11]),w 13 (.un .not 12),m 14 13,⟨some 15, .load U5 3, some (14, false)⟩,⟨some 16, .call 86 [15], some (14, false)⟩,⟨some 17, .un .not 16, some (14, false)⟩,w 18 (.pick 14 (.c .bool true) 17)])
def c83_2 : AC := .out [4, 5] (.reg [4] [w 19 (.buildN U5 (.pair (.own true 3 .no) .no) []),⟨none, .store U5 4 19, none⟩,w 5 (.asg (.c U1 1))])
def c83_3 : AC := .out [2, 3, 4, 5] (.cond (.t 18) (.seq c83_2 .ret) .skip)
def c83_4 : AC := .out [4, 6, 7] (.draw [2, 3, 4] [⟨w 20 (.fieldAddr U5 [.l] 2), [22, 23], [20], [], false, []⟩,⟨w 21 (.load U2 20), [22, 23], [21], [0], false, []⟩,⟨w 22 (.fieldAddr U5 [.l] 3), [6, 20, 21], [22], [], false, []⟩,⟨w 23 (.load U2 22), [6, 20, 21], [23], [2], false, []⟩,⟨w 6 (.asg 21), [22, 23], [6], [0, 1], false, []⟩,⟨w 7 (.asg 23), [], [7], [0, 1, 2, 3, 4], true, []⟩])
def c83_5 : AC := .out [4, 6, 7, 26] (.reg [4, 6, 7] [m 24 6,w 25 (.lenL 24),w 26 (.bin .eql 25 (.c U1 0))])
def c83_6 : AC := .out [4, 5] (.reg [4, 7] [w 27 (.buildSlice 3 U1 []),m 28 7,w 29 (.append 3 U1 17592186044416 27 28),w 30 (.build U5 [([.l], 29)]),⟨none, .store U5 4 30, none⟩,w 5 (.asg (.c U1 0))])
def c83_7 : AC := .out [4, 5, 6, 7] (.cond (.t 26) (.seq c83_6 .ret) .skip)
def c83_8 : AC := .out [4, 6, 7, 8] (.reg [4, 6, 7] [w 8 (.asg (.c U1 0))])
def c83_9 : AC := .out [4, 6, 7, 8, 33] (.reg [4, 6, 7, 8] [m 31 7,w 32 (.lenL 31),w 33 (.bin .gtr 32 (.c U1 0))])
def c83_10 : AC := .out [4, 6, 7, 8] (.cond (.t 33) .skip (.exit 0))
def c83_11 : AC := .out [4, 6, 7, 8, 37] (.reg [4, 6, 7, 8] [m 38 6,w 39 (.call 108 [38]),m 40 39,⟨some 41, .mv 7, some (40, true)⟩,⟨some 42, .call 108 [41], some (40, true)⟩,w 43 (.pick 40 42 (.c .bool false)),w 37 (.asg 43)])
def c83_14 : AC := (.seq (.out [4, 6, 7, 8] (.reg [4, 6, 7, 8] [m 44 6,w 45 (.call 109 [44]),m 46 7,w 47 (.call 109 [46]),w 6 (.asg 45),w 7 (.asg 47)])) (.out [4, 6, 7, 8] (.reg [4, 6, 7, 8] [m 48 8,w 49 (.bin .add 48 (.c U1 1)),w 8 (.asg 49)])))
def c83_15 : AC := .out [4, 6, 7, 8, 50] (.reg [4, 6, 7, 8] [m 51 6,w 52 (.call 108 [51]),w 50 (.asg 52)])
def c83_16 : AC := .out [4, 6, 7, 8] (.reg [4, 6, 7, 8] [m 53 6,w 54 (.call 109 [53]),w 6 (.asg 54)])
def c83_17 : AC := .out [4, 6, 7, 8, 55] (.reg [4, 6, 7, 8] [m 56 7,w 57 (.call 108 [56]),w 55 (.asg 57)])
def c83_18 : AC := .out [4, 6, 7, 8] (.reg [4, 6, 7, 8] [m 58 7,w 59 (.call 109 [58]),w 7 (.asg 59)])
def c83_19 : AC := .out [4, 6, 7, 8, 60] (.reg [4, 6, 7, 8] [m 61 6,m 62 7,w 63 (.call 90 [61, 62]),w 64 (.bin .gtr 63 (.c U1 0)),w 60 (.asg 64)])
def c83_20 : AC := .out [4, 6, 7, 8] (.reg [4, 6, 7, 8] [m 65 7,m 66 6,m 67 7,w 68 (.call 91 [66, 67]),w 6 (.asg 65),w 7 (.asg 68)])
def c83_21 : AC := .out [4, 6, 7, 8] (.reg [4, 6, 7, 8] [m 34 7,m 35 6,w 36 (.call 91 [34, 35]),w 7 (.asg 36)])
def c83_22 : AC := .out [4, 6, 7, 8] (.cond (.t 60) c83_20 c83_21)
def c83_23 : AC := .out [4, 6, 7, 8] (.cond (.t 55) c83_18 (.seq c83_19 c83_22))
def c83_24 : AC := .out [4, 6, 7, 8] (.cond (.t 50) c83_16 (.seq c83_17 c83_23))
def c83_25 : AC := .out [4, 6, 7, 8] (.cond (.t 37) c83_14 (.seq c83_15 c83_24))
def c83_26 : AC := .out [4, 6, 7, 8] (.block 2 (.seq c83_11 c83_25))
def c83_27 : AC := .out [4, 6, 7, 8] (.block 1 c83_26)
def c83_28 : AC := (.seq (.seq c83_9 c83_10) c83_27)
def c83_29 : AC := .out [4, 6, 8] (.loop [4, 6, 7, 8] c83_28)
def c83_30 : AC := .out [4, 6, 8] (.block 0 c83_29)
def c83_31 : AC := .out [4, 8, 9] (.reg [4, 6, 8] [w 69 (.buildSlice 3 U1 []),m 70 6,w 71 (.append 3 U1 17592186044416 69 70),w 9 (.cp 71)])
def c83_32 : AC := .out [4, 8, 9, 10] (.reg [4, 8, 9] [w 10 (.asg (.c U1 0))])
def c83_33 : AC := .out [4, 8, 9, 10, 74] (.reg [4, 8, 9, 10] [m 72 10,m 73 8,w 74 (.bin .lss 72 73)])
def c83_34 : AC := .out [4, 8, 9, 10] (.cond (.t 74) .skip (.exit 3))
def c83_35 : AC := .out [4, 8, 9, 10] (.reg [4, 8, 9, 10] [m 77 9,m 78 9,w 79 (.call 89 [77, 78]),w 9 (.cp 79)])
def c83_36 : AC := .out [4, 8, 9, 10] (.block 4 c83_35)
def c83_37 : AC := .out [4, 8, 9, 10] (.reg [4, 8, 9, 10] [m 75 10,w 76 (.bin .add 75 (.c U1 1)),w 10 (.asg 76)])
def c83_38 : AC := (.seq (.seq c83_33 c83_34) (.seq c83_36 c83_37))
def c83_39 : AC := .out [4, 9] (.loop [4, 8, 9, 10] c83_38)
def c83_40 : AC := .out [4, 9] (.block 3 c83_39)
def c83_41 : AC := .out [4, 5] (.reg [4, 9] [m 80 9,w 81 (.build U5 [([.l], 80)]),⟨none, .store U5 4 81, none⟩,w 5 (.asg (.c U1 0))])
def c83_42 : AC := (.seq c83_0 (.seq (.seq c83_1 c83_3) (.seq c83_4 (.seq (.seq c83_5 c83_7) (.seq c83_8 (.seq c83_30 (.seq c83_31 (.seq (.seq c83_32 c83_40) (.seq c83_41 .ret)))))))))
def c83 : AC := c83_42
def d83 : FD := { nargs := 2, body := c83, res := [.cell 4 U5, .t 5] }
def c88_2 : AC := .out [0, 1, 5, 6] (.reg [0, 1, 5] [w 6 (.asg (.c U1 0))])
def c88_3 : AC := .out [0, 1, 5, 6, 20] (.reg [0, 1, 5, 6] [m 17 6,m 18 0,w 19 (.lenL 18),w 20 (.bin .lss 17 19)])
def c88_4 : AC := .out [0, 1, 5, 6] (.cond (.t 20) .skip (.exit 0))
def c88_7 : AC := .out [0, 1, 5, 6, 7, 8, 30] (.reg [0, 1, 5, 6, 7, 8] [m 23 8,m 24 1,w 25 (.lenL 24),w 26 (.bin .lss 23 25),m 27 26,⟨some 28, .mv 7, some (27, false)⟩,⟨some 29, .bin .gtr 28 (.c U1 0), some (27, false)⟩,w 30 (.pick 27 (.c .bool true) 29)])
def c88_8 : AC := .out [0, 1, 5, 6, 7, 8] (.cond (.t 30) .skip (.exit 2))
def c88_12 : AC := (.seq (.out [0, 1, 5, 6, 8, 9] (.draw [0, 1, 5, 6, 7, 8] [⟨m 33 5, [34, 35, 36, 39, 40, 41, 42, 43, 44, 45, 46, 48], [33], [], false, []⟩,⟨m 34 6, [33, 35, 39, 40, 41, 42, 43, 44, 45, 46, 48], [34], [], false, []⟩,⟨m 35 8, [33, 34, 39, 40, 41, 42, 43, 44, 45, 46, 48], [35], [], false, []⟩,⟨w 36 (.bin .add 34 35), [33, 39, 40, 41, 42, 43, 44, 45, 46, 48], [36], [1, 2], false, []⟩,⟨w 37 (.indexAddr U1 33 36), [39, 40, 41, 42, 43, 44, 45, 46, 48], [37], [0, 1, 2, 3], false, []⟩,⟨w 38 (.load U1 37), [39, 40, 41, 42, 43, 44, 45, 46, 48], [38], [0, 1, 2, 3, 4], false, []⟩,⟨m 39 0, [33, 34, 35, 36, 37, 38, 40, 43, 44, 45, 48], [39], [], false, []⟩,⟨m 40 6, [33, 34, 35, 36, 37, 38, 39, 43, 44, 45, 48], [40], [], false, []⟩,⟨w 41 (.indexAddr U1 39 40), [33, 34, 35, 36, 37, 38, 43, 44, 45, 48], [41], [6, 7], false, []⟩,⟨w 42 (.load U1 41), [33, 34, 35, 36, 37, 38, 43, 44, 45, 48], [42], [6, 7, 8], false, []⟩,⟨m 43 1, [33, 34, 35, 36, 37, 38, 39, 40, 41, 42, 44, 48], [43], [], false, []⟩,⟨m 44 8, [33, 34, 35, 36, 37, 38, 39, 40, 41, 42, 43, 48], [44], [], false, []⟩,⟨w 45 (.call 112 [43, 44]), [33, 34, 35, 36, 37, 38, 39, 40, 41, 42, 48], [45], [10, 11], false, []⟩,⟨w 46 (.bin .mul 42 45), [33, 34, 35, 36, 37, 38, 48], [46], [6, 7, 8, 9, 10, 11, 12], false, []⟩,⟨w 47 (.bin .add 38 46), [48], [47], [0, 1, 2, 3, 4, 5, 6, 7, 8, 9, 10, 11, 12, 13], false, []⟩,⟨m 48 7, [33, 34, 35, 36, 37, 38, 39, 40, 41, 42, 43, 44, 45, 46, 47], [48], [], false, []⟩,⟨w 49 (.bin .add 47 48), [], [49], [0, 1, 2, 3, 4, 5, 6, 7, 8, 9, 10, 11, 12, 13, 14, 15], false, []⟩,⟨w 9 (.asg 49), [], [9], [0, 1, 2, 3, 4, 5, 6, 7, 8, 9, 10, 11, 12, 13, 14, 15, 16], false, []⟩])) (.seq (.out [0, 1, 5, 6, 8, 9] (.reg [0, 1, 5, 6, 8, 9] [m 50 5,m 51 6,m 52 8,w 53 (.bin .add 51 52),m 54 9,w 55 (.bin .rem 54 (.c U1 10000)),w 56 (.indexAddr U1 50 53),⟨none, .store U1 56 55, none⟩])) (.out [0, 1, 5, 6, 7, 8] (.reg [0, 1, 5, 6, 8, 9] [m 57 9,w 58 (.bin .quo 57 (.c U1 10000)),w 7 (.asg 58)]))))
def c88_13 : AC := .out [0, 1, 5, 6, 7, 8] (.block 3 c88_12)
def c88_14 : AC := .out [0, 1, 5, 6, 7, 8] (.reg [0, 1, 5, 6, 7, 8] [m 31 8,w 32 (.bin .add 31 (.c U1 1)),w 8 (.asg 32)])
def c88_15 : AC := (.seq (.seq c88_7 c88_8) (.seq c88_13 c88_14))
def c88_16 : AC := .out [0, 1, 5, 6] (.loop [0, 1, 5, 6, 7, 8] c88_15)
def c88_17 : AC := .out [0, 1, 5, 6] (.block 2 c88_16)
def c88_18 : AC := (.seq (.out [0, 1, 5, 6, 7] (.reg [0, 1, 5, 6] [w 7 (.asg (.c U1 0))])) (.seq (.out [0, 1, 5, 6, 7, 8] (.reg [0, 1, 5, 6, 7] [w 8 (.asg (.c U1 0))])) c88_17))
def c88_19 : AC := .out [0, 1, 5, 6] (.block 1 c88_18)
def c88_20 : AC := .out [0, 1, 5, 6] (.reg [0, 1, 5, 6] [m 21 6,w 22 (.bin .add 21 (.c U1 1)),w 6 (.asg 22)])
def c88_21 : AC := (.seq (.seq c88_3 c88_4) (.seq c88_19 c88_20))
def c88_22 : AC := .out [5] (.loop [0, 1, 5, 6] c88_21)
def c88_23 : AC := .out [5] (.block 0 c88_22)
def c88_24 : AC := .out [4] (.reg [5] [m 59 5,w 60 (.call 113 [59]),w 4 (.asg 60)])
def c88_25 : AC := (.seq (.out [0, 1] (.reg [0, 1] [w 4 (.asg (.nil 3 U1))])) (.seq (.out [0, 1, 5] (.reg [0, 1] [m 10 0,w 11 (.lenL 10),m 12 1,w 13 (.lenL 12),w 14 (.bin .add 11 13),w 15 (.bin .add 14 (.c U1 1)),w 16 (.mkSlice 3 U1 17592186044416 15 15),w 5 (.asg 16)])) (.seq (.seq c88_2 c88_23) (.seq c88_24 .ret))))
def c88 : AC := c88_25
def d88 : FD := { nargs := 2, body := c88, res := [.t 4] }
def c110_3 : AC := .out [0, 1, 6, 7, 8] (.reg [0, 1, 6, 7] [m 15 0,w 16 (.lenL 15),w 17 (.bin .sub 16 (.c U1 1)),w 8 (.asg 17)])
def c110_4 : AC := .out [0, 1, 6, 7, 8, 19] (.reg [0, 1, 6, 7, 8] [m 18 8,w 19 (.bin .geq 18 (.c U1 0))])
def c110_5 : AC := .out [0, 1, 6, 7, 8] (.cond (.t 19) .skip (.exit 0))
def c110_8 : AC := .out [0, 1, 6, 7, 8, 9, 10, 32] (.reg [0, 1, 6, 7, 8, 9, 10] [m 30 9,m 31 10,w 32 (.bin .lss 30 31)])
def c110_9 : AC := .out [0, 1, 6, 7, 8, 9, 10] (.cond (.t 32) .skip (.exit 2))
def c110_12 : AC := .out [0, 1, 6, 7, 8, 9, 10] (.reg [0, 1, 6, 7, 8, 10, 11] [m 45 11,w 9 (.asg 45)])
def c110_13 : AC := .out [0, 1, 6, 7, 8, 9, 10] (.reg [0, 1, 6, 7, 8, 9, 11] [m 46 11,w 47 (.bin .sub 46 (.c U1 1)),w 10 (.asg 47)])
def c110_14 : AC := .out [0, 1, 6, 7, 8, 9, 10] (.cond (.t 44) c110_12 c110_13)
def c110_15 : AC := (.seq (.out [0, 1, 6, 7, 8, 9, 10, 11] (.reg [0, 1, 6, 7, 8, 9, 10] [m 33 9,m 34 10,w 35 (.bin .add 33 34),w 36 (.bin .add 35 (.c U1 1)),w 37 (.bin .quo 36 (.c U1 2)),w 11 (.asg 37)])) (.seq (.out [0, 1, 6, 7, 8, 9, 10, 11, 44] (.reg [0, 1, 6, 7, 8, 9, 10, 11] [m 38 1,m 39 11,w 40 (.buildSlice 3 U1 [39]),w 41 (.call 88 [38, 40]),m 42 7,w 43 (.call 90 [41, 42]),w 44 (.bin .leq 43 (.c U1 0))])) c110_14))
def c110_16 : AC := .out [0, 1, 6, 7, 8, 9, 10] (.block 3 c110_15)
def c110_17 : AC := (.seq (.seq c110_8 c110_9) c110_16)
def c110_18 : AC := .out [0, 1, 6, 7, 8, 9] (.loop [0, 1, 6, 7, 8, 9, 10] c110_17)
def c110_19 : AC := .out [0, 1, 6, 7, 8, 9] (.block 2 c110_18)
def c110_22 : AC := (.seq (.out [0, 1, 6, 7, 8, 9] (.reg [0, 1, 6, 7, 8, 9] [m 48 6,m 49 8,m 50 9,w 51 (.indexAddr U1 48 49),⟨none, .store U1 51 50, none⟩])) (.out [0, 1, 6, 7, 8] (.reg [0, 1, 6, 7, 8, 9] [m 52 7,m 53 1,m 54 9,w 55 (.buildSlice 3 U1 [54]),w 56 (.call 88 [53, 55]),w 57 (.call 91 [52, 56]),w 7 (.cp 57)])))
def c110_23 : AC := (.seq (.out [0, 1, 6, 7, 8] (.reg [0, 1, 6, 7, 8] [m 22 0,m 23 8,w 24 (.indexAddr U1 22 23),w 25 (.load U1 24),w 26 (.buildSlice 3 U1 [25]),m 27 7,w 28 (.append 3 U1 17592186044416 26 27),w 29 (.call 113 [28]),w 7 (.cp 29)])) (.seq (.out [0, 1, 6, 7, 8, 9, 10] (.reg [0, 1, 6, 7, 8] [w 9 (.asg (.c U1 0)),w 10 (.asg (.c U1 9999))])) (.seq c110_19 c110_22)))
def c110_24 : AC := .out [0, 1, 6, 7, 8] (.block 1 c110_23)
def c110_25 : AC := .out [0, 1, 6, 7, 8] (.reg [0, 1, 6, 7, 8] [m 20 8,w 21 (.bin .sub 20 (.c U1 1)),w 8 (.asg 21)])
def c110_26 : AC := (.seq (.seq c110_4 c110_5) (.seq c110_24 c110_25))
def c110_27 : AC := .out [6, 7] (.loop [0, 1, 6, 7, 8] c110_26)
def c110_28 : AC := .out [6, 7] (.block 0 c110_27)
def c110_29 : AC := .out [4, 5] (.reg [6, 7] [m 58 6,w 59 (.call 113 [58]),m 60 7,w 4 (.asg 59),w 5 (.asg 60)])
def c110_30 : AC := (.seq (.out [0, 1] (.reg [0, 1] [w 4 (.asg (.nil 3 U1)),w 5 (.asg (.nil 3 U1))])) (.seq (.out [0, 1, 6] (.reg [0, 1] [m 12 0,w 13 (.lenL 12),w 14 (.mkSlice 3 U1 17592186044416 13 13),w 6 (.asg 14)])) (.seq (.out [0, 1, 6, 7] (.reg [0, 1, 6] [w 7 (.cp (.nil 3 U1))])) (.seq (.seq c110_3 c110_28) (.seq c110_29 .ret)))))
def c110 : AC := c110_30
def d110 : FD := { nargs := 2, body := c110, res := [.t 4, .t 5] }
def c84_0 : AC := .out [2, 3, 4, 5] (.reg [0, 1] [w 2 (.box U5 0),w 3 (.box U5 1),w 4 (.alloc U5 (.pair (.own true 3 .no) .no)),w 5 (.alloc U5 (.pair (.own true 3 .no) .no)),w 6 (.asg (.c U1 0))])
def c84_1 : AC := .out [2, 3, 4, 5, 16] (.reg [2, 3, 4, 5] [w 9 (.load U5 2),w 10 (.call 86 [9]),w 11 (.un .not 10),m 12 11,⟨some 13, .load U5 3, some (12, false)⟩,⟨some 14, .call 86 [13], some (12, false)⟩,⟨some 15, .un .not 14, some (12, false)⟩,w 16 (.pick 12 (.c .bool true) 15)])
def c84_2 : AC := .out [4, 5, 6] (.reg [4, 5] [w 17 (.buildN U5 (.pair (.own true 3 .no) .no) []),w 18 (.buildN U5 (.pair (.own true 3 .no) .no) []),⟨none, .store U5 4 17, none⟩,⟨none, .store U5 5 18, none⟩,w 6 (.asg (.c U1 1))])
def c84_3 : AC := .out [2, 3, 4, 5, 6] (.cond (.t 16) (.seq c84_2 .ret) .skip)
def c84_4 : AC := .out [2, 3, 4, 5, 22] (.reg [2, 3, 4, 5] [w 19 (.fieldAddr U5 [.l] 3),w 20 (.load U2 19),w 21 (.lenL 20),w 22 (.bin .eql 21 (.c U1 0))])
def c84_5 : AC := .out [4, 5, 6] (.reg [4, 5] [w 23 (.buildN U5 (.pair (.own true 3 .no) .no) []),w 24 (.buildN U5 (.pair (.own true 3 .no) .no) []),⟨none, .store U5 4 23, none⟩,⟨none, .store U5 5 24, none⟩,w 6 (.asg (.c U1 6))])
def c84_6 : AC := .out [2, 3, 4, 5, 6] (.cond (.t 22) (.seq c84_5 .ret) .skip)
def c84_9 : AC := (.seq (.out [4, 5, 7, 8] (.reg [2, 3, 4, 5] [w 26 (.fieldAddr U5 [.l] 2),w 27 (.load U2 26),w 28 (.fieldAddr U5 [.l] 3),w 29 (.load U2 28),w 30 (.call 110 [27, 29]),m 25 30,w 31 (.extract 25 0),w 32 (.extract 25 1),w 7 (.asg 31),w 8 (.asg 32)])) (.seq (.out [4, 5, 6] (.reg [4, 5, 7, 8] [m 33 7,w 34 (.build U5 [([.l], 33)]),m 35 8,w 36 (.build U5 [([.l], 35)]),⟨none, .store U5 4 34, none⟩,⟨none, .store U5 5 36, none⟩,w 6 (.asg (.c U1 0))])) .ret))
def c84_10 : AC := (.seq c84_0 (.seq (.seq c84_1 c84_3) (.seq (.seq c84_4 c84_6) c84_9)))
def c84 : AC := c84_10
def d84 : FD := { nargs := 2, body := c84, res := [.cell 4 U5, .cell 5 U5, .t 6] }
def c56_2 : AC := (.seq (.out [1] (.reg [0] [w 1 (.box U5 0),w 2 (.asg (.c .bool false))])) (.seq (.out [2] (.reg [1] [w 3 (.fieldAddr U5 [.l] 1),w 4 (.load U2 3),w 5 (.lenL 4),w 6 (.bin .eql 5 (.c U1 0)),w 2 (.asg 6)])) .ret))
def c56 : AC := c56_2
def d56 : FD := { nargs := 1, body := c56, res := [.t 2] }
def c52_5 : AC := (.seq (.out [0, 4, 5, 6] (.reg [0, 1, 2] [w 4 (.box U5 1),w 5 (.box U5 2),w 6 (.alloc U12 (.pair .no (.pair (.pair (.own true 3 .no) .no) (.pair (.pair (.own true 3 .no) .no) .no))))])) (.seq (.out [0, 4, 5, 6, 7] (.reg [0, 4, 5, 6] [w 16 (.load U5 4),w 17 (.load U5 5),w 18 (.call 83 [16, 17]),m 15 18,w 19 (.extract 15 0),w 20 (.extract 15 1),w 7 (.alloc U5 (.pair (.own true 3 .no) .no)),⟨none, .store U5 7 19, none⟩,w 8 (.asg 20)])) (.seq (.out [0, 5, 6, 7, 9] (.reg [0, 4, 5, 6, 7] [w 22 (.load U5 4),w 23 (.load U5 7),w 24 (.call 84 [22, 23]),m 21 24,w 25 (.extract 21 0),w 26 (.extract 21 1),w 27 (.extract 21 2),w 9 (.alloc U5 (.pair (.own true 3 .no) .no)),w 10 (.alloc U5 (.pair (.own true 3 .no) .no)),⟨none, .store U5 9 25, none⟩,⟨none, .store U5 10 26, none⟩,w 11 (.asg 27)])) (.seq (.out [0, 6, 9, 12] (.reg [0, 5, 6, 7, 9] [w 29 (.load U5 5),w 30 (.load U5 7),w 31 (.call 84 [29, 30]),m 28 31,w 32 (.extract 28 0),w 33 (.extract 28 1),w 34 (.extract 28 2),w 12 (.alloc U5 (.pair (.own true 3 .no) .no)),w 13 (.alloc U5 (.pair (.own true 3 .no) .no)),⟨none, .store U5 12 32, none⟩,⟨none, .store U5 13 33, none⟩,w 14 (.asg 34)])) (.seq (.out [6] (.draw [0, 6, 9, 12] [⟨m 35 0, [41, 42], [35], [], false, []⟩,⟨m 36 35, [41, 42], [36], [0], false, []⟩,⟨⟨some 37, .load U5 9, some (36, true)⟩, [41, 42], [37], [0, 1], false, []⟩,⟨⟨some 38, .call 56 [37], some (36, true)⟩, [41, 42], [38], [0, 1, 2], false, []⟩,⟨⟨some 39, .un .not 38, some (36, true)⟩, [41, 42], [39], [0, 1, 2, 3], false, []⟩,⟨w 40 (.pick 36 39 (.c .bool false)), [41, 42], [40], [0, 1, 2, 3, 4], false, []⟩,⟨w 41 (.load U5 9), [35, 36, 37, 38, 39, 40, 42], [41], [], false, []⟩,⟨w 42 (.load U5 12), [35, 36, 37, 38, 39, 40, 41], [42], [], false, []⟩,⟨w 43 (.build U12 [([.l], 40), ([.r, .l], 41), ([.r, .r, .l], 42)]), [], [43], [0, 1, 2, 3, 4, 5, 6, 7], true, []⟩,⟨⟨none, .store U12 6 43, none⟩, [], [6], [0, 1, 2, 3, 4, 5, 6, 7, 8], true, []⟩])) .ret)))))
def c52 : AC := c52_5
def d52 : FD := { nargs := 3, body := c52, res := [.cell 6 U12] }
def c23_0 : AC := .out [0, 1, 4] (.reg [0, 1] [w 4 (.alloc U12 (.pair .no (.pair (.pair (.own true 3 .no) .no) (.pair (.pair (.own true 3 .no) .no) .no)))),w 5 (.asg (.c U1 0))])
def c23_1 : AC := .out [0, 1, 4, 8] (.reg [0, 1, 4] [m 7 1,w 8 (.bin .eql 7 (.c U1 0))])
def c23_2 : AC := .out [4, 5] (.reg [4] [w 9 (.build U12 []),⟨none, .store U12 4 9, none⟩,w 5 (.asg (.c U1 6))])
def c23_3 : AC := .out [0, 1, 4, 5] (.cond (.t 8) (.seq c23_2 .ret) .skip)
def c23_4 : AC := .out [0, 1, 4, 23] (.reg [0, 1, 4] [m 10 0,w 11 (.bin .lss 10 (.c U1 (-1000000000000000))),m 12 11,⟨some 13, .mv 0, some (12, false)⟩,⟨some 14, .bin .gtr 13 (.c U1 1000000000000000), some (12, false)⟩,w 15 (.pick 12 (.c .bool true) 14),m 16 15,⟨some 17, .mv 1, some (16, false)⟩,⟨some 18, .bin .lss 17 (.c U1 (-1000000000000000)), some (16, false)⟩,w 19 (.pick 16 (.c .bool true) 18),m 20 19,⟨some 21, .mv 1, some (20, false)⟩,⟨some 22, .bin .gtr 21 (.c U1 1000000000000000), some (20, false)⟩,w 23 (.pick 20 (.c .bool true) 22)])
def c23_5 : AC := .out [4, 5] (.reg [4] [w 24 (.build U12 []),⟨none, .store U12 4 24, none⟩,w 5 (.asg (.c U1 3))])
def c23_6 : AC := .out [0, 1, 4, 5] (.cond (.t 23) (.seq c23_5 .ret) .skip)
def c23_7 : AC := .out [0, 1, 4, 6] (.reg [0, 1, 4] [m 25 0,w 26 (.bin .lss 25 (.c U1 0)),m 27 1,w 28 (.bin .lss 27 (.c U1 0)),w 29 (.eqT true .bool 26 28),w 6 (.asg 29)])
def c23_8 : AC := .out [0, 1, 4, 6, 31] (.reg [0, 1, 4, 6] [m 30 0,w 31 (.bin .lss 30 (.c U1 0))])
def c23_9 : AC := .out [0, 1, 4, 6] (.reg [0, 1, 4, 6] [m 32 0,w 33 (.bin .sub (.c U1 0) 32),w 0 (.asg 33)])
def c23_10 : AC := .out [0, 1, 4, 6] (.cond (.t 31) c23_9 .skip)
def c23_11 : AC := (.seq c23_8 c23_10)
def c23_12 : AC := .out [0, 1, 4, 6, 35] (.reg [0, 1, 4, 6] [m 34 1,w 35 (.bin .lss 34 (.c U1 0))])
def c23_13 : AC := .out [0, 1, 4, 6] (.reg [0, 1, 4, 6] [m 36 1,w 37 (.bin .sub (.c U1 0) 36),w 1 (.asg 37)])
def c23_14 : AC := .out [0, 1, 4, 6] (.cond (.t 35) c23_13 .skip)
def c23_15 : AC := (.seq c23_12 c23_14)
def c23_16 : AC := .out [4, 5] (.reg [0, 1, 4, 6] [m 38 6,m 39 0,w 40 (.call 53 [39]),m 41 1,w 42 (.call 53 [41]),w 43 (.call 52 [38, 40, 42]),⟨none, .store U12 4 43, none⟩,w 5 (.asg (.c U1 0))])
def c23_17 : AC := (.seq c23_0 (.seq (.seq c23_1 c23_3) (.seq (.seq c23_4 c23_6) (.seq c23_7 (.seq c23_11 (.seq c23_15 (.seq c23_16 .ret)))))))
def c23 : AC := c23_17
def d23 : FD := { nargs := 2, body := c23, res := [.cell 4 U12, .t 5] }
def c22_4 : AC := (.seq (.out [0, 1, 4] (.reg [0, 1] [w 4 (.alloc U12 (.pair .no (.pair (.pair (.own true 3 .no) .no) (.pair (.pair (.own true 3 .no) .no) .no))))])) (.seq (.out [0, 4, 5] (.reg [0, 1, 4] [m 8 1,w 9 (.bin .rem 8 (.c U0 20)),w 10 (.convI .i64 9),w 11 (.bin .add (.c U1 1) 10),w 5 (.asg 11)])) (.seq (.out [4, 6] (.reg [0, 4, 5] [m 13 0,w 14 (.convI .i64 13),m 15 5,w 16 (.bin .add 15 (.c U1 1)),w 17 (.bin .rem 14 16),m 18 5,w 19 (.call 23 [17, 18]),m 12 19,w 20 (.extract 12 0),w 21 (.extract 12 1),w 6 (.alloc U12 (.pair .no (.pair (.pair (.own true 3 .no) .no) (.pair (.pair (.own true 3 .no) .no) .no)))),⟨none, .store U12 6 20, none⟩,w 7 (.asg 21)])) (.seq (.out [4] (.reg [4, 6] [w 22 (.load U12 6),⟨none, .store U12 4 22, none⟩])) .ret))))
def c22 : AC := c22_4
def d22 : FD := { nargs := 2, body := c22, res := [.cell 4 U12] }
def c60_2 : AC := (.seq (.out [2, 3] (.reg [0, 1] [w 2 (.box U5 0),w 3 (.box U5 1),w 4 (.asg (.c U1 0))])) (.seq (.out [4] (.reg [2, 3] [w 5 (.fieldAddr U5 [.l] 2),w 6 (.load U2 5),w 7 (.fieldAddr U5 [.l] 3),w 8 (.load U2 7),w 9 (.call 90 [6, 8]),w 4 (.asg 9)])) .ret))
def c60 : AC := c60_2
def d60 : FD := { nargs := 2, body := c60, res := [.t 4] }
def c51_2 : AC := (.seq (.out [2, 3] (.reg [0, 1] [w 2 (.box U5 0),w 3 (.box U5 1),w 4 (.asg (.c .bool false))])) (.seq (.out [4] (.reg [2, 3] [w 5 (.load U5 2),w 6 (.load U5 3),w 7 (.call 60 [5, 6]),w 8 (.bin .eql 7 (.c U1 0)),w 4 (.asg 8)])) .ret))
def c51 : AC := c51_2
def d51 : FD := { nargs := 2, body := c51, res := [.t 4] }
def c54_0 : AC := .out [1] (.reg [0] [w 1 (.box U12 0),w 2 (.asg (.c .bool false))])
def c54_1 : AC := .out [1, 28] (.reg [1] [w 5 (.fieldAddr U12 [.r, .l] 1),w 6 (.load U5 5),w 7 (.call 86 [6]),w 8 (.un .not 7),m 9 8,⟨some 10, .fieldAddr U12 [.r, .r, .l] 1, some (9, false)⟩,⟨some 11, .load U5 10, some (9, false)⟩,⟨some 12, .call 86 [11], some (9, false)⟩,⟨some 13, .un .not 12, some (9, false)⟩,w 14 (.pick 9 (.c .bool true) 13),m 15 14,⟨some 16, .fieldAddr U12 [.r, .r, .l] 1, some (15, false)⟩,⟨some 17, .load U5 16, some (15, false)⟩,⟨some 18, .call 56 [17], some (15, false)⟩,w 19 (.pick 15 (.c .bool true) 18),m 20 19,⟨some 21, .fieldAddr U12 [.r, .l] 1, some (20, false)⟩,⟨some 22, .load U5 21, some (20, false)⟩,⟨some 23, .call 56 [22], some (20, false)⟩,⟨some 24, .mv 23, some (20, false)⟩,⟨some 25, .fieldAddr U12 [.l] 1, some (24, true)⟩,⟨some 26, .load .bool 25, some (24, true)⟩,⟨some 27, .pick 24 26 (.c .bool false), some (20, false)⟩,w 28 (.pick 20 (.c .bool true) 27)])
def c54_2 : AC := .out [2] (.reg [] [w 2 (.asg (.c .bool false))])
def c54_3 : AC := .out [1, 2] (.cond (.t 28) (.seq c54_2 .ret) .skip)
def c54_6 : AC := (.seq (.out [3] (.reg [1] [w 30 (.fieldAddr U12 [.r, .l] 1),w 31 (.load U5 30),w 32 (.fieldAddr U12 [.r, .r, .l] 1),w 33 (.load U5 32),w 34 (.call 83 [31, 33]),m 29 34,w 35 (.extract 29 0),w 36 (.extract 29 1),w 3 (.alloc U5 (.pair (.own true 3 .no) .no)),⟨none, .store U5 3 35, none⟩,w 4 (.asg 36)])) (.seq (.out [2] (.draw [3] [⟨w 37 (.load U5 3), [38], [37], [], false, []⟩,⟨w 38 (.call 53 [(.c U1 1)]), [37], [38], [], false, []⟩,⟨w 39 (.call 51 [37, 38]), [], [39], [0, 1], false, []⟩,⟨w 2 (.asg 39), [], [2], [0, 1, 2], false, []⟩])) .ret))
def c54_7 : AC := (.seq c54_0 (.seq (.seq c54_1 c54_3) c54_6))
def c54 : AC := c54_7
def d54 : FD := { nargs := 1, body := c54, res := [.t 2] }
def c55_2 : AC := .out [2] (.reg [1, 2] [w 13 (.load U12 1),⟨none, .store U12 2 13, none⟩])
def c55_3 : AC := (.seq (.out [1, 2] (.reg [0] [w 1 (.box U12 0),w 2 (.alloc U12 (.pair .no (.pair (.pair (.own true 3 .no) .no) (.pair (.pair (.own true 3 .no) .no) .no))))])) (.seq (.out [1, 2] (.reg [1, 2] [w 3 (.fieldAddr U12 [.l] 1),w 4 (.load .bool 3),w 5 (.un .not 4),m 6 5,⟨some 7, .fieldAddr U12 [.r, .l] 1, some (6, true)⟩,⟨some 8, .load U5 7, some (6, true)⟩,⟨some 9, .call 56 [8], some (6, true)⟩,⟨some 10, .un .not 9, some (6, true)⟩,w 11 (.pick 6 10 (.c .bool false)),w 12 (.fieldAddr U12 [.l] 1),⟨none, .store .bool 12 11, none⟩])) (.seq c55_2 .ret)))
def c55 : AC := c55_3
def d55 : FD := { nargs := 1, body := c55, res := [.cell 2 U12] }
def c87_0 : AC := .out [0, 2] (.reg [0] [w 2 (.alloc U5 (.pair (.own true 3 .no) .no)),w 3 (.asg (.c U1 0))])
def c87_1 : AC := .out [0, 2, 6] (.reg [0, 2] [m 4 0,w 5 (.lenL 4),w 6 (.bin .gtr 5 (.c U1 200))])
def c87_2 : AC := .out [2, 3] (.reg [2] [w 7 (.buildN U5 (.pair (.own true 3 .no) .no) []),⟨none, .store U5 2 7, none⟩,w 3 (.asg (.c U1 3))])
def c87_3 : AC := .out [0, 2, 3] (.cond (.t 6) (.seq c87_2 .ret) .skip)
def c87_4 : AC := .out [2, 3] (.reg [0, 2] [m 8 0,w 9 (.build U5 [([.l], 8)]),⟨none, .store U5 2 9, none⟩,w 3 (.asg (.c U1 0))])
def c87_5 : AC := (.seq c87_0 (.seq (.seq c87_1 c87_3) (.seq c87_4 .ret)))
def c87 : AC := c87_5
def d87 : FD := { nargs := 1, body := c87, res := [.cell 2 U5, .t 3] }
def c58_0 : AC := .out [2, 3, 4] (.reg [0, 1] [w 2 (.box U5 0),w 3 (.box U5 1),w 4 (.alloc U5 (.pair (.own true 3 .no) .no)),w 5 (.asg (.c U1 0))])
def c58_1 : AC := .out [2, 3, 4, 13] (.reg [2, 3, 4] [w 6 (.load U5 2),w 7 (.call 86 [6]),w 8 (.un .not 7),m 9 8,⟨some 10, .load U5 3, some (9, false)⟩,⟨some 11, .call 86 [10], some (9, false)⟩,⟨some 12, .un .not 11, some (9, false)⟩,w 13 (.pick 9 (.c .bool true) 12)])
def c58_2 : AC := .out [4, 5] (.reg [4] [w 14 (.buildN U5 (.pair (.own true 3 .no) .no) []),⟨none, .store U5 4 14, none⟩,w 5 (.asg (.c U1 1))])
def c58_3 : AC := .out [2, 3, 4, 5] (.cond (.t 13) (.seq c58_2 .ret) .skip)
def c58_4 : AC := .out [4, 5] (.reg [2, 3, 4] [w 15 (.fieldAddr U5 [.l] 2),w 16 (.load U2 15),w 17 (.fieldAddr U5 [.l] 3),w 18 (.load U2 17),w 19 (.call 88 [16, 18]),w 20 (.call 87 [19]),w 21 (.extract 20 0),w 22 (.extract 20 1),⟨none, .store U5 4 21, none⟩,w 5 (.asg 22)])
def c58_5 : AC := (.seq c58_0 (.seq (.seq c58_1 c58_3) (.seq c58_4 .ret)))
def c58 : AC := c58_5
def d58 : FD := { nargs := 2, body := c58, res := [.cell 4 U5, .t 5] }
def c57_2 : AC := .out [6, 7, 8, 9, 11, 12, 21] (.reg [6, 7, 8, 9, 11, 12] [m 20 12,w 21 (.bin .neq 20 (.c U1 0))])
def c57_3 : AC := .out [8, 9, 10] (.draw [8, 9, 11, 12] [⟨w 22 (.load U5 11), [23, 24], [22], [], false, []⟩,⟨w 23 (.load U5 11), [8, 22, 24], [23], [], false, []⟩,⟨m 24 12, [8, 9, 22, 23], [24], [], false, []⟩,⟨⟨none, .store U5 8 22, none⟩, [23, 24], [8], [0], false, []⟩,⟨⟨none, .store U5 9 23, none⟩, [24], [9], [0, 1, 3], false, []⟩,⟨w 10 (.asg 24), [], [10], [0, 1, 2, 3, 4], false, []⟩])
def c57_4 : AC := .out [6, 7, 8, 9, 10, 11] (.cond (.t 21) (.seq c57_3 .ret) .skip)
def c57_7 : AC := (.seq (.out [8, 9, 11, 12, 13] (.reg [6, 7, 8, 9, 11] [w 26 (.load U5 6),w 27 (.load U5 7),w 28 (.call 58 [26, 27]),m 25 28,w 29 (.extract 25 0),w 30 (.extract 25 1),w 13 (.alloc U5 (.pair (.own true 3 .no) .no)),⟨none, .store U5 13 29, none⟩,w 12 (.asg 30)])) (.seq (.out [8, 9, 10] (.draw [8, 9, 11, 12, 13] [⟨w 31 (.load U5 11), [32, 33], [31], [], false, []⟩,⟨w 32 (.load U5 13), [8, 31, 33], [32], [], false, []⟩,⟨m 33 12, [8, 9, 31, 32], [33], [], false, []⟩,⟨⟨none, .store U5 8 31, none⟩, [32, 33], [8], [0], false, []⟩,⟨⟨none, .store U5 9 32, none⟩, [33], [9], [0, 1, 3], false, []⟩,⟨w 10 (.asg 33), [], [10], [0, 1, 2, 3, 4], false, []⟩])) .ret))
def c57_8 : AC := (.seq (.out [4, 5, 6, 7, 8, 9] (.reg [0, 1, 2, 3] [w 4 (.box U5 0),w 5 (.box U5 1),w 6 (.box U5 2),w 7 (.box U5 3),w 8 (.alloc U5 .no),w 9 (.alloc U5 .no),w 10 (.asg (.c U1 0))])) (.seq (.out [6, 7, 8, 9, 11, 12] (.reg [4, 5, 6, 7, 8, 9] [w 15 (.load U5 4),w 16 (.load U5 5),w 17 (.call 58 [15, 16]),m 14 17,w 18 (.extract 14 0),w 19 (.extract 14 1),w 11 (.alloc U5 (.pair (.own true 3 .no) .no)),⟨none, .store U5 11 18, none⟩,w 12 (.asg 19)])) (.seq (.seq c57_2 c57_4) c57_7)))
def c57 : AC := c57_8
def d57 : FD := { nargs := 4, body := c57, res := [.cell 8 U5, .cell 9 U5, .t 10] }
def c59_0 : AC := .out [2, 3, 4] (.reg [0, 1] [w 2 (.box U5 0),w 3 (.box U5 1),w 4 (.alloc U5 (.pair (.own true 3 .no) .no)),w 5 (.asg (.c U1 0))])
def c59_1 : AC := .out [2, 3, 4, 13] (.reg [2, 3, 4] [w 6 (.load U5 2),w 7 (.call 86 [6]),w 8 (.un .not 7),m 9 8,⟨some 10, .load U5 3, some (9, false)⟩,⟨some 11, .call 86 [10], some (9, false)⟩,⟨some 12, .un .not 11, some (9, false)⟩,w 13 (.pick 9 (.c .bool true) 12)])
def c59_2 : AC := .out [4, 5] (.reg [4] [w 14 (.buildN U5 (.pair (.own true 3 .no) .no) []),⟨none, .store U5 4 14, none⟩,w 5 (.asg (.c U1 1))])
def c59_3 : AC := .out [2, 3, 4, 5] (.cond (.t 13) (.seq c59_2 .ret) .skip)
def c59_4 : AC := .out [4, 5] (.reg [2, 3, 4] [w 15 (.fieldAddr U5 [.l] 2),w 16 (.load U2 15),w 17 (.fieldAddr U5 [.l] 3),w 18 (.load U2 17),w 19 (.call 89 [16, 18]),w 20 (.call 87 [19]),w 21 (.extract 20 0),w 22 (.extract 20 1),⟨none, .store U5 4 21, none⟩,w 5 (.asg 22)])
def c59_5 : AC := (.seq c59_0 (.seq (.seq c59_1 c59_3) (.seq c59_4 .ret)))
def c59 : AC := c59_5
def d59 : FD := { nargs := 2, body := c59, res := [.cell 4 U5, .t 5] }
def c61_0 : AC := .out [2, 3, 4] (.reg [0, 1] [w 2 (.box U5 0),w 3 (.box U5 1),w 4 (.alloc U5 (.pair (.own true 3 .no) .no)),w 5 (.asg (.c U1 0))])
def c61_1 : AC := .out [2, 3, 4, 13] (.reg [2, 3, 4] [w 6 (.load U5 2),w 7 (.call 86 [6]),w 8 (.un .not 7),m 9 8,⟨some 10, .load U5 3, some (9, false)⟩,⟨some 11, .call 86 [10], some (9, false)⟩,⟨some 12, .un .not 11, some (9, false)⟩,w 13 (.pick 9 (.c .bool true) 12)])
def c61_2 : AC := .out [4, 5] (.reg [4] [w 14 (.buildN U5 (.pair (.own true 3 .no) .no) []),⟨none, .store U5 4 14, none⟩,w 5 (.asg (.c U1 1))])
def c61_3 : AC := .out [2, 3, 4, 5] (.cond (.t 13) (.seq c61_2 .ret) .skip)
def c61_4 : AC := .out [2, 3, 4, 18] (.reg [2, 3, 4] [w 15 (.load U5 2),w 16 (.load U5 3),w 17 (.call 60 [15, 16]),w 18 (.bin .lss 17 (.c U1 0))])
def c61_5 : AC := .out [4, 5] (.reg [4] [w 19 (.buildN U5 (.pair (.own true 3 .no) .no) []),⟨none, .store U5 4 19, none⟩,w 5 (.asg (.c U1 6))])
def c61_6 : AC := .out [2, 3, 4, 5] (.cond (.t 18) (.seq c61_5 .ret) .skip)
def c61_7 : AC := .out [4, 5] (.reg [2, 3, 4] [w 20 (.fieldAddr U5 [.l] 2),w 21 (.load U2 20),w 22 (.fieldAddr U5 [.l] 3),w 23 (.load U2 22),w 24 (.call 91 [21, 23]),w 25 (.build U5 [([.l], 24)]),⟨none, .store U5 4 25, none⟩,w 5 (.asg (.c U1 0))])
def c61_8 : AC := (.seq c61_0 (.seq (.seq c61_1 c61_3) (.seq (.seq c61_4 c61_6) (.seq c61_7 .ret))))
def c61 : AC := c61_8
def d61 : FD := { nargs := 2, body := c61, res := [.cell 4 U5, .t 5] }
def c26_0 : AC := .out [2, 3, 4] (.reg [0, 1] [w 2 (.box U12 0),w 3 (.box U12 1),w 4 (.alloc U12 (.pair .no (.pair (.pair (.own true 3 .no) .no) (.pair (.pair (.own true 3 .no) .no) .no)))),w 5 (.asg (.c U1 0))])
def c26_1 : AC := .out [2, 3, 4, 23] (.reg [2, 3, 4] [w 16 (.load U12 2),w 17 (.call 54 [16]),w 18 (.un .not 17),m 19 18,⟨some 20, .load U12 3, some (19, false)⟩,⟨some 21, .call 54 [20], some (19, false)⟩,⟨some 22, .un .not 21, some (19, false)⟩,w 23 (.pick 19 (.c .bool true) 22)])
def c26_2 : AC := .out [4, 5] (.reg [4] [w 24 (.build U12 []),⟨none, .store U12 4 24, none⟩,w 5 (.asg (.c U1 1))])
def c26_3 : AC := .out [2, 3, 4, 5] (.cond (.t 23) (.seq c26_2 .ret) .skip)
def c26_4 : AC := .out [2, 3, 4, 6, 7, 8] (.reg [2, 3, 4] [w 26 (.fieldAddr U12 [.r, .l] 2),w 27 (.load U5 26),w 28 (.fieldAddr U12 [.r, .r, .l] 3),w 29 (.load U5 28),w 30 (.fieldAddr U12 [.r, .l] 3),w 31 (.load U5 30),w 32 (.fieldAddr U12 [.r, .r, .l] 2),w 33 (.load U5 32),w 34 (.call 57 [27, 29, 31, 33]),m 25 34,w 35 (.extract 25 0),w 36 (.extract 25 1),w 37 (.extract 25 2),w 6 (.alloc U5 (.pair (.own true 3 .no) .no)),w 7 (.alloc U5 (.pair (.own true 3 .no) .no)),⟨none, .store U5 6 35, none⟩,⟨none, .store U5 7 36, none⟩,w 8 (.asg 37)])
def c26_5 : AC := .out [2, 3, 4, 6, 7, 8, 39] (.reg [2, 3, 4, 6, 7, 8] [m 38 8,w 39 (.bin .neq 38 (.c U1 0))])
def c26_6 : AC := .out [4, 5] (.reg [4, 8] [w 40 (.build U12 []),m 41 8,⟨none, .store U12 4 40, none⟩,w 5 (.asg 41)])
def c26_7 : AC := .out [2, 3, 4, 5, 6, 7] (.cond (.t 39) (.seq c26_6 .ret) .skip)
def c26_8 : AC := .out [2, 3, 4, 6, 7, 8, 9] (.reg [2, 3, 4, 6, 7] [w 43 (.fieldAddr U12 [.r, .r, .l] 2),w 44 (.load U5 43),w 45 (.fieldAddr U12 [.r, .r, .l] 3),w 46 (.load U5 45),w 47 (.call 58 [44, 46]),m 42 47,w 48 (.extract 42 0),w 49 (.extract 42 1),w 9 (.alloc U5 (.pair (.own true 3 .no) .no)),⟨none, .store U5 9 48, none⟩,w 8 (.asg 49)])
def c26_9 : AC := .out [2, 3, 4, 6, 7, 8, 9, 51] (.reg [2, 3, 4, 6, 7, 8, 9] [m 50 8,w 51 (.bin .neq 50 (.c U1 0))])
def c26_10 : AC := .out [4, 5] (.reg [4, 8] [w 52 (.build U12 []),m 53 8,⟨none, .store U12 4 52, none⟩,w 5 (.asg 53)])
def c26_11 : AC := .out [2, 3, 4, 5, 6, 7, 9] (.cond (.t 51) (.seq c26_10 .ret) .skip)
def c26_12 : AC := .out [2, 3, 4, 6, 7, 9, 58] (.reg [2, 3, 4, 6, 7, 9] [w 54 (.fieldAddr U12 [.l] 2),w 55 (.load .bool 54),w 56 (.fieldAddr U12 [.l] 3),w 57 (.load .bool 56),w 58 (.eqT false .bool 55 57)])
def c26_13 : AC := .out [2, 4, 9, 10, 11] (.reg [2, 4, 6, 7, 9] [w 60 (.load U5 6),w 61 (.load U5 7),w 62 (.call 59 [60, 61]),m 59 62,w 63 (.extract 59 0),w 64 (.extract 59 1),w 10 (.alloc U5 (.pair (.own true 3 .no) .no)),⟨none, .store U5 10 63, none⟩,w 11 (.asg 64)])
def c26_14 : AC := .out [2, 4, 9, 10, 11, 66] (.reg [2, 4, 9, 10, 11] [m 65 11,w 66 (.bin .neq 65 (.c U1 0))])
def c26_15 : AC := .out [4, 5] (.reg [4, 11] [w 67 (.build U12 []),m 68 11,⟨none, .store U12 4 67, none⟩,w 5 (.asg 68)])
def c26_16 : AC := .out [2, 4, 5, 9, 10] (.cond (.t 66) (.seq c26_15 .ret) .skip)
def c26_17 : AC := .out [4, 5] (.reg [2, 4, 9, 10] [w 69 (.fieldAddr U12 [.l] 2),w 70 (.load .bool 69),w 71 (.load U5 10),w 72 (.load U5 9),w 73 (.call 52 [70, 71, 72]),⟨none, .store U12 4 73, none⟩,w 5 (.asg (.c U1 0))])
def c26_18 : AC := .out [2, 3, 4, 5, 6, 7, 9] (.cond (.t 58) (.seq c26_13 (.seq (.seq c26_14 c26_16) (.seq c26_17 .ret))) .skip)
def c26_19 : AC := .out [2, 3, 4, 6, 7, 9, 77] (.reg [2, 3, 4, 6, 7, 9] [w 74 (.load U5 6),w 75 (.load U5 7),w 76 (.call 60 [74, 75]),w 77 (.bin .geq 76 (.c U1 0))])
def c26_22 : AC := (.seq (.out [2, 4, 9, 12] (.reg [2, 4, 6, 7, 9] [w 79 (.load U5 6),w 80 (.load U5 7),w 81 (.call 61 [79, 80]),m 78 81,w 82 (.extract 78 0),w 83 (.extract 78 1),w 12 (.alloc U5 (.pair (.own true 3 .no) .no)),⟨none, .store U5 12 82, none⟩,w 13 (.asg 83)])) (.seq (.out [4, 5] (.reg [2, 4, 9, 12] [w 84 (.fieldAddr U12 [.l] 2),w 85 (.load .bool 84),w 86 (.load U5 12),w 87 (.load U5 9),w 88 (.call 52 [85, 86, 87]),⟨none, .store U12 4 88, none⟩,w 5 (.asg (.c U1 0))])) .ret))
def c26_23 : AC := .out [3, 4, 5, 6, 7, 9] (.cond (.t 77) c26_22 .skip)
def c26_26 : AC := (.seq (.out [3, 4, 9, 14] (.reg [3, 4, 6, 7, 9] [w 90 (.load U5 7),w 91 (.load U5 6),w 92 (.call 61 [90, 91]),m 89 92,w 93 (.extract 89 0),w 94 (.extract 89 1),w 14 (.alloc U5 (.pair (.own true 3 .no) .no)),⟨none, .store U5 14 93, none⟩,w 15 (.asg 94)])) (.seq (.out [4, 5] (.reg [3, 4, 9, 14] [w 95 (.fieldAddr U12 [.l] 3),w 96 (.load .bool 95),w 97 (.load U5 14),w 98 (.load U5 9),w 99 (.call 52 [96, 97, 98]),⟨none, .store U12 4 99, none⟩,w 5 (.asg (.c U1 0))])) .ret))
def c26_27 : AC := (.seq c26_0 (.seq (.seq c26_1 c26_3) (.seq c26_4 (.seq (.seq c26_5 c26_7) (.seq c26_8 (.seq (.seq c26_9 c26_11) (.seq (.seq c26_12 c26_18) (.seq (.seq c26_19 c26_23) c26_26))))))))
def c26 : AC := c26_27
def d26 : FD := { nargs := 2, body := c26, res := [.cell 4 U12, .t 5] }
def c24_0 : AC := .out [2, 3, 4] (.reg [0, 1] [w 2 (.box U12 0),w 3 (.box U12 1),w 4 (.alloc U12 (.pair .no (.pair (.pair (.own true 3 .no) .no) (.pair (.pair (.own true 3 .no) .no) .no)))),w 5 (.asg (.c U1 0))])
def c24_1 : AC := .out [2, 3, 4, 13] (.reg [2, 3, 4] [w 6 (.load U12 2),w 7 (.call 54 [6]),w 8 (.un .not 7),m 9 8,⟨some 10, .load U12 3, some (9, false)⟩,⟨some 11, .call 54 [10], some (9, false)⟩,⟨some 12, .un .not 11, some (9, false)⟩,w 13 (.pick 9 (.c .bool true) 12)])
def c24_2 : AC := .out [4, 5] (.reg [4] [w 14 (.build U12 []),⟨none, .store U12 4 14, none⟩,w 5 (.asg (.c U1 1))])
def c24_3 : AC := .out [2, 3, 4, 5] (.cond (.t 13) (.seq c24_2 .ret) .skip)
def c24_4 : AC := .out [2, 3, 4] (.reg [2, 3, 4] [w 15 (.load U12 3),w 16 (.call 55 [15]),⟨none, .store U12 3 16, none⟩])
def c24_5 : AC := .out [2, 3, 4, 19] (.reg [2, 3, 4] [w 17 (.fieldAddr U12 [.r, .l] 3),w 18 (.load U5 17),w 19 (.call 56 [18])])
def c24_6 : AC := .out [2, 3, 4] (.reg [2, 3, 4] [w 20 (.fieldAddr U12 [.l] 3),⟨none, .store .bool 20 (.c .bool false), none⟩])
def c24_7 : AC := .out [2, 3, 4] (.cond (.t 19) c24_6 .skip)
def c24_8 : AC := (.seq c24_5 c24_7)
def c24_9 : AC := .out [4, 5] (.reg [2, 3, 4] [w 21 (.load U12 2),w 22 (.load U12 3),w 23 (.call 26 [21, 22]),w 24 (.extract 23 0),w 25 (.extract 23 1),⟨none, .store U12 4 24, none⟩,w 5 (.asg 25)])
def c24_10 : AC := (.seq c24_0 (.seq (.seq c24_1 c24_3) (.seq c24_4 (.seq c24_8 (.seq c24_9 .ret)))))
def c24 : AC := c24_10
def d24 : FD := { nargs := 2, body := c24, res := [.cell 4 U12, .t 5] }
def c100_2 : AC := (.seq (.out [0] (.reg [0] [w 2 (.asg (.c .bool false))])) (.seq (.out [2] (.reg [0] [m 3 0,w 4 (.bin .lss 3 (.c U1 0)),m 5 4,⟨some 6, .mv 0, some (5, false)⟩,⟨some 7, .bin .geq 6 (.c U1 10000), some (5, false)⟩,w 8 (.pick 5 (.c .bool true) 7),w 2 (.asg 8)])) .ret))
def c100 : AC := c100_2
def d100 : FD := { nargs := 1, body := c100, res := [.t 2] }
def c116_0 : AC := .out [0, 1] (.reg [0, 1] [w 4 (.asg (.c U1 0))])
def c116_1 : AC := .out [0, 1, 7, 8] (.reg [0, 1] [m 6 0,w 7 (.lenL 6),w 8 (.mv (.c U1 0))])
def c116_2 : AC := .out [0, 1, 7, 8, 9] (.reg [0, 1, 7, 8] [w 9 (.bin .lss 8 7)])
def c116_3 : AC := .out [0, 1, 7, 8] (.cond (.t 9) .skip (.exit 0))
def c116_6 : AC := .out [4] (.reg [5] [m 17 5,w 4 (.asg 17)])
def c116_7 : AC := .out [0, 1, 4, 7, 8] (.cond (.t 16) (.seq c116_6 .ret) .skip)
def c116_8 : AC := (.seq (.out [0, 1, 5, 7, 8] (.reg [0, 1, 7, 8] [m 10 8,w 5 (.asg 10)])) (.seq (.out [0, 1, 5, 7, 8, 16] (.reg [0, 1, 5, 7, 8] [m 11 1,m 12 0,m 13 5,w 14 (.indexAddr U1 12 13),w 15 (.load U1 14),w 16 (.callv 11 [15])])) c116_7))
def c116_9 : AC := .out [0, 1, 4, 7, 8] (.block 1 c116_8)
def c116_10 : AC := .out [0, 1, 7, 8] (.reg [0, 1, 7, 8] [w 18 (.bin .add 8 (.c U1 1)),m 8 18])
def c116_11 : AC := (.seq c116_2 (.seq c116_3 (.seq c116_9 c116_10)))
def c116_12 : AC := .out [4] (.loop [0, 1, 7, 8] c116_11)
def c116_13 : AC := .out [4] (.block 0 c116_12)
def c116_14 : AC := .out [4] (.reg [] [w 4 (.asg (.c U1 (-1)))])
def c116_15 : AC := (.seq c116_0 (.seq (.seq c116_1 c116_13) (.seq c116_14 .ret)))
def c116 : AC := c116_15
def d116 : FD := { nargs := 2, body := c116, res := [.t 4] }
def c99_2 : AC := (.seq (.out [0, 1] (.reg [0, 1] [w 4 (.asg (.c .bool false))])) (.seq (.out [4] (.reg [0, 1] [m 5 0,m 6 1,w 7 (.call 116 [5, 6]),w 8 (.bin .geq 7 (.c U1 0)),w 4 (.asg 8)])) .ret))
def c99 : AC := c99_2
def d99 : FD := { nargs := 2, body := c99, res := [.t 4] }
def c75_2 : AC := .out [3, 22] (.reg [3] [m 6 3,w 7 (.lenL 6),w 8 (.bin .gtr 7 (.c U1 200)),m 9 8,⟨some 10, .mv 3, some (9, false)⟩,⟨some 11, .lenL 10, some (9, false)⟩,⟨some 12, .bin .gtr 11 (.c U1 0), some (9, false)⟩,⟨some 13, .mv 12, some (9, false)⟩,⟨some 14, .mv 3, some (13, true)⟩,⟨some 15, .mv 3, some (13, true)⟩,⟨some 16, .lenL 15, some (13, true)⟩,⟨some 17, .bin .sub 16 (.c U1 1), some (13, true)⟩,⟨some 18, .indexAddr U1 14 17, some (13, true)⟩,⟨some 19, .load U1 18, some (13, true)⟩,⟨some 20, .bin .eql 19 (.c U1 0), some (13, true)⟩,⟨some 21, .pick 13 20 (.c .bool false), some (9, false)⟩,w 22 (.pick 9 (.c .bool true) 21)])
def c75_3 : AC := .out [2] (.reg [] [w 2 (.asg (.c .bool false))])
def c75_4 : AC := .out [2, 3] (.cond (.t 22) (.seq c75_3 .ret) .skip)
def c75_5 : AC := .out [2] (.reg [3] [m 23 3,w 24 (.call 99 [23, (.fn 100 U4 .bool)]),w 25 (.un .not 24),w 2 (.asg 25)])
def c75_6 : AC := (.seq (.out [1] (.reg [0] [w 1 (.box U5 0),w 2 (.asg (.c .bool false))])) (.seq (.out [3] (.reg [1] [w 4 (.fieldAddr U5 [.l] 1),w 5 (.load U2 4),w 3 (.asg 5)])) (.seq (.seq c75_2 c75_4) (.seq c75_5 .ret))))
def c75 : AC := c75_6
def d75 : FD := { nargs := 1, body := c75, res := [.t 2] }
def c76_2 : AC := (.seq (.out [1] (.reg [0] [w 1 (.box U5 0),w 2 (.asg (.c .bool false))])) (.seq (.out [2] (.reg [1] [w 3 (.fieldAddr U5 [.l] 1),w 4 (.load U2 3),w 5 (.lenL 4),w 6 (.bin .eql 5 (.c U1 0)),w 2 (.asg 6)])) .ret))
def c76 : AC := c76_2
def d76 : FD := { nargs := 1, body := c76, res := [.t 2] }
def c118_0 : AC := .out [0] (.reg [0] [w 2 (.asg (.nil 3 U1))])
def c118_1 : AC := .out [0, 14] (.reg [0] [m 3 0,w 4 (.lenL 3),w 5 (.bin .gtr 4 (.c U1 0)),m 6 5,⟨some 7, .mv 0, some (6, true)⟩,⟨some 8, .mv 0, some (6, true)⟩,⟨some 9, .lenL 8, some (6, true)⟩,⟨some 10, .bin .sub 9 (.c U1 1), some (6, true)⟩,⟨some 11, .indexAddr U1 7 10, some (6, true)⟩,⟨some 12, .load U1 11, some (6, true)⟩,⟨some 13, .bin .eql 12 (.c U1 0), some (6, true)⟩,w 14 (.pick 6 13 (.c .bool false))])
def c118_2 : AC := .out [0] (.cond (.t 14) .skip (.exit 0))
def c118_3 : AC := .out [0] (.reg [0] [m 15 0,m 16 0,w 17 (.lenL 16),w 18 (.bin .sub 17 (.c U1 1)),w 19 (.sliceL U1 15 none (some 18) none),w 0 (.asg 19)])
def c118_4 : AC := .out [0] (.block 1 c118_3)
def c118_5 : AC := (.seq (.seq c118_1 c118_2) c118_4)
def c118_6 : AC := .out [0] (.loop [0] c118_5)
def c118_7 : AC := .out [0] (.block 0 c118_6)
def c118_8 : AC := .out [2] (.reg [0] [m 20 0,w 2 (.asg 20)])
def c118_9 : AC := (.seq c118_0 (.seq c118_7 (.seq c118_8 .ret)))
def c118 : AC := c118_9
def d118 : FD := { nargs := 1, body := c118, res := [.t 2] }
def c114_2 : AC := .out [1, 5, 17, 18, 19] (.reg [0, 1, 5] [m 17 0,w 18 (.lenL 17),w 19 (.mv (.c U1 0))])
def c114_3 : AC := .out [1, 5, 17, 18, 19, 20] (.reg [1, 5, 17, 18, 19] [w 20 (.bin .lss 19 18)])
def c114_4 : AC := .out [1, 5, 17, 18, 19] (.cond (.t 20) .skip (.exit 0))
def c114_7 : AC := .out [1, 5, 6, 7, 8, 17, 18, 19, 24, 25, 26] (.reg [1, 5, 6, 7, 8, 17, 18, 19] [m 24 1,w 25 (.lenL 24),w 26 (.mv (.c U1 0))])
def c114_8 : AC := .out [1, 5, 6, 7, 8, 17, 18, 19, 24, 25, 26, 27] (.reg [1, 5, 6, 7, 8, 17, 18, 19, 24, 25, 26] [w 27 (.bin .lss 26 25)])
def c114_9 : AC := .out [1, 5, 6, 7, 8, 17, 18, 19, 24, 25, 26] (.cond (.t 27) .skip (.exit 2))
def c114_14 : AC := (.seq (.out [1, 5, 6, 7, 8, 9, 10, 17, 18, 19, 24, 25, 26] (.reg [1, 5, 6, 7, 8, 17, 18, 19, 24, 25, 26] [m 28 26,w 29 (.indexAddr U1 24 26),w 30 (.load U1 29),w 9 (.asg 28),w 10 (.asg 30)])) (.seq (.out [1, 5, 6, 7, 8, 9, 17, 18, 19, 24, 25, 26] (.reg [1, 5, 6, 7, 8, 9, 10, 17, 18, 19, 24, 25, 26] [m 31 8,m 32 5,m 33 6,m 34 9,w 35 (.bin .add 33 34),w 36 (.indexAddr U1 32 35),w 37 (.load U1 36),m 38 7,m 39 10,w 40 (.bin .mul 38 39),w 41 (.bin .add 37 40),w 42 (.bin .add 31 41),w 8 (.asg 42)])) (.seq (.out [1, 5, 6, 7, 8, 17, 18, 19, 24, 25, 26] (.reg [1, 5, 6, 7, 8, 9, 17, 18, 19, 24, 25, 26] [m 43 5,m 44 6,m 45 9,w 46 (.bin .add 44 45),m 47 8,w 48 (.bin .rem 47 (.c U1 10000)),w 49 (.indexAddr U1 43 46),⟨none, .store U1 49 48, none⟩])) (.out [1, 5, 6, 7, 8, 17, 18, 19, 24, 25, 26] (.reg [1, 5, 6, 7, 8, 17, 18, 19, 24, 25, 26] [m 50 8,w 51 (.bin .quo 50 (.c U1 10000)),w 8 (.asg 51)])))))
def c114_15 : AC := .out [1, 5, 6, 7, 8, 17, 18, 19, 24, 25, 26] (.block 3 c114_14)
def c114_16 : AC := .out [1, 5, 6, 7, 8, 17, 18, 19, 24, 25, 26] (.reg [1, 5, 6, 7, 8, 17, 18, 19, 24, 25, 26] [w 52 (.bin .add 26 (.c U1 1)),m 26 52])
def c114_17 : AC := (.seq c114_8 (.seq c114_9 (.seq c114_15 c114_16)))
def c114_18 : AC := .out [1, 5, 6, 8, 17, 18, 19] (.loop [1, 5, 6, 7, 8, 17, 18, 19, 24, 25, 26] c114_17)
def c114_19 : AC := .out [1, 5, 6, 8, 17, 18, 19] (.block 2 c114_18)
def c114_20 : AC := .out [1, 5, 17, 18, 19] (.reg [1, 5, 6, 8, 17, 18, 19] [m 53 5,m 54 6,m 55 1,w 56 (.lenL 55),w 57 (.bin .add 54 56),w 58 (.indexAddr U1 53 57),w 59 (.load U1 58),m 60 8,w 61 (.bin .add 59 60),w 62 (.indexAddr U1 53 57),⟨none, .store U1 62 61, none⟩])
def c114_21 : AC := (.seq (.out [1, 5, 6, 7, 17, 18, 19] (.reg [1, 5, 17, 18, 19] [m 21 19,w 22 (.indexAddr U1 17 19),w 23 (.load U1 22),w 6 (.asg 21),w 7 (.asg 23)])) (.seq (.out [1, 5, 6, 7, 8, 17, 18, 19] (.reg [1, 5, 6, 7, 17, 18, 19] [w 8 (.asg (.c U1 0))])) (.seq (.seq c114_7 c114_19) c114_20)))
def c114_22 : AC := .out [1, 5, 17, 18, 19] (.block 1 c114_21)
def c114_23 : AC := .out [1, 5, 17, 18, 19] (.reg [1, 5, 17, 18, 19] [w 63 (.bin .add 19 (.c U1 1)),m 19 63])
def c114_24 : AC := (.seq c114_3 (.seq c114_4 (.seq c114_22 c114_23)))
def c114_25 : AC := .out [5] (.loop [1, 5, 17, 18, 19] c114_24)
def c114_26 : AC := .out [5] (.block 0 c114_25)
def c114_27 : AC := .out [4] (.reg [5] [m 64 5,w 65 (.call 118 [64]),w 4 (.asg 65)])
def c114_28 : AC := (.seq (.out [0, 1] (.reg [0, 1] [w 4 (.asg (.nil 3 U1))])) (.seq (.out [0, 1, 5] (.reg [0, 1] [m 11 0,w 12 (.lenL 11),m 13 1,w 14 (.lenL 13),w 15 (.bin .add 12 14),w 16 (.mkSlice 3 U1 17592186044416 15 15),w 5 (.asg 16)])) (.seq (.seq c114_2 c114_26) (.seq c114_27 .ret))))
def c114 : AC := c114_28
def d114 : FD := { nargs := 2, body := c114, res := [.t 4] }
def c96_0 : AC := .out [0, 1] (.reg [0, 1] [w 4 (.asg (.c U1 0))])
def c96_1 : AC := .out [0, 1, 10] (.reg [0, 1] [m 6 0,w 7 (.lenL 6),m 8 1,w 9 (.lenL 8),w 10 (.bin .neq 7 9)])
def c96_2 : AC := .out [15] (.reg [0, 1] [m 11 0,w 12 (.lenL 11),m 13 1,w 14 (.lenL 13),w 15 (.bin .lss 12 14)])
def c96_3 : AC := .out [4] (.reg [] [w 4 (.asg (.c U1 (-1)))])
def c96_4 : AC := .out [4] (.cond (.t 15) (.seq c96_3 .ret) .skip)
def c96_5 : AC := .out [4] (.reg [] [w 4 (.asg (.c U1 1))])
def c96_6 : AC := .out [0, 1, 4] (.cond (.t 10) (.seq (.seq c96_2 c96_4) (.seq c96_5 .ret)) .skip)
def c96_7 : AC := .out [0, 1, 5] (.reg [0, 1] [m 16 0,w 17 (.lenL 16),w 18 (.bin .sub 17 (.c U1 1)),w 5 (.asg 18)])
def c96_8 : AC := .out [0, 1, 5, 20] (.reg [0, 1, 5] [m 19 5,w 20 (.bin .geq 19 (.c U1 0))])
def c96_9 : AC := .out [0, 1, 5] (.cond (.t 20) .skip (.exit 0))
def c96_10 : AC := .out [0, 1, 5, 31] (.draw [0, 1, 5] [⟨m 23 0, [24, 27, 28, 29, 30], [23], [], false, []⟩,⟨m 24 5, [23, 27, 28, 29, 30], [24], [], false, []⟩,⟨w 25 (.indexAddr U1 23 24), [27, 28, 29, 30], [25], [0, 1], false, []⟩,⟨w 26 (.load U1 25), [27, 28, 29, 30], [26], [0, 1, 2], false, []⟩,⟨m 27 1, [23, 24, 25, 26, 28], [27], [], false, []⟩,⟨m 28 5, [23, 24, 25, 26, 27], [28], [], false, []⟩,⟨w 29 (.indexAddr U1 27 28), [23, 24, 25, 26], [29], [4, 5], false, []⟩,⟨w 30 (.load U1 29), [23, 24, 25, 26], [30], [4, 5, 6], false, []⟩,⟨w 31 (.bin .neq 26 30), [], [31], [0, 1, 2, 3, 4, 5, 6, 7], false, []⟩])
def c96_11 : AC := .out [40] (.draw [0, 1, 5] [⟨m 32 0, [33, 36, 37, 38, 39], [32], [], false, []⟩,⟨m 33 5, [32, 36, 37, 38, 39], [33], [], false, []⟩,⟨w 34 (.indexAddr U1 32 33), [36, 37, 38, 39], [34], [0, 1], false, []⟩,⟨w 35 (.load U1 34), [36, 37, 38, 39], [35], [0, 1, 2], false, []⟩,⟨m 36 1, [32, 33, 34, 35, 37], [36], [], false, []⟩,⟨m 37 5, [32, 33, 34, 35, 36], [37], [], false, []⟩,⟨w 38 (.indexAddr U1 36 37), [32, 33, 34, 35], [38], [4, 5], false, []⟩,⟨w 39 (.load U1 38), [32, 33, 34, 35], [39], [4, 5, 6], false, []⟩,⟨w 40 (.bin .lss 35 39), [], [40], [0, 1, 2, 3, 4, 5, 6, 7], false, []⟩])
def c96_12 : AC := .out [4] (.reg [] [w 4 (.asg (.c U1 (-1)))])
def c96_13 : AC := .out [4] (.cond (.t 40) (.seq c96_12 .ret) .skip)
def c96_14 : AC := .out [4] (.reg [] [w 4 (.asg (.c U1 1))])
def c96_15 : AC := .out [0, 1, 4, 5] (.cond (.t 31) (.seq (.seq c96_11 c96_13) (.seq c96_14 .ret)) .skip)
def c96_16 : AC := .out [0, 1, 4, 5] (.block 1 (.seq c96_10 c96_15))
def c96_17 : AC := .out [0, 1, 5] (.reg [0, 1, 5] [m 21 5,w 22 (.bin .sub 21 (.c U1 1)),w 5 (.asg 22)])
def c96_18 : AC := (.seq (.seq c96_8 c96_9) (.seq c96_16 c96_17))
def c96_19 : AC := .out [4] (.loop [0, 1, 5] c96_18)
def c96_20 : AC := .out [4] (.block 0 c96_19)
def c96_21 : AC := .out [4] (.reg [] [w 4 (.asg (.c U1 0))])
def c96_22 : AC := (.seq c96_0 (.seq (.seq c96_1 c96_6) (.seq (.seq c96_7 c96_20) (.seq c96_21 .ret))))
def c96 : AC := c96_22
def d96 : FD := { nargs := 2, body := c96, res := [.t 4] }
def c119_3 : AC := .out [1, 5, 6, 11, 12] (.reg [1, 5, 6] [m 10 5,w 11 (.lenL 10),w 12 (.mv (.c U1 0))])
def c119_4 : AC := .out [1, 5, 6, 11, 12, 13] (.reg [1, 5, 6, 11, 12] [w 13 (.bin .lss 12 11)])
def c119_5 : AC := .out [1, 5, 6, 11, 12] (.cond (.t 13) .skip (.exit 0))
def c119_8 : AC := .out [1, 5, 7, 11, 12, 25] (.reg [1, 5, 7, 11, 12] [m 22 7,m 23 1,w 24 (.lenL 23),w 25 (.bin .lss 22 24)])
def c119_9 : AC := .out [1, 5, 7, 11, 12] (.draw [1, 5, 7, 11, 12] [⟨m 26 5, [27, 30, 31, 32, 33], [26], [], false, []⟩,⟨m 27 7, [26, 30, 31, 32, 33], [27], [], false, []⟩,⟨w 28 (.indexAddr U1 26 27), [30, 31, 32, 33], [28], [0, 1], false, []⟩,⟨w 29 (.load U1 28), [30, 31, 32, 33], [29], [0, 1, 2], false, []⟩,⟨m 30 1, [26, 27, 28, 29, 31], [30], [], false, []⟩,⟨m 31 7, [26, 27, 28, 29, 30], [31], [], false, []⟩,⟨w 32 (.indexAddr U1 30 31), [26, 27, 28, 29], [32], [4, 5], false, []⟩,⟨w 33 (.load U1 32), [26, 27, 28, 29], [33], [4, 5, 6], false, []⟩,⟨w 34 (.bin .sub 29 33), [], [34], [0, 1, 2, 3, 4, 5, 6, 7], false, []⟩,⟨w 35 (.indexAddr U1 26 27), [], [35], [0, 1, 2, 3, 4, 5, 6, 7, 8], false, []⟩,⟨⟨none, .store U1 35 34, none⟩, [], [5, 26, 35], [0, 1, 2, 3, 4, 5, 6, 7, 8, 9], false, []⟩])
def c119_10 : AC := .out [1, 5, 7, 11, 12] (.cond (.t 25) c119_9 .skip)
def c119_11 : AC := (.seq c119_8 c119_10)
def c119_16 : AC := (.seq (.out [1, 5, 11, 12] (.reg [1, 5, 7, 11, 12] [m 41 5,m 42 7,w 43 (.indexAddr U1 41 42),w 44 (.load U1 43),w 45 (.bin .add 44 (.c U1 10000)),w 46 (.indexAddr U1 41 42),⟨none, .store U1 46 45, none⟩])) (.out [1, 5, 6, 11, 12] (.reg [1, 5, 11, 12] [w 6 (.asg (.c U1 1))])))
def c119_17 : AC := .out [1, 5, 6, 11, 12] (.cond (.t 40) c119_16 .skip)
def c119_18 : AC := (.seq (.out [1, 5, 6, 7, 11, 12] (.reg [1, 5, 7, 11, 12] [w 6 (.asg (.c U1 0))])) (.seq (.out [1, 5, 6, 7, 11, 12, 40] (.reg [1, 5, 6, 7, 11, 12] [m 36 5,m 37 7,w 38 (.indexAddr U1 36 37),w 39 (.load U1 38),w 40 (.bin .lss 39 (.c U1 0))])) c119_17))
def c119_19 : AC := (.seq (.out [1, 5, 6, 7, 11, 12] (.reg [1, 5, 6, 11, 12] [m 14 12,w 7 (.asg 14)])) (.seq (.out [1, 5, 7, 11, 12] (.reg [1, 5, 6, 7, 11, 12] [m 15 5,m 16 7,w 17 (.indexAddr U1 15 16),w 18 (.load U1 17),m 19 6,w 20 (.bin .sub 18 19),w 21 (.indexAddr U1 15 16),⟨none, .store U1 21 20, none⟩])) (.seq c119_11 c119_18)))
def c119_20 : AC := .out [1, 5, 6, 11, 12] (.block 1 c119_19)
def c119_21 : AC := .out [1, 5, 6, 11, 12] (.reg [1, 5, 6, 11, 12] [w 47 (.bin .add 12 (.c U1 1)),m 12 47])
def c119_22 : AC := (.seq c119_4 (.seq c119_5 (.seq c119_20 c119_21)))
def c119_23 : AC := .out [5] (.loop [1, 5, 6, 11, 12] c119_22)
def c119_24 : AC := .out [5] (.block 0 c119_23)
def c119_25 : AC := .out [4] (.reg [5] [m 48 5,w 49 (.call 118 [48]),w 4 (.asg 49)])
def c119_26 : AC := (.seq (.out [0, 1] (.reg [0, 1] [w 4 (.asg (.nil 3 U1))])) (.seq (.out [1, 5] (.reg [0, 1] [m 8 0,w 9 (.call 117 [8]),w 5 (.asg 9)])) (.seq (.out [1, 5, 6] (.reg [1, 5] [w 6 (.asg (.c U1 0))])) (.seq (.seq c119_3 c119_24) (.seq c119_25 .ret)))))
def c119 : AC := c119_26
def d119 : FD := { nargs := 2, body := c119, res := [.t 4] }
def c115_2 : AC := .out [0, 1, 6, 7, 8] (.reg [0, 1, 6, 7] [m 12 0,w 13 (.lenL 12),w 14 (.bin .sub 13 (.c U1 1)),w 8 (.asg 14)])
def c115_3 : AC := .out [0, 1, 6, 7, 8, 16] (.reg [0, 1, 6, 7, 8] [m 15 8,w 16 (.bin .geq 15 (.c U1 0))])
def c115_4 : AC := .out [0, 1, 6, 7, 8] (.cond (.t 16) .skip (.exit 0))
def c115_7 : AC := .out [0, 1, 6, 7, 8, 9, 10, 29] (.reg [0, 1, 6, 7, 8, 9, 10] [m 27 9,m 28 10,w 29 (.bin .lss 27 28)])
def c115_8 : AC := .out [0, 1, 6, 7, 8, 9, 10] (.cond (.t 29) .skip (.exit 2))
def c115_11 : AC := .out [0, 1, 6, 7, 8, 9, 10] (.reg [0, 1, 6, 7, 8, 10, 11] [m 42 11,w 9 (.asg 42)])
def c115_12 : AC := .out [0, 1, 6, 7, 8, 9, 10] (.reg [0, 1, 6, 7, 8, 9, 11] [m 43 11,w 44 (.bin .sub 43 (.c U1 1)),w 10 (.asg 44)])
def c115_13 : AC := .out [0, 1, 6, 7, 8, 9, 10] (.cond (.t 41) c115_11 c115_12)
def c115_14 : AC := (.seq (.out [0, 1, 6, 7, 8, 9, 10, 11] (.reg [0, 1, 6, 7, 8, 9, 10] [m 30 9,m 31 10,w 32 (.bin .add 30 31),w 33 (.bin .add 32 (.c U1 1)),w 34 (.bin .quo 33 (.c U1 2)),w 11 (.asg 34)])) (.seq (.out [0, 1, 6, 7, 8, 9, 10, 11, 41] (.reg [0, 1, 6, 7, 8, 9, 10, 11] [m 35 1,m 36 11,w 37 (.buildSlice 3 U1 [36]),w 38 (.call 114 [35, 37]),m 39 7,w 40 (.call 96 [38, 39]),w 41 (.bin .leq 40 (.c U1 0))])) c115_13))
def c115_15 : AC := .out [0, 1, 6, 7, 8, 9, 10] (.block 3 c115_14)
def c115_16 : AC := (.seq (.seq c115_7 c115_8) c115_15)
def c115_17 : AC := .out [0, 1, 6, 7, 8, 9] (.loop [0, 1, 6, 7, 8, 9, 10] c115_16)
def c115_18 : AC := .out [0, 1, 6, 7, 8, 9] (.block 2 c115_17)
def c115_19 : AC := .out [0, 1, 6, 7, 8, 9, 46] (.reg [0, 1, 6, 7, 8, 9] [m 45 9,w 46 (.bin .gtr 45 (.c U1 0))])
def c115_20 : AC := .out [0, 1, 6, 7, 8, 9] (.reg [0, 1, 6, 7, 8, 9] [m 47 7,m 48 1,m 49 9,w 50 (.buildSlice 3 U1 [49]),w 51 (.call 114 [48, 50]),w 52 (.call 119 [47, 51]),w 7 (.cp 52)])
def c115_21 : AC := .out [0, 1, 6, 7, 8, 9] (.cond (.t 46) c115_20 .skip)
def c115_22 : AC := (.seq c115_19 c115_21)
def c115_23 : AC := .out [0, 1, 6, 7, 8] (.reg [0, 1, 6, 7, 8, 9] [m 53 6,m 54 9,w 55 (.buildSlice 3 U1 [54]),w 56 (.append 3 U1 17592186044416 53 55),w 6 (.asg 56)])
def c115_24 : AC := (.seq (.out [0, 1, 6, 7, 8] (.reg [0, 1, 6, 7, 8] [m 19 0,m 20 8,w 21 (.indexAddr U1 19 20),w 22 (.load U1 21),w 23 (.buildSlice 3 U1 [22]),m 24 7,w 25 (.append 3 U1 17592186044416 23 24),w 26 (.call 118 [25]),w 7 (.cp 26)])) (.seq (.out [0, 1, 6, 7, 8, 9, 10] (.reg [0, 1, 6, 7, 8] [w 9 (.asg (.c U1 0)),w 10 (.asg (.c U1 9999))])) (.seq c115_18 (.seq c115_22 c115_23))))
def c115_25 : AC := .out [0, 1, 6, 7, 8] (.block 1 c115_24)
def c115_26 : AC := .out [0, 1, 6, 7, 8] (.reg [0, 1, 6, 7, 8] [m 17 8,w 18 (.bin .sub 17 (.c U1 1)),w 8 (.asg 18)])
def c115_27 : AC := (.seq (.seq c115_3 c115_4) (.seq c115_25 c115_26))
def c115_28 : AC := .out [6, 7] (.loop [0, 1, 6, 7, 8] c115_27)
def c115_29 : AC := .out [6, 7] (.block 0 c115_28)
def c115_32 : AC := (.seq (.out [6, 7] (.reg [6, 7] [m 57 6,w 58 (.wrl 120 57)])) (.seq (.out [4, 5] (.reg [6, 7] [m 59 6,w 60 (.call 118 [59]),m 61 7,w 4 (.asg 60),w 5 (.asg 61)])) .ret))
def c115_33 : AC := (.seq (.out [0, 1] (.reg [0, 1] [w 4 (.asg (.nil 3 U1)),w 5 (.asg (.nil 3 U1))])) (.seq (.out [0, 1, 6, 7] (.reg [0, 1] [w 6 (.asg (.nil 3 U1)),w 7 (.cp (.nil 3 U1))])) (.seq (.seq c115_2 c115_29) c115_32)))
def c115 : AC := c115_33
def d115 : FD := { nargs := 2, body := c115, res := [.t 4, .t 5] }
def c105_2 : AC := .out [0, 2, 7] (.reg [0, 2] [m 5 0,w 6 (.lenL 5),w 7 (.bin .eql 6 (.c U1 0))])
def c105_3 : AC := .out [2] (.reg [2] [w 8 (.buildN U5 (.pair (.own true 3 .no) .no) []),⟨none, .store U5 2 8, none⟩])
def c105_4 : AC := .out [0, 2] (.cond (.t 7) (.seq c105_3 .ret) .skip)
def c105_5 : AC := .out [2] (.reg [0, 2] [m 9 0,w 10 (.build U5 [([.l], 9)]),⟨none, .store U5 2 10, none⟩])
def c105_6 : AC := (.seq (.out [0, 2] (.reg [0] [w 2 (.alloc U5 (.pair (.own true 3 .no) .no))])) (.seq (.out [0, 2] (.reg [0, 2] [m 3 0,w 4 (.call 118 [3]),w 0 (.asg 4)])) (.seq (.seq c105_2 c105_4) (.seq c105_5 .ret))))
def c105 : AC := c105_6
def d105 : FD := { nargs := 1, body := c105, res := [.cell 2 U5] }
def c101_0 : AC := .out [2, 3, 4] (.reg [0, 1] [w 2 (.box U5 0),w 3 (.box U5 1),w 4 (.alloc U5 (.pair (.own true 3 .no) .no)),w 5 (.asg (.c U1 0))])
def c101_1 : AC := .out [2, 3, 4, 17] (.reg [2, 3, 4] [w 10 (.load U5 2),w 11 (.call 75 [10]),w 12 (.un .not 11),m 13 12,⟨some 14, .load U5 3, some (13, false)⟩,⟨some 15, .call 75 [14], some (13, false)⟩,⟨some 16, .un .not 15, some (13, false)⟩,w 17 (.pick 13 (.c .bool true) 16)])
def c101_2 : AC := .out [4, 5] (.reg [4] [w 18 (.buildN U5 (.pair (.own true 3 .no) .no) []),⟨none, .store U5 4 18, none⟩,w 5 (.asg (.c U1 1))])
def c101_3 : AC := .out [2, 3, 4, 5] (.cond (.t 17) (.seq c101_2 .ret) .skip)
def c101_4 : AC := .out [4, 6, 7] (.draw [2, 3, 4] [⟨w 19 (.fieldAddr U5 [.l] 2), [22, 23], [19], [], false, []⟩,⟨w 20 (.load U2 19), [22, 23], [20], [0], false, []⟩,⟨w 21 (.call 117 [20]), [22, 23], [21], [0, 1], false, []⟩,⟨w 22 (.fieldAddr U5 [.l] 3), [19, 20, 21], [22], [], false, []⟩,⟨w 23 (.load U2 22), [19, 20, 21], [23], [3], false, []⟩,⟨w 24 (.call 117 [23]), [], [24], [0, 1, 2, 3, 4], true, []⟩,⟨w 6 (.cp 21), [], [6], [0, 1, 2, 3, 4, 5], true, []⟩,⟨w 7 (.cp 24), [], [7], [0, 1, 2, 3, 4, 5, 6], true, []⟩])
def c101_5 : AC := .out [4, 6, 7, 27] (.reg [4, 6, 7] [m 25 7,w 26 (.lenL 25),w 27 (.bin .gtr 26 (.c U1 0))])
def c101_6 : AC := .out [4, 6, 7] (.cond (.t 27) .skip (.exit 0))
def c101_9 : AC := (.seq (.out [4, 7, 9] (.reg [4, 6, 7] [m 29 6,m 30 7,w 31 (.call 115 [29, 30]),m 28 31,w 32 (.extract 28 0),w 33 (.extract 28 1),w 8 (.asg 32),w 9 (.asg 33)])) (.out [4, 6, 7] (.reg [4, 7, 9] [m 34 7,m 35 9,w 6 (.cp 34),w 7 (.cp 35)])))
def c101_10 : AC := .out [4, 6, 7] (.block 1 c101_9)
def c101_11 : AC := (.seq (.seq c101_5 c101_6) c101_10)
def c101_12 : AC := .out [4, 6] (.loop [4, 6, 7] c101_11)
def c101_13 : AC := .out [4, 6] (.block 0 c101_12)
def c101_14 : AC := .out [4, 5] (.reg [4, 6] [m 36 6,w 37 (.call 105 [36]),⟨none, .store U5 4 37, none⟩,w 5 (.asg (.c U1 0))])
def c101_15 : AC := (.seq c101_0 (.seq (.seq c101_1 c101_3) (.seq c101_4 (.seq c101_13 (.seq c101_14 .ret)))))
def c101 : AC := c101_15
def d101 : FD := { nargs := 2, body := c101, res := [.cell 4 U5, .t 5] }
def c81_0 : AC := .out [0, 2] (.reg [0] [w 2 (.alloc U5 (.pair (.own true 3 .no) .no)),w 3 (.asg (.c U1 0))])
def c81_1 : AC := .out [0, 2, 6] (.reg [0, 2] [m 5 0,w 6 (.bin .lss 5 (.c U1 0))])
def c81_2 : AC := .out [2, 3] (.reg [2] [w 7 (.buildN U5 (.pair (.own true 3 .no) .no) []),⟨none, .store U5 2 7, none⟩,w 3 (.asg (.c U1 6))])
def c81_3 : AC := .out [0, 2, 3] (.cond (.t 6) (.seq c81_2 .ret) .skip)
def c81_4 : AC := .out [0, 2, 4] (.reg [0, 2] [w 4 (.asg (.nil 3 U1))])
def c81_5 : AC := .out [0, 2, 4, 9] (.reg [0, 2, 4] [m 8 0,w 9 (.bin .gtr 8 (.c U1 0))])
def c81_6 : AC := .out [0, 2, 4] (.cond (.t 9) .skip (.exit 0))
def c81_7 : AC := .out [0, 2, 4] (.reg [0, 2, 4] [m 12 4,m 13 0,w 14 (.bin .rem 13 (.c U1 10000)),w 15 (.buildSlice 3 U1 [14]),w 16 (.append 3 U1 17592186044416 12 15),w 4 (.asg 16)])
def c81_8 : AC := .out [0, 2, 4] (.block 1 c81_7)
def c81_9 : AC := .out [0, 2, 4] (.reg [0, 2, 4] [m 10 0,w 11 (.bin .quo 10 (.c U1 10000)),w 0 (.asg 11)])
def c81_10 : AC := (.seq (.seq c81_5 c81_6) (.seq c81_8 c81_9))
def c81_11 : AC := .out [2, 4] (.loop [0, 2, 4] c81_10)
def c81_12 : AC := .out [2, 4] (.block 0 c81_11)
def c81_13 : AC := .out [2, 3] (.reg [2, 4] [m 17 4,w 18 (.call 105 [17]),⟨none, .store U5 2 18, none⟩,w 3 (.asg (.c U1 0))])
def c81_14 : AC := (.seq c81_0 (.seq (.seq c81_1 c81_3) (.seq c81_4 (.seq c81_12 (.seq c81_13 .ret)))))
def c81 : AC := c81_14
def d81 : FD := { nargs := 1, body := c81, res := [.cell 2 U5, .t 3] }
def c95_3 : AC := (.seq (.out [0, 2] (.reg [0] [w 2 (.alloc U5 (.pair (.own true 3 .no) .no))])) (.seq (.out [2, 3] (.reg [0, 2] [m 6 0,w 7 (.call 81 [6]),m 5 7,w 8 (.extract 5 0),w 9 (.extract 5 1),w 3 (.alloc U5 (.pair (.own true 3 .no) .no)),⟨none, .store U5 3 8, none⟩,w 4 (.asg 9)])) (.seq (.out [2] (.reg [2, 3] [w 10 (.load U5 3),⟨none, .store U5 2 10, none⟩])) .ret)))
def c95 : AC := c95_3
def d95 : FD := { nargs := 1, body := c95, res := [.cell 2 U5] }
def c69_2 : AC := (.seq (.out [2, 3] (.reg [0, 1] [w 2 (.box U5 0),w 3 (.box U5 1),w 4 (.asg (.c U1 0))])) (.seq (.out [4] (.reg [2, 3] [w 5 (.fieldAddr U5 [.l] 2),w 6 (.load U2 5),w 7 (.fieldAddr U5 [.l] 3),w 8 (.load U2 7),w 9 (.call 96 [6, 8]),w 4 (.asg 9)])) .ret))
def c69 : AC := c69_2
def d69 : FD := { nargs := 2, body := c69, res := [.t 4] }
def c97_0 : AC := .out [1] (.reg [0] [w 1 (.box U12 0),w 2 (.asg (.c .bool false))])
def c97_1 : AC := .out [1, 28] (.reg [1] [w 5 (.fieldAddr U12 [.r, .l] 1),w 6 (.load U5 5),w 7 (.call 75 [6]),w 8 (.un .not 7),m 9 8,⟨some 10, .fieldAddr U12 [.r, .r, .l] 1, some (9, false)⟩,⟨some 11, .load U5 10, some (9, false)⟩,⟨some 12, .call 75 [11], some (9, false)⟩,⟨some 13, .un .not 12, some (9, false)⟩,w 14 (.pick 9 (.c .bool true) 13),m 15 14,⟨some 16, .fieldAddr U12 [.r, .r, .l] 1, some (15, false)⟩,⟨some 17, .load U5 16, some (15, false)⟩,⟨some 18, .call 76 [17], some (15, false)⟩,w 19 (.pick 15 (.c .bool true) 18),m 20 19,⟨some 21, .fieldAddr U12 [.r, .l] 1, some (20, false)⟩,⟨some 22, .load U5 21, some (20, false)⟩,⟨some 23, .call 76 [22], some (20, false)⟩,⟨some 24, .mv 23, some (20, false)⟩,⟨some 25, .fieldAddr U12 [.l] 1, some (24, true)⟩,⟨some 26, .load .bool 25, some (24, true)⟩,⟨some 27, .pick 24 26 (.c .bool false), some (20, false)⟩,w 28 (.pick 20 (.c .bool true) 27)])
def c97_2 : AC := .out [2] (.reg [] [w 2 (.asg (.c .bool false))])
def c97_3 : AC := .out [1, 2] (.cond (.t 28) (.seq c97_2 .ret) .skip)
def c97_6 : AC := (.seq (.out [3, 4] (.reg [1] [w 30 (.fieldAddr U12 [.r, .l] 1),w 31 (.load U5 30),w 32 (.fieldAddr U12 [.r, .r, .l] 1),w 33 (.load U5 32),w 34 (.call 101 [31, 33]),m 29 34,w 35 (.extract 29 0),w 36 (.extract 29 1),w 3 (.alloc U5 (.pair (.own true 3 .no) .no)),⟨none, .store U5 3 35, none⟩,w 4 (.asg 36)])) (.seq (.out [2] (.draw [3, 4] [⟨m 37 4, [], [37], [], false, []⟩,⟨w 38 (.bin .eql 37 (.c U1 0)), [], [38], [0], false, []⟩,⟨m 39 38, [], [39], [0, 1], false, []⟩,⟨⟨some 40, .load U5 3, some (39, true)⟩, [41], [40], [0, 1, 2], false, []⟩,⟨⟨some 41, .call 95 [(.c U1 1)], some (39, true)⟩, [40], [41], [0, 1, 2], false, []⟩,⟨⟨some 42, .call 69 [40, 41], some (39, true)⟩, [], [42], [0, 1, 2, 3, 4], false, []⟩,⟨⟨some 43, .bin .eql 42 (.c U1 0), some (39, true)⟩, [], [43], [0, 1, 2, 3, 4, 5], false, []⟩,⟨w 44 (.pick 39 43 (.c .bool false)), [], [44], [0, 1, 2, 3, 4, 5, 6], false, []⟩,⟨w 2 (.asg 44), [], [2], [0, 1, 2, 3, 4, 5, 6, 7], false, []⟩])) .ret))
def c97_7 : AC := (.seq c97_0 (.seq (.seq c97_1 c97_3) c97_6))
def c97 : AC := c97_7
def d97 : FD := { nargs := 1, body := c97, res := [.t 2] }
def c49_3 : AC := (.seq (.out [0, 2] (.reg [0] [w 2 (.alloc U5 (.pair (.own true 3 .no) .no))])) (.seq (.out [2, 3] (.reg [0, 2] [m 6 0,w 7 (.call 81 [6]),m 5 7,w 8 (.extract 5 0),w 9 (.extract 5 1),w 3 (.alloc U5 (.pair (.own true 3 .no) .no)),⟨none, .store U5 3 8, none⟩,w 4 (.asg 9)])) (.seq (.out [2] (.reg [2, 3] [w 10 (.load U5 3),⟨none, .store U5 2 10, none⟩])) .ret)))
def c49 : AC := c49_3
def d49 : FD := { nargs := 1, body := c49, res := [.cell 2 U5] }
def c98_0 : AC := .out [1] (.reg [0] [w 1 (.box U5 0),w 2 (.asg (.c U1 0))])
def c98_1 : AC := .out [1, 6] (.reg [1] [w 3 (.fieldAddr U5 [.l] 1),w 4 (.load U2 3),w 5 (.lenL 4),w 6 (.bin .eql 5 (.c U1 0))])
def c98_2 : AC := .out [2] (.reg [] [w 2 (.asg (.c U1 0))])
def c98_3 : AC := .out [1, 2] (.cond (.t 6) (.seq c98_2 .ret) .skip)
def c98_4 : AC := .out [2] (.reg [1] [w 7 (.fieldAddr U5 [.l] 1),w 8 (.load U2 7),w 9 (.indexAddr U1 8 (.c U1 0)),w 10 (.load U1 9),w 2 (.asg 10)])
def c98_5 : AC := (.seq c98_0 (.seq (.seq c98_1 c98_3) (.seq c98_4 .ret)))
def c98 : AC := c98_5
def d98 : FD := { nargs := 1, body := c98, res := [.t 2] }
def c74_0 : AC := .out [1] (.reg [0] [w 1 (.box U12 0),w 2 (.asg (.c U1 0)),w 3 (.asg (.c U1 0)),w 4 (.asg (.c U1 0))])
def c74_1 : AC := .out [1, 7] (.reg [1] [w 5 (.load U12 1),w 6 (.call 97 [5]),w 7 (.un .not 6)])
def c74_2 : AC := .out [2, 3, 4] (.reg [] [w 2 (.asg (.c U1 0)),w 3 (.asg (.c U1 0)),w 4 (.asg (.c U1 1))])
def c74_3 : AC := .out [1, 2, 3, 4] (.cond (.t 7) (.seq c74_2 .ret) .skip)
def c74_4 : AC := .out [1, 24] (.draw [1] [⟨w 8 (.fieldAddr U12 [.l] 1), [], [8], [], false, []⟩,⟨w 9 (.load .bool 8), [], [9], [0], false, []⟩,⟨m 10 9, [], [10], [0, 1], false, []⟩,⟨⟨some 11, .fieldAddr U12 [.r, .l] 1, some (10, false)⟩, [13, 14], [11], [0, 1, 2], false, []⟩,⟨⟨some 12, .load U5 11, some (10, false)⟩, [13, 14], [12], [0, 1, 2, 3], false, []⟩,⟨⟨some 13, .fieldAddr U12 [.r, .r, .l] 1, some (10, false)⟩, [11, 12], [13], [0, 1, 2], false, []⟩,⟨⟨some 14, .load U5 13, some (10, false)⟩, [11, 12], [14], [0, 1, 2, 5], false, []⟩,⟨⟨some 15, .call 69 [12, 14], some (10, false)⟩, [], [15], [0, 1, 2, 3, 4, 5, 6], false, []⟩,⟨⟨some 16, .bin .gtr 15 (.c U1 0), some (10, false)⟩, [], [16], [0, 1, 2, 3, 4, 5, 6, 7], false, []⟩,⟨w 17 (.pick 10 (.c .bool true) 16), [], [17], [0, 1, 2, 3, 4, 5, 6, 7, 8], false, []⟩,⟨m 18 17, [], [18], [0, 1, 2, 3, 4, 5, 6, 7, 8, 9], false, []⟩,⟨⟨some 19, .fieldAddr U12 [.r, .r, .l] 1, some (18, false)⟩, [21], [19], [0, 1, 2, 3, 4, 5, 6, 7, 8, 9, 10], false, []⟩,⟨⟨some 20, .load U5 19, some (18, false)⟩, [21], [20], [0, 1, 2, 3, 4, 5, 6, 7, 8, 9, 10, 11], false, []⟩,⟨⟨some 21, .call 49 [(.c U1 1000)], some (18, false)⟩, [19, 20], [21], [0, 1, 2, 3, 4, 5, 6, 7, 8, 9, 10], false, []⟩,⟨⟨some 22, .call 69 [20, 21], some (18, false)⟩, [], [22], [0, 1, 2, 3, 4, 5, 6, 7, 8, 9, 10, 11, 12, 13], false, []⟩,⟨⟨some 23, .bin .gtr 22 (.c U1 0), some (18, false)⟩, [], [23], [0, 1, 2, 3, 4, 5, 6, 7, 8, 9, 10, 11, 12, 13, 14], false, []⟩,⟨w 24 (.pick 18 (.c .bool true) 23), [], [24], [0, 1, 2, 3, 4, 5, 6, 7, 8, 9, 10, 11, 12, 13, 14, 15], false, []⟩])
def c74_5 : AC := .out [2, 3, 4] (.reg [] [w 2 (.asg (.c U1 0)),w 3 (.asg (.c U1 0)),w 4 (.asg (.c U1 6))])
def c74_6 : AC := .out [1, 2, 3, 4] (.cond (.t 24) (.seq c74_5 .ret) .skip)
def c74_7 : AC := .out [2, 3, 4] (.draw [1] [⟨w 25 (.fieldAddr U12 [.r, .l] 1), [28, 29], [25], [], false, []⟩,⟨w 26 (.load U5 25), [28, 29], [26], [0], false, []⟩,⟨w 27 (.call 98 [26]), [28, 29], [27], [0, 1], false, []⟩,⟨w 28 (.fieldAddr U12 [.r, .r, .l] 1), [25, 26, 27], [28], [], false, []⟩,⟨w 29 (.load U5 28), [25, 26, 27], [29], [3], false, []⟩,⟨w 30 (.call 98 [29]), [], [30], [0, 1, 2, 3, 4], false, []⟩,⟨w 2 (.asg 27), [], [2], [0, 1, 2, 3, 4, 5], false, []⟩,⟨w 3 (.asg 30), [], [3], [0, 1, 2, 3, 4, 5, 6], false, []⟩,⟨w 4 (.asg (.c U1 0)), [], [4], [0, 1, 2, 3, 4, 5, 6, 7], false, []⟩])
def c74_8 : AC := (.seq c74_0 (.seq (.seq c74_1 c74_3) (.seq (.seq c74_4 c74_6) (.seq c74_7 .ret))))
def c74 : AC := c74_8
def d74 : FD := { nargs := 1, body := c74, res := [.t 2, .t 3, .t 4] }
def c43_2 : AC := .out [0, 1, 2, 3, 13, 14, 15, 23] (.reg [0, 1, 2, 3, 13, 14, 15] [m 22 15,w 23 (.bin .neq 22 (.c U1 0))])
def c43_3 : AC := .out [10, 11, 12] (.reg [15] [m 24 15,w 10 (.asg (.c U1 0)),w 11 (.asg (.c U1 0)),w 12 (.asg 24)])
def c43_4 : AC := .out [0, 1, 2, 3, 10, 11, 12, 13, 14] (.cond (.t 23) (.seq c43_3 .ret) .skip)
def c43_5 : AC := .out [13, 14, 40] (.reg [0, 1, 2, 3, 13, 14] [m 25 0,w 26 (.bin .lss 25 (.c U1 0)),m 27 26,⟨some 28, .mv 0, some (27, false)⟩,⟨some 29, .mv 2, some (27, false)⟩,⟨some 30, .bin .gtr 28 29, some (27, false)⟩,w 31 (.pick 27 (.c .bool true) 30),m 32 31,⟨some 33, .mv 1, some (32, false)⟩,⟨some 34, .bin .lss 33 (.c U1 0), some (32, false)⟩,w 35 (.pick 32 (.c .bool true) 34),m 36 35,⟨some 37, .mv 1, some (36, false)⟩,⟨some 38, .mv 3, some (36, false)⟩,⟨some 39, .bin .gtr 37 38, some (36, false)⟩,w 40 (.pick 36 (.c .bool true) 39)])
def c43_6 : AC := .out [10, 11, 12] (.reg [] [w 10 (.asg (.c U1 0)),w 11 (.asg (.c U1 0)),w 12 (.asg (.c U1 6))])
def c43_7 : AC := .out [10, 11, 12, 13, 14] (.cond (.t 40) (.seq c43_6 .ret) .skip)
def c43_8 : AC := .out [10, 11, 12] (.reg [13, 14] [m 41 13,m 42 14,w 10 (.asg 41),w 11 (.asg 42),w 12 (.asg (.c U1 0))])
def c43_9 : AC := (.seq (.out [0, 1, 2, 3, 9] (.reg [0, 1, 2, 3, 4] [w 9 (.box U12 4),w 10 (.asg (.c U1 0)),w 11 (.asg (.c U1 0)),w 12 (.asg (.c U1 0))])) (.seq (.out [0, 1, 2, 3, 13, 14, 15] (.reg [0, 1, 2, 3, 9] [w 17 (.load U12 9),w 18 (.call 74 [17]),m 16 18,w 19 (.extract 16 0),w 20 (.extract 16 1),w 21 (.extract 16 2),w 13 (.asg 19),w 14 (.asg 20),w 15 (.asg 21)])) (.seq (.seq c43_2 c43_4) (.seq (.seq c43_5 c43_7) (.seq c43_8 .ret)))))
def c43 : AC := c43_9
def d43 : FD := { nargs := 5, body := c43, res := [.t 10, .t 11, .t 12] }
def c106_0 : AC := .out [0, 2] (.reg [0] [w 2 (.alloc U5 (.pair (.own true 3 .no) .no)),w 3 (.asg (.c U1 0))])
def c106_1 : AC := .out [0, 2, 6] (.reg [0, 2] [m 4 0,w 5 (.lenL 4),w 6 (.bin .gtr 5 (.c U1 200))])
def c106_2 : AC := .out [2, 3] (.reg [2] [w 7 (.buildN U5 (.pair (.own true 3 .no) .no) []),⟨none, .store U5 2 7, none⟩,w 3 (.asg (.c U1 3))])
def c106_3 : AC := .out [0, 2, 3] (.cond (.t 6) (.seq c106_2 .ret) .skip)
def c106_4 : AC := .out [2, 3] (.reg [0, 2] [m 8 0,w 9 (.call 105 [8]),⟨none, .store U5 2 9, none⟩,w 3 (.asg (.c U1 0))])
def c106_5 : AC := (.seq c106_0 (.seq (.seq c106_1 c106_3) (.seq c106_4 .ret)))
def c106 : AC := c106_5
def d106 : FD := { nargs := 1, body := c106, res := [.cell 2 U5, .t 3] }
def c92_0 : AC := .out [0, 1, 4] (.reg [0, 1] [w 4 (.alloc U5 (.pair (.own true 3 .no) .no)),w 5 (.asg (.c U1 0))])
def c92_1 : AC := .out [0, 1, 4, 22] (.reg [0, 1, 4] [m 8 0,w 9 (.bin .lss 8 (.c U1 0)),m 10 9,⟨some 11, .mv 0, some (10, false)⟩,⟨some 12, .bin .gtr 11 (.c U1 400), some (10, false)⟩,w 13 (.pick 10 (.c .bool true) 12),m 14 13,⟨some 15, .mv 1, some (14, false)⟩,⟨some 16, .bin .lss 15 (.c U1 0), some (14, false)⟩,w 17 (.pick 14 (.c .bool true) 16),m 18 17,⟨some 19, .mv 1, some (18, false)⟩,⟨some 20, .mv 0, some (18, false)⟩,⟨some 21, .bin .gtr 19 20, some (18, false)⟩,w 22 (.pick 18 (.c .bool true) 21)])
def c92_2 : AC := .out [4, 5] (.reg [4] [w 23 (.buildN U5 (.pair (.own true 3 .no) .no) []),⟨none, .store U5 4 23, none⟩,w 5 (.asg (.c U1 6))])
def c92_3 : AC := .out [0, 1, 4, 5] (.cond (.t 22) (.seq c92_2 .ret) .skip)
def c92_4 : AC := .out [0, 1, 4, 6] (.reg [0, 1, 4] [w 24 (.buildSlice 3 U1 [(.c U1 1)]),w 6 (.cp 24)])
def c92_5 : AC := .out [0, 1, 4, 6, 7] (.reg [0, 1, 4, 6] [w 7 (.asg (.c U1 1))])
def c92_6 : AC := .out [0, 1, 4, 6, 7, 31] (.reg [0, 1, 4, 6, 7] [m 25 7,m 26 1,m 27 0,m 28 1,w 29 (.bin .sub 27 28),w 30 (.mm false 26 29),w 31 (.bin .leq 25 30)])
def c92_7 : AC := .out [0, 1, 4, 6, 7] (.cond (.t 31) .skip (.exit 0))
def c92_10 : AC := (.seq (.out [0, 1, 4, 6, 7] (.reg [0, 1, 4, 6, 7] [m 34 6,m 35 0,w 36 (.bin .add 35 (.c U1 1)),m 37 7,w 38 (.bin .sub 36 37),w 39 (.buildSlice 3 U1 [38]),w 40 (.call 114 [34, 39]),w 6 (.cp 40)])) (.out [0, 1, 4, 6, 7] (.reg [0, 1, 4, 6, 7] [m 42 6,m 43 7,w 44 (.buildSlice 3 U1 [43]),w 45 (.call 115 [42, 44]),m 41 45,w 46 (.extract 41 0),w 47 (.extract 41 1),w 6 (.cp 46)])))
def c92_11 : AC := .out [0, 1, 4, 6, 7] (.block 1 c92_10)
def c92_12 : AC := .out [0, 1, 4, 6, 7] (.reg [0, 1, 4, 6, 7] [m 32 7,w 33 (.bin .add 32 (.c U1 1)),w 7 (.asg 33)])
def c92_13 : AC := (.seq (.seq c92_6 c92_7) (.seq c92_11 c92_12))
def c92_14 : AC := .out [4, 6] (.loop [0, 1, 4, 6, 7] c92_13)
def c92_15 : AC := .out [4, 6] (.block 0 c92_14)
def c92_16 : AC := .out [4, 5] (.reg [4, 6] [m 48 6,w 49 (.call 106 [48]),w 50 (.extract 49 0),w 51 (.extract 49 1),⟨none, .store U5 4 50, none⟩,w 5 (.asg 51)])
def c92_17 : AC := (.seq c92_0 (.seq (.seq c92_1 c92_3) (.seq c92_4 (.seq (.seq c92_5 c92_15) (.seq c92_16 .ret)))))
def c92 : AC := c92_17
def d92 : FD := { nargs := 2, body := c92, res := [.cell 4 U5, .t 5] }
def c64_0 : AC := .out [0, 1, 4] (.reg [0, 1] [w 4 (.alloc U5 (.pair (.own true 3 .no) .no))])
def c64_1 : AC := .out [0, 1, 4, 13] (.reg [0, 1, 4] [m 7 1,w 8 (.bin .lss 7 (.c U1 0)),m 9 8,⟨some 10, .mv 1, some (9, false)⟩,⟨some 11, .mv 0, some (9, false)⟩,⟨some 12, .bin .gtr 10 11, some (9, false)⟩,w 13 (.pick 9 (.c .bool true) 12)])
def c64_2 : AC := .out [4] (.reg [4] [w 14 (.call 49 [(.c U1 0)]),⟨none, .store U5 4 14, none⟩])
def c64_3 : AC := .out [0, 1, 4] (.cond (.t 13) (.seq c64_2 .ret) .skip)
def c64_6 : AC := (.seq (.out [4, 5] (.reg [0, 1, 4] [m 16 0,m 17 1,w 18 (.call 92 [16, 17]),m 15 18,w 19 (.extract 15 0),w 20 (.extract 15 1),w 5 (.alloc U5 (.pair (.own true 3 .no) .no)),⟨none, .store U5 5 19, none⟩,w 6 (.asg 20)])) (.seq (.out [4] (.reg [4, 5] [w 21 (.load U5 5),⟨none, .store U5 4 21, none⟩])) .ret))
def c64_7 : AC := (.seq c64_0 (.seq (.seq c64_1 c64_3) c64_6))
def c64 : AC := c64_7
def d64 : FD := { nargs := 2, body := c64, res := [.cell 4 U5] }
def c103_0 : AC := .out [2, 3, 4] (.reg [0, 1] [w 2 (.box U5 0),w 3 (.box U5 1),w 4 (.alloc U5 (.pair (.own true 3 .no) .no)),w 5 (.asg (.c U1 0))])
def c103_1 : AC := .out [2, 3, 4, 13] (.reg [2, 3, 4] [w 6 (.load U5 2),w 7 (.call 75 [6]),w 8 (.un .not 7),m 9 8,⟨some 10, .load U5 3, some (9, false)⟩,⟨some 11, .call 75 [10], some (9, false)⟩,⟨some 12, .un .not 11, some (9, false)⟩,w 13 (.pick 9 (.c .bool true) 12)])
def c103_2 : AC := .out [4, 5] (.reg [4] [w 14 (.buildN U5 (.pair (.own true 3 .no) .no) []),⟨none, .store U5 4 14, none⟩,w 5 (.asg (.c U1 1))])
def c103_3 : AC := .out [2, 3, 4, 5] (.cond (.t 13) (.seq c103_2 .ret) .skip)
def c103_4 : AC := .out [4, 5] (.reg [2, 3, 4] [w 15 (.fieldAddr U5 [.l] 2),w 16 (.load U2 15),w 17 (.fieldAddr U5 [.l] 3),w 18 (.load U2 17),w 19 (.call 114 [16, 18]),w 20 (.call 106 [19]),w 21 (.extract 20 0),w 22 (.extract 20 1),⟨none, .store U5 4 21, none⟩,w 5 (.asg 22)])
def c103_5 : AC := (.seq c103_0 (.seq (.seq c103_1 c103_3) (.seq c103_4 .ret)))
def c103 : AC := c103_5
def d103 : FD := { nargs := 2, body := c103, res := [.cell 4 U5, .t 5] }
def c78_3 : AC := (.seq (.out [2, 3, 4] (.reg [0, 1] [w 2 (.box U5 0),w 3 (.box U5 1),w 4 (.alloc U5 (.pair (.own true 3 .no) .no))])) (.seq (.out [4, 5] (.reg [2, 3, 4] [w 8 (.load U5 2),w 9 (.load U5 3),w 10 (.call 103 [8, 9]),m 7 10,w 11 (.extract 7 0),w 12 (.extract 7 1),w 5 (.alloc U5 (.pair (.own true 3 .no) .no)),⟨none, .store U5 5 11, none⟩,w 6 (.asg 12)])) (.seq (.out [4] (.reg [4, 5] [w 13 (.load U5 5),⟨none, .store U5 4 13, none⟩])) .ret)))
def c78 : AC := c78_3
def d78 : FD := { nargs := 2, body := c78, res := [.cell 4 U5] }
def c46_2 : AC := .out [4, 5, 6, 10, 11] (.reg [1, 4, 5, 6] [m 10 1,w 11 (.mv (.c U1 0))])
def c46_3 : AC := .out [4, 5, 6, 10, 11, 12] (.reg [4, 5, 6, 10, 11] [w 12 (.bin .lss 11 10)])
def c46_4 : AC := .out [4, 5, 6, 10, 11] (.cond (.t 12) .skip (.exit 0))
def c46_5 : AC := .out [4, 5, 6, 10, 11] (.reg [4, 5, 6, 10, 11] [w 13 (.load U5 5),w 14 (.load U5 6),w 15 (.call 78 [13, 14]),⟨none, .store U5 5 15, none⟩])
def c46_6 : AC := .out [4, 5, 6, 10, 11] (.block 1 c46_5)
def c46_7 : AC := .out [4, 5, 6, 10, 11] (.reg [4, 5, 6, 10, 11] [w 16 (.bin .add 11 (.c U1 1)),m 11 16])
def c46_8 : AC := (.seq c46_3 (.seq c46_4 (.seq c46_6 c46_7)))
def c46_9 : AC := .out [4, 5] (.loop [4, 5, 6, 10, 11] c46_8)
def c46_10 : AC := .out [4, 5] (.block 0 c46_9)
def c46_11 : AC := .out [4] (.reg [4, 5] [w 17 (.load U5 5),⟨none, .store U5 4 17, none⟩])
def c46_12 : AC := (.seq (.out [0, 1, 4] (.reg [0, 1] [w 4 (.alloc U5 (.pair (.own true 3 .no) .no))])) (.seq (.out [1, 4, 5, 6] (.reg [0, 1, 4] [w 7 (.call 49 [(.c U1 1)]),m 8 0,w 9 (.call 49 [8]),w 5 (.alloc U5 (.pair (.own true 3 .no) .no)),w 6 (.alloc U5 (.pair (.own true 3 .no) .no)),⟨none, .store U5 5 7, none⟩,⟨none, .store U5 6 9, none⟩])) (.seq (.seq c46_2 c46_10) (.seq c46_11 .ret))))
def c46 : AC := c46_12
def d46 : FD := { nargs := 2, body := c46, res := [.cell 4 U5] }
def c45_2 : AC := (.seq (.out [0, 1, 2, 3, 8] (.reg [0, 1, 2, 3] [w 8 (.alloc U5 (.pair (.own true 3 .no) .no))])) (.seq (.out [8] (.reg [0, 1, 2, 3, 8] [m 9 0,m 10 1,w 11 (.call 64 [9, 10]),m 12 2,m 13 1,w 14 (.call 46 [12, 13]),m 15 3,m 16 2,w 17 (.bin .sub 15 16),m 18 0,m 19 1,w 20 (.bin .sub 18 19),w 21 (.call 46 [17, 20]),w 22 (.call 78 [14, 21]),w 23 (.call 78 [11, 22]),⟨none, .store U5 8 23, none⟩])) .ret))
def c45 : AC := c45_2
def d45 : FD := { nargs := 4, body := c45, res := [.cell 8 U5] }
def c102_0 : AC := .out [2, 3, 4, 5] (.reg [0, 1] [w 2 (.box U5 0),w 3 (.box U5 1),w 4 (.alloc U5 (.pair (.own true 3 .no) .no)),w 5 (.alloc U5 (.pair (.own true 3 .no) .no)),w 6 (.asg (.c U1 0))])
def c102_1 : AC := .out [2, 3, 4, 5, 9] (.reg [2, 3, 4, 5] [w 10 (.load U5 2),w 11 (.call 75 [10]),w 12 (.un .not 11),m 13 12,⟨some 14, .load U5 3, some (13, false)⟩,⟨some 15, .call 75 [14], some (13, false)⟩,⟨some 16, .un .not 15, some (13, false)⟩,w 17 (.pick 13 (.c .bool true) 16),w 9 (.asg 17)])
def c102_2 : AC := .out [4, 5, 6] (.reg [4, 5] [w 18 (.buildN U5 (.pair (.own true 3 .no) .no) []),w 19 (.buildN U5 (.pair (.own true 3 .no) .no) []),⟨none, .store U5 4 18, none⟩,⟨none, .store U5 5 19, none⟩,w 6 (.asg (.c U1 1))])
def c102_3 : AC := .out [2, 3, 4, 5, 20] (.reg [2, 3, 4, 5] [w 21 (.fieldAddr U5 [.l] 3),w 22 (.load U2 21),w 23 (.lenL 22),w 24 (.bin .eql 23 (.c U1 0)),w 20 (.asg 24)])
def c102_4 : AC := .out [4, 5, 6] (.reg [4, 5] [w 25 (.buildN U5 (.pair (.own true 3 .no) .no) []),w 26 (.buildN U5 (.pair (.own true 3 .no) .no) []),⟨none, .store U5 4 25, none⟩,⟨none, .store U5 5 26, none⟩,w 6 (.asg (.c U1 6))])
def c102_5 : AC := .out [2, 3, 4, 5, 6] (.cond (.t 20) (.seq c102_4 .ret) .skip)
def c102_6 : AC := .out [2, 3, 4, 5, 6] (.cond (.t 9) (.seq c102_2 .ret) (.seq c102_3 c102_5))
def c102_7 : AC := .out [2, 3, 4, 5, 6] (.block 0 (.seq c102_1 c102_6))
def c102_10 : AC := (.seq (.out [4, 5, 7, 8] (.reg [2, 3, 4, 5] [w 28 (.fieldAddr U5 [.l] 2),w 29 (.load U2 28),w 30 (.fieldAddr U5 [.l] 3),w 31 (.load U2 30),w 32 (.call 115 [29, 31]),m 27 32,w 33 (.extract 27 0),w 34 (.extract 27 1),w 7 (.asg 33),w 8 (.asg 34)])) (.seq (.out [4, 5, 6] (.reg [4, 5, 7, 8] [m 35 7,w 36 (.call 105 [35]),m 37 8,w 38 (.call 105 [37]),⟨none, .store U5 4 36, none⟩,⟨none, .store U5 5 38, none⟩,w 6 (.asg (.c U1 0))])) .ret))
def c102_11 : AC := (.seq c102_0 (.seq c102_7 c102_10))
def c102 : AC := c102_11
def d102 : FD := { nargs := 2, body := c102, res := [.cell 4 U5, .cell 5 U5, .t 6] }
def c77_5 : AC := (.seq (.out [0, 4, 5, 6] (.reg [0, 1, 2] [w 4 (.box U5 1),w 5 (.box U5 2),w 6 (.alloc U12 (.pair .no (.pair (.pair (.own true 3 .no) .no) (.pair (.pair (.own true 3 .no) .no) .no))))])) (.seq (.out [0, 4, 5, 6, 7] (.reg [0, 4, 5, 6] [w 16 (.load U5 4),w 17 (.load U5 5),w 18 (.call 101 [16, 17]),m 15 18,w 19 (.extract 15 0),w 20 (.extract 15 1),w 7 (.alloc U5 (.pair (.own true 3 .no) .no)),⟨none, .store U5 7 19, none⟩,w 8 (.asg 20)])) (.seq (.out [0, 5, 6, 7, 9] (.reg [0, 4, 5, 6, 7] [w 22 (.load U5 4),w 23 (.load U5 7),w 24 (.call 102 [22, 23]),m 21 24,w 25 (.extract 21 0),w 26 (.extract 21 1),w 27 (.extract 21 2),w 9 (.alloc U5 (.pair (.own true 3 .no) .no)),w 10 (.alloc U5 (.pair (.own true 3 .no) .no)),⟨none, .store U5 9 25, none⟩,⟨none, .store U5 10 26, none⟩,w 11 (.asg 27)])) (.seq (.out [0, 6, 9, 12] (.reg [0, 5, 6, 7, 9] [w 29 (.load U5 5),w 30 (.load U5 7),w 31 (.call 102 [29, 30]),m 28 31,w 32 (.extract 28 0),w 33 (.extract 28 1),w 34 (.extract 28 2),w 12 (.alloc U5 (.pair (.own true 3 .no) .no)),w 13 (.alloc U5 (.pair (.own true 3 .no) .no)),⟨none, .store U5 12 32, none⟩,⟨none, .store U5 13 33, none⟩,w 14 (.asg 34)])) (.seq (.out [6] (.draw [0, 6, 9, 12] [⟨m 35 0, [41, 42], [35], [], false, []⟩,⟨m 36 35, [41, 42], [36], [0], false, []⟩,⟨⟨some 37, .load U5 9, some (36, true)⟩, [41, 42], [37], [0, 1], false, []⟩,⟨⟨some 38, .call 76 [37], some (36, true)⟩, [41, 42], [38], [0, 1, 2], false, []⟩,⟨⟨some 39, .un .not 38, some (36, true)⟩, [41, 42], [39], [0, 1, 2, 3], false, []⟩,⟨w 40 (.pick 36 39 (.c .bool false)), [41, 42], [40], [0, 1, 2, 3, 4], false, []⟩,⟨w 41 (.load U5 9), [35, 36, 37, 38, 39, 40, 42], [41], [], false, []⟩,⟨w 42 (.load U5 12), [35, 36, 37, 38, 39, 40, 41], [42], [], false, []⟩,⟨w 43 (.build U12 [([.l], 40), ([.r, .l], 41), ([.r, .r, .l], 42)]), [], [43], [0, 1, 2, 3, 4, 5, 6, 7], true, []⟩,⟨⟨none, .store U12 6 43, none⟩, [], [6], [0, 1, 2, 3, 4, 5, 6, 7, 8], true, []⟩])) .ret)))))
def c77 : AC := c77_5
def d77 : FD := { nargs := 3, body := c77, res := [.cell 6 U12] }
def c44_0 : AC := .out [2, 3, 4] (.reg [0, 1] [w 2 (.box U5 0),w 3 (.box U5 1),w 4 (.alloc U12 (.pair .no (.pair (.pair (.own true 3 .no) .no) (.pair (.pair (.own true 3 .no) .no) .no)))),w 5 (.asg (.c U1 0))])
def c44_1 : AC := .out [2, 3, 4, 13] (.reg [2, 3, 4] [w 6 (.load U5 2),w 7 (.call 75 [6]),w 8 (.un .not 7),m 9 8,⟨some 10, .load U5 3, some (9, false)⟩,⟨some 11, .call 75 [10], some (9, false)⟩,⟨some 12, .un .not 11, some (9, false)⟩,w 13 (.pick 9 (.c .bool true) 12)])
def c44_2 : AC := .out [4, 5] (.reg [4] [w 14 (.build U12 []),⟨none, .store U12 4 14, none⟩,w 5 (.asg (.c U1 1))])
def c44_3 : AC := .out [2, 3, 4, 5] (.cond (.t 13) (.seq c44_2 .ret) .skip)
def c44_4 : AC := .out [2, 3, 4, 16] (.reg [2, 3, 4] [w 15 (.load U5 3),w 16 (.call 76 [15])])
def c44_5 : AC := .out [4, 5] (.reg [4] [w 17 (.build U12 []),⟨none, .store U12 4 17, none⟩,w 5 (.asg (.c U1 6))])
def c44_6 : AC := .out [2, 3, 4, 5] (.cond (.t 16) (.seq c44_5 .ret) .skip)
def c44_7 : AC := .out [4, 5] (.reg [2, 3, 4] [w 18 (.load U5 2),w 19 (.load U5 3),w 20 (.call 77 [(.c .bool false), 18, 19]),⟨none, .store U12 4 20, none⟩,w 5 (.asg (.c U1 0))])
def c44_8 : AC := (.seq c44_0 (.seq (.seq c44_1 c44_3) (.seq (.seq c44_4 c44_6) (.seq c44_7 .ret))))
def c44 : AC := c44_8
def d44 : FD := { nargs := 2, body := c44, res := [.cell 4 U12, .t 5] }
def c17_2 : AC := .out [0, 1, 6, 8, 9, 10, 21] (.reg [0, 1, 6, 8, 9, 10] [m 20 10,w 21 (.bin .neq 20 (.c U1 0))])
def c17_3 : AC := .out [6, 7] (.reg [6, 10] [w 22 (.build U12 []),m 23 10,⟨none, .store U12 6 22, none⟩,w 7 (.asg 23)])
def c17_4 : AC := .out [0, 1, 6, 7, 8, 9] (.cond (.t 21) (.seq c17_3 .ret) .skip)
def c17_5 : AC := .out [6, 7] (.reg [0, 1, 6, 8, 9] [m 24 0,m 25 1,m 26 8,m 27 9,w 28 (.call 45 [24, 25, 26, 27]),m 29 9,m 30 0,w 31 (.call 46 [29, 30]),w 32 (.call 44 [28, 31]),w 33 (.extract 32 0),w 34 (.extract 32 1),⟨none, .store U12 6 33, none⟩,w 7 (.asg 34)])
def c17_6 : AC := (.seq (.out [0, 1, 5, 6] (.reg [0, 1, 2] [w 5 (.box U12 2),w 6 (.alloc U12 (.pair .no (.pair (.pair (.own true 3 .no) .no) (.pair (.pair (.own true 3 .no) .no) .no)))),w 7 (.asg (.c U1 0))])) (.seq (.out [0, 1, 6, 8, 9, 10] (.reg [0, 1, 5, 6] [m 12 0,m 13 1,m 14 0,w 15 (.load U12 5),w 16 (.call 43 [12, 13, (.c U1 200), 14, 15]),m 11 16,w 17 (.extract 11 0),w 18 (.extract 11 1),w 19 (.extract 11 2),w 8 (.asg 17),w 9 (.asg 18),w 10 (.asg 19)])) (.seq (.seq c17_2 c17_4) (.seq c17_5 .ret))))
def c17 : AC := c17_6
def d17 : FD := { nargs := 3, body := c17, res := [.cell 6 U12, .t 7] }
def c21_2 : AC := (.seq (.out [2, 3] (.reg [0, 1] [w 2 (.box U12 0),w 3 (.box U12 1),w 4 (.asg (.c .bool false))])) (.seq (.out [4] (.reg [2, 3] [w 5 (.fieldAddr U12 [.l] 2),w 6 (.load .bool 5),w 7 (.fieldAddr U12 [.l] 3),w 8 (.load .bool 7),w 9 (.eqT false .bool 6 8),m 10 9,⟨some 11, .fieldAddr U12 [.r, .l] 2, some (10, true)⟩,⟨some 12, .load U5 11, some (10, true)⟩,⟨some 13, .fieldAddr U12 [.r, .l] 3, some (10, true)⟩,⟨some 14, .load U5 13, some (10, true)⟩,⟨some 15, .call 51 [12, 14], some (10, true)⟩,w 16 (.pick 10 15 (.c .bool false)),m 17 16,⟨some 18, .fieldAddr U12 [.r, .r, .l] 2, some (17, true)⟩,⟨some 19, .load U5 18, some (17, true)⟩,⟨some 20, .fieldAddr U12 [.r, .r, .l] 3, some (17, true)⟩,⟨some 21, .load U5 20, some (17, true)⟩,⟨some 22, .call 51 [19, 21], some (17, true)⟩,w 23 (.pick 17 22 (.c .bool false)),w 4 (.asg 23)])) .ret))
def c21 : AC := c21_2
def d21 : FD := { nargs := 2, body := c21, res := [.t 4] }
def c5_0 : AC := .out [1] (.reg [0] [w 1 (.box U10 0),w 2 (.asg (.c .bool false))])
def c5_1 : AC := .out [1, 15] (.reg [1] [w 14 (.call 11 []),w 15 (.un .not 14)])
def c5_2 : AC := .out [2] (.reg [] [w 2 (.asg (.c .bool false))])
def c5_3 : AC := .out [1, 2] (.cond (.t 15) (.seq c5_2 .ret) .skip)
def c5_11 : AC := (.seq (.out [1, 3, 4] (.draw [1] [⟨w 16 (.fieldAddr U10 [.l] 1), [4, 20, 21, 22, 23, 24], [16], [], false, []⟩,⟨w 17 (.load U0 16), [4, 20, 21, 22, 23, 24], [17], [0], false, []⟩,⟨w 18 (.bin .rem 17 (.c U0 41)), [4, 20, 21, 22, 23, 24], [18], [0, 1], false, []⟩,⟨w 19 (.convI .i64 18), [4, 20, 21, 22, 23, 24], [19], [0, 1, 2], false, []⟩,⟨w 20 (.fieldAddr U10 [.r, .r, .l] 1), [4, 16, 17, 18, 19, 22, 23], [20], [], false, []⟩,⟨w 21 (.load U0 20), [4, 16, 17, 18, 19, 22, 23], [21], [4], false, []⟩,⟨w 22 (.fieldAddr U10 [.r, .r, .r, .l] 1), [4, 16, 17, 18, 19, 20, 21], [22], [], false, []⟩,⟨w 23 (.load U0 22), [4, 16, 17, 18, 19, 20, 21], [23], [6], false, []⟩,⟨w 24 (.call 22 [21, 23]), [4, 16, 17, 18, 19], [24], [4, 5, 6, 7], false, []⟩,⟨w 4 (.alloc U12 (.pair .no (.pair (.pair (.own true 3 .no) .no) (.pair (.pair (.own true 3 .no) .no) .no)))), [16, 17, 18, 19, 20, 21, 22, 23, 24], [4], [], false, []⟩,⟨w 3 (.asg 19), [], [3], [0, 1, 2, 3, 4, 5, 6, 7, 8, 9], false, []⟩,⟨⟨none, .store U12 4 24, none⟩, [], [4], [0, 1, 2, 3, 4, 5, 6, 7, 8, 9, 10], true, []⟩])) (.seq (.out [3, 4, 5] (.reg [1, 3, 4] [w 25 (.fieldAddr U10 [.r, .l] 1),w 26 (.load U0 25),w 27 (.convI .i64 26),m 28 3,w 29 (.bin .add 28 (.c U1 1)),w 30 (.bin .rem 27 29),w 5 (.asg 30)])) (.seq (.out [3, 4, 5, 6] (.reg [3, 4, 5] [w 32 (.call 23 [(.c U1 1), (.c U1 1)]),m 31 32,w 33 (.extract 31 0),w 34 (.extract 31 1),w 6 (.alloc U12 (.pair .no (.pair (.pair (.own true 3 .no) .no) (.pair (.pair (.own true 3 .no) .no) .no)))),⟨none, .store U12 6 33, none⟩,w 7 (.asg 34)])) (.seq (.out [3, 4, 5, 8, 9] (.reg [3, 4, 5, 6] [w 36 (.load U12 6),w 37 (.load U12 4),w 38 (.call 24 [36, 37]),m 35 38,w 39 (.extract 35 0),w 40 (.extract 35 1),w 8 (.alloc U12 (.pair .no (.pair (.pair (.own true 3 .no) .no) (.pair (.pair (.own true 3 .no) .no) .no)))),⟨none, .store U12 8 39, none⟩,w 9 (.asg 40)])) (.seq (.out [3, 5, 8, 9, 10, 11] (.reg [3, 4, 5, 8, 9] [m 42 3,m 43 5,w 44 (.load U12 4),w 45 (.call 17 [42, 43, 44]),m 41 45,w 46 (.extract 41 0),w 47 (.extract 41 1),w 10 (.alloc U12 (.pair .no (.pair (.pair (.own true 3 .no) .no) (.pair (.pair (.own true 3 .no) .no) .no)))),⟨none, .store U12 10 46, none⟩,w 11 (.asg 47)])) (.seq (.out [9, 10, 11, 12, 13] (.reg [3, 5, 8, 9, 10, 11] [m 49 3,m 50 3,m 51 5,w 52 (.bin .sub 50 51),w 53 (.load U12 8),w 54 (.call 17 [49, 52, 53]),m 48 54,w 55 (.extract 48 0),w 56 (.extract 48 1),w 12 (.alloc U12 (.pair .no (.pair (.pair (.own true 3 .no) .no) (.pair (.pair (.own true 3 .no) .no) .no)))),⟨none, .store U12 12 55, none⟩,w 13 (.asg 56)])) (.seq (.out [2] (.reg [9, 10, 11, 12, 13] [m 57 9,w 58 (.bin .eql 57 (.c U1 0)),m 59 58,⟨some 60, .mv 11, some (59, true)⟩,⟨some 61, .bin .eql 60 (.c U1 0), some (59, true)⟩,w 62 (.pick 59 61 (.c .bool false)),m 63 62,⟨some 64, .mv 13, some (63, true)⟩,⟨some 65, .bin .eql 64 (.c U1 0), some (63, true)⟩,w 66 (.pick 63 65 (.c .bool false)),m 67 66,⟨some 68, .load U12 10, some (67, true)⟩,⟨some 69, .load U12 12, some (67, true)⟩,⟨some 70, .call 21 [68, 69], some (67, true)⟩,w 71 (.pick 67 70 (.c .bool false)),w 2 (.asg 71)])) .ret)))))))
def c5_12 : AC := (.seq c5_0 (.seq (.seq c5_1 c5_3) c5_11))
def c5 : AC := c5_12
def d5 : FD := { nargs := 1, body := c5, res := [.t 2] }
def c11 : AC := (.seq (.reg [] [w 0 (.asg (.c .bool false))]) (.seq (.reg [] [w 9 (.call 22 [(.c U0 1), (.c U0 2)]),w 1 (.alloc U12 (.pair .no (.pair (.pair (.own true 3 .no) .no) (.pair (.pair (.own true 3 .no) .no) .no)))),⟨none, .store U12 1 9, none⟩]) (.seq (.reg [1, 9] [w 11 (.load U12 1),w 12 (.call 13 [(.c U1 2), 11]),m 10 12,w 13 (.extract 10 0),w 14 (.extract 10 1),w 2 (.asg 13),w 3 (.asg 14)]) (.seq (.reg [1, 2, 3, 9, 13] [w 16 (.load U12 1),w 17 (.call 19 [(.c U1 2), (.c U1 1), 16]),m 15 17,w 18 (.extract 15 0),w 19 (.extract 15 1),w 4 (.alloc U12 (.pair .no (.pair (.pair (.own true 3 .no) .no) (.pair (.pair (.own true 3 .no) .no) .no)))),⟨none, .store U12 4 18, none⟩,w 5 (.asg 19)]) (.seq (.reg [2, 3, 4, 5, 13, 18] [w 21 (.call 27 [(.c U1 5), (.c U1 2), (.c U1 2), (.c U1 1)]),m 20 21,w 22 (.extract 20 0),w 23 (.extract 20 1),w 6 (.alloc U12 (.pair .no (.pair (.pair (.own true 3 .no) .no) (.pair (.pair (.own true 3 .no) .no) .no)))),⟨none, .store U12 6 22, none⟩,w 7 (.asg 23)]) (.seq (.reg [2, 3, 4, 5, 6, 7, 13, 18, 22] [w 8 (.asg (.fn 40 (.pair U12 .unit) .str))]) (.seq (.reg [2, 3, 4, 5, 6, 7, 8, 13, 18, 22] [m 24 3,w 25 (.bin .eql 24 (.c U1 0)),m 26 25,⟨some 27, .mv 2, some (26, true)⟩,⟨some 28, .lenL 27, some (26, true)⟩,⟨some 29, .bin .eql 28 (.c U1 3), some (26, true)⟩,w 30 (.pick 26 29 (.c .bool false)),m 31 30,⟨some 32, .mv 8, some (31, true)⟩,⟨some 33, .mv 2, some (31, true)⟩,⟨some 34, .indexAddr U12 33 (.c U1 0), some (31, true)⟩,⟨some 35, .load U12 34, some (31, true)⟩,⟨some 36, .callv 32 [35], some (31, true)⟩,⟨some 37, .bin .eql 36 (.c .str [52, 47, 57]), some (31, true)⟩,w 38 (.pick 31 37 (.c .bool false)),m 39 38,⟨some 40, .mv 8, some (39, true)⟩,⟨some 41, .mv 2, some (39, true)⟩,⟨some 42, .indexAddr U12 41 (.c U1 1), some (39, true)⟩,⟨some 43, .load U12 42, some (39, true)⟩,⟨some 44, .callv 40 [43], some (39, true)⟩,⟨some 45, .bin .eql 44 (.c .str [52, 47, 57]), some (39, true)⟩,w 46 (.pick 39 45 (.c .bool false)),m 47 46,⟨some 48, .mv 8, some (47, true)⟩,⟨some 49, .mv 2, some (47, true)⟩,⟨some 50, .indexAddr U12 49 (.c U1 2), some (47, true)⟩,⟨some 51, .load U12 50, some (47, true)⟩,⟨some 52, .callv 48 [51], some (47, true)⟩,⟨some 53, .bin .eql 52 (.c .str [49, 47, 57]), some (47, true)⟩,w 54 (.pick 47 53 (.c .bool false)),m 55 54,⟨some 56, .mv 5, some (55, true)⟩,⟨some 57, .bin .eql 56 (.c U1 0), some (55, true)⟩,w 58 (.pick 55 57 (.c .bool false)),m 59 58,⟨some 60, .mv 8, some (59, true)⟩,⟨some 61, .load U12 4, some (59, true)⟩,⟨some 62, .callv 60 [61], some (59, true)⟩,⟨some 63, .bin .eql 62 (.c .str [53, 47, 57]), some (59, true)⟩,w 64 (.pick 59 63 (.c .bool false)),m 65 64,⟨some 66, .mv 7, some (65, true)⟩,⟨some 67, .bin .eql 66 (.c U1 0), some (65, true)⟩,w 68 (.pick 65 67 (.c .bool false)),m 69 68,⟨some 70, .mv 8, some (69, true)⟩,⟨some 71, .load U12 6, some (69, true)⟩,⟨some 72, .callv 70 [71], some (69, true)⟩,⟨some 73, .bin .eql 72 (.c .str [51, 47, 53]), some (69, true)⟩,w 74 (.pick 69 73 (.c .bool false)),w 0 (.asg 74)]) .ret)))))))
def d11 : FD := { nargs := 0, body := c11, res := [.t 0] }
def c13 : AC := (.seq (.reg [0, 1] [w 3 (.box U12 1),w 4 (.asg (.nil 26 U12)),w 5 (.asg (.c U1 0))]) (.seq (.reg [0, 3] [m 14 0,w 15 (.load U12 3),w 16 (.call 43 [14, (.c U1 0), (.c U1 60), (.c U1 0), 15]),m 13 16,w 17 (.extract 13 0),w 18 (.extract 13 1),w 19 (.extract 13 2),w 6 (.asg 17),w 7 (.asg 18),w 8 (.asg 19)]) (.seq (.seq (.reg [0, 6, 7, 8] [m 20 8,w 21 (.bin .neq 20 (.c U1 0))]) (.cond (.t 21) (.seq (.reg [8] [m 22 8,w 4 (.asg (.nil 26 U12)),w 5 (.asg 22)]) .ret) .skip)) (.seq (.reg [0, 6, 7] [w 9 (.asg (.nil 26 U12))]) (.seq (.seq (.reg [0, 6, 7, 9, 46] [m 23 0,w 24 (.bin .add 23 (.c U1 1)),w 25 (.mv (.c U1 0))]) (.block 0 (.loop [0, 6, 7, 9, 24, 25, 46] (.seq (.reg [0, 6, 7, 9, 24, 25, 46] [w 26 (.bin .lss 25 24)]) (.seq (.cond (.t 26) .skip (.exit 0)) (.seq (.block 1 (.seq (.reg [0, 6, 7, 9, 24, 25, 46] [m 27 25,w 10 (.asg 27)]) (.seq (.reg [0, 6, 7, 9, 10, 24, 25, 46] [m 29 0,m 30 10,m 31 6,m 32 7,w 33 (.call 45 [29, 30, 31, 32]),m 34 7,m 35 0,w 36 (.call 46 [34, 35]),w 37 (.call 44 [33, 36]),m 28 37,w 38 (.extract 28 0),w 39 (.extract 28 1),w 11 (.alloc U12 (.pair .no (.pair (.pair (.own true 3 .no) .no) (.pair (.pair (.own true 3 .no) .no) .no)))),⟨none, .store U12 11 38, none⟩,w 12 (.asg 39)]) (.seq (.seq (.reg [0, 6, 7, 9, 11, 12, 24, 25, 38, 46] [m 40 12,w 41 (.bin .neq 40 (.c U1 0))]) (.cond (.t 41) (.seq (.reg [12] [m 42 12,w 4 (.asg (.nil 26 U12)),w 5 (.asg 42)]) .ret) .skip)) (.reg [0, 6, 7, 9, 11, 24, 25, 38, 46] [m 43 9,w 44 (.load U12 11),w 45 (.buildSlice 26 U12 [44]),w 46 (.append 26 U12 2513169434916 43 45),w 9 (.asg 46)]))))) (.reg [0, 6, 7, 9, 24, 25, 46] [w 47 (.bin .add 25 (.c U1 1)),m 25 47]))))))) (.seq (.reg [9, 46] [m 48 9,w 4 (.asg 48),w 5 (.asg (.c U1 0))]) .ret))))))
def d13 : FD := { nargs := 2, body := c13, res := [.t 4, .t 5] }
def c19 : AC := (.seq (.reg [0, 1, 2] [w 5 (.box U12 2),w 6 (.alloc U12 (.pair .no (.pair (.pair (.own true 3 .no) .no) (.pair (.pair (.own true 3 .no) .no) .no)))),w 7 (.asg (.c U1 0))]) (.seq (.reg [0, 1, 5, 6, 24, 45] [m 14 0,m 15 1,m 16 0,w 17 (.load U12 5),w 18 (.call 43 [14, 15, (.c U1 200), 16, 17]),m 13 18,w 19 (.extract 13 0),w 20 (.extract 13 1),w 21 (.extract 13 2),w 8 (.asg 19),w 9 (.asg 20),w 10 (.asg 21)]) (.seq (.seq (.reg [0, 1, 6, 8, 9, 10, 24, 45] [m 22 10,w 23 (.bin .neq 22 (.c U1 0))]) (.cond (.t 23) (.seq (.reg [6, 10, 24, 45] [w 24 (.build U12 []),m 25 10,⟨none, .store U12 6 24, none⟩,w 7 (.asg 25)]) .ret) .skip)) (.seq (.reg [0, 1, 6, 8, 9, 24, 45] [w 26 (.call 49 [(.c U1 0)]),w 11 (.alloc U5 (.pair (.own true 3 .no) .no)),⟨none, .store U5 11 26, none⟩]) (.seq (.seq (.reg [0, 1, 6, 8, 9, 11, 24, 26, 39, 45] [m 27 1,w 12 (.asg 27)]) (.block 0 (.loop [0, 6, 8, 9, 11, 12, 24, 26, 39, 45] (.seq (.seq (.reg [0, 6, 8, 9, 11, 12, 24, 26, 39, 45] [m 28 12,m 29 0,w 30 (.bin .leq 28 29)]) (.cond (.t 30) .skip (.exit 0))) (.seq (.block 1 (.draw [0, 6, 8, 9, 11, 12, 24, 26, 39, 45] [⟨w 33 (.load U5 11), [34, 35, 36, 37, 38], [33], [], false, []⟩,⟨m 34 0, [33, 35, 36, 37], [34], [], false, []⟩,⟨m 35 12, [33, 34, 36, 37], [35], [], false, []⟩,⟨m 36 8, [33, 34, 35, 37], [36], [], false, []⟩,⟨m 37 9, [33, 34, 35, 36], [37], [], false, []⟩,⟨w 38 (.call 45 [34, 35, 36, 37]), [33], [38], [1, 2, 3, 4], false, []⟩,⟨w 39 (.call 50 [33, 38]), [], [39], [0, 1, 2, 3, 4, 5], true, []⟩,⟨⟨none, .store U5 11 39, none⟩, [], [11], [0, 1, 2, 3, 4, 5, 6], true, []⟩])) (.reg [0, 6, 8, 9, 11, 12, 24, 26, 39, 45] [m 31 12,w 32 (.bin .add 31 (.c U1 1)),w 12 (.asg 32)])))))) (.seq (.draw [0, 6, 9, 11, 24, 26, 39, 45] [⟨w 40 (.load U5 11), [41, 42, 43], [40], [], false, []⟩,⟨m 41 9, [40, 42], [41], [], false, []⟩,⟨m 42 0, [40, 41], [42], [], false, []⟩,⟨w 43 (.call 46 [41, 42]), [40], [43], [1, 2], false, []⟩,⟨w 44 (.callF 44 [40, 43]), [], [44], [0, 1, 2, 3], true, []⟩,⟨w 45 (.extract 44 0), [46], [45], [0, 1, 2, 3, 4], false, []⟩,⟨w 46 (.extract 44 1), [45], [46], [0, 1, 2, 3, 4], false, []⟩,⟨⟨none, .store U12 6 45, none⟩, [], [6], [0, 1, 2, 3, 4, 5, 6], true, []⟩,⟨w 7 (.asg 46), [], [7], [0, 1, 2, 3, 4, 5, 6, 7], false, []⟩]) .ret))))))
def d19 : FD := { nargs := 3, body := c19, res := [.cell 6 U12, .t 7] }
def c27 : AC := (.seq (.reg [0, 1, 2, 3] [w 8 (.alloc U12 (.pair .no (.pair (.pair (.own true 3 .no) .no) (.pair (.pair (.own true 3 .no) .no) .no)))),w 9 (.asg (.c U1 0))]) (.seq (.seq (.reg [0, 1, 2, 3, 8, 18, 29] [m 11 0,m 12 1,m 13 2,m 14 3,w 15 (.call 62 [11, 12, 13, 14]),w 10 (.asg 15)]) (.seq (.reg [0, 1, 2, 3, 8, 10, 18, 29] [m 16 10,w 17 (.bin .neq 16 (.c U1 0))]) (.cond (.t 17) (.seq (.reg [8, 10, 18, 29] [w 18 (.build U12 []),m 19 10,⟨none, .store U12 8 18, none⟩,w 9 (.asg 19)]) .ret) .skip))) (.seq (.reg [0, 1, 2, 3, 8, 18, 29] [m 20 0,m 21 1,m 22 2,m 23 3,w 24 (.call 63 [20, 21, 22, 23]),m 25 0,m 26 2,w 27 (.call 64 [25, 26]),w 28 (.call 44 [24, 27]),w 29 (.extract 28 0),w 30 (.extract 28 1),⟨none, .store U12 8 29, none⟩,w 9 (.asg 30)]) .ret)))
def d27 : FD := { nargs := 4, body := c27, res := [.cell 8 U12, .t 9] }
def c40 : AC := (.seq (.reg [0] [w 1 (.box U12 0),w 2 (.asg (.c .str []))]) (.seq (.reg [1] [w 6 (.load U12 1),w 7 (.call 41 [6]),m 5 7,w 8 (.extract 5 0),w 9 (.extract 5 1),w 3 (.asg 8),w 4 (.asg 9)]) (.seq (.reg [3] [m 10 3,w 2 (.asg 10)]) .ret)))
def d40 : FD := { nargs := 1, body := c40, res := [.t 2] }
def c41 : AC := (.seq (.reg [0] [w 1 (.box U12 0),w 2 (.asg (.c .str [])),w 3 (.asg (.c U1 0))]) (.seq (.seq (.reg [1] [w 8 (.load U12 1),w 9 (.call 54 [8]),w 10 (.un .not 9)]) (.cond (.t 10) (.seq (.reg [] [w 2 (.asg (.c .str [])),w 3 (.asg (.c U1 1))]) .ret) .skip)) (.seq (.reg [1] [w 12 (.fieldAddr U12 [.r, .l] 1),w 13 (.load U5 12),w 14 (.call 73 [13]),m 11 14,w 15 (.extract 11 0),w 16 (.extract 11 1),w 4 (.asg 15),w 5 (.asg 16)]) (.seq (.seq (.reg [1, 4] [w 17 (.fieldAddr U12 [.l] 1),w 18 (.load .bool 17)]) (.cond (.t 18) (.reg [1, 4] [m 19 4,w 20 (.bin .add (.c .str [45]) 19),w 4 (.asg 20)]) .skip)) (.seq (.seq (.draw [1, 4] [⟨w 21 (.fieldAddr U12 [.r, .r, .l] 1), [23], [21], [], false, []⟩,⟨w 22 (.load U5 21), [23], [22], [0], false, []⟩,⟨w 23 (.call 53 [(.c U1 1)]), [21, 22], [23], [], false, []⟩,⟨w 24 (.call 51 [22, 23]), [], [24], [0, 1, 2], false, []⟩]) (.cond (.t 24) (.seq (.reg [4] [m 25 4,w 2 (.asg 25),w 3 (.asg (.c U1 0))]) .ret) .skip)) (.seq (.reg [1, 4] [w 27 (.fieldAddr U12 [.r, .r, .l] 1),w 28 (.load U5 27),w 29 (.call 73 [28]),m 26 29,w 30 (.extract 26 0),w 31 (.extract 26 1),w 6 (.asg 30),w 7 (.asg 31)]) (.seq (.reg [4, 6] [m 32 4,w 33 (.bin .add 32 (.c .str [47])),m 34 6,w 35 (.bin .add 33 34),w 2 (.asg 35),w 3 (.asg (.c U1 0))]) .ret)))))))
def d41 : FD := { nargs := 1, body := c41, res := [.t 2, .t 3] }
def c50 : AC := (.seq (.reg [0, 1] [w 2 (.box U5 0),w 3 (.box U5 1),w 4 (.alloc U5 (.pair (.own true 3 .no) .no))]) (.seq (.reg [2, 3, 4, 5, 11, 13] [w 8 (.load U5 2),w 9 (.load U5 3),w 10 (.call 82 [8, 9]),m 7 10,w 11 (.extract 7 0),w 12 (.extract 7 1),w 5 (.alloc U5 (.pair (.own true 3 .no) .no)),⟨none, .store U5 5 11, none⟩,w 6 (.asg 12)]) (.seq (.reg [4, 5, 11, 13] [w 13 (.load U5 5),⟨none, .store U5 4 13, none⟩]) .ret)))
def d50 : FD := { nargs := 2, body := c50, res := [.cell 4 U5] }
def c62 : AC := (.seq (.reg [0, 1, 2, 3] [w 8 (.asg (.c U1 0))]) (.seq (.seq (.reg [0, 1, 2, 3] [m 9 0,w 10 (.bin .lss 9 (.c U1 0)),m 11 10,⟨some 12, .mv 0, some (11, false)⟩,⟨some 13, .bin .gtr 12 (.c U1 400), some (11, false)⟩,w 14 (.pick 11 (.c .bool true) 13),m 15 14,⟨some 16, .mv 1, some (15, false)⟩,⟨some 17, .bin .lss 16 (.c U1 0), some (15, false)⟩,w 18 (.pick 15 (.c .bool true) 17),m 19 18,⟨some 20, .mv 1, some (19, false)⟩,⟨some 21, .mv 0, some (19, false)⟩,⟨some 22, .bin .gtr 20 21, some (19, false)⟩,w 23 (.pick 19 (.c .bool true) 22),m 24 23,⟨some 25, .mv 2, some (24, false)⟩,⟨some 26, .bin .lss 25 (.c U1 0), some (24, false)⟩,w 27 (.pick 24 (.c .bool true) 26),m 28 27,⟨some 29, .mv 2, some (28, false)⟩,⟨some 30, .mv 0, some (28, false)⟩,⟨some 31, .bin .gtr 29 30, some (28, false)⟩,w 32 (.pick 28 (.c .bool true) 31),m 33 32,⟨some 34, .mv 3, some (33, false)⟩,⟨some 35, .bin .lss 34 (.c U1 0), some (33, false)⟩,w 36 (.pick 33 (.c .bool true) 35),m 37 36,⟨some 38, .mv 3, some (37, false)⟩,⟨some 39, .mv 2, some (37, false)⟩,⟨some 40, .bin .gtr 38 39, some (37, false)⟩,w 41 (.pick 37 (.c .bool true) 40)]) (.cond (.t 41) (.seq (.reg [] [w 8 (.asg (.c U1 6))]) .ret) .skip)) (.seq (.reg [] [w 8 (.asg (.c U1 0))]) .ret)))
def d62 : FD := { nargs := 4, body := c62, res := [.t 8] }
def c63 : AC := (.seq (.reg [0, 1, 2, 3] [w 8 (.alloc U5 (.pair (.own true 3 .no) .no))]) (.seq (.reg [0, 1, 2, 3, 8, 19] [m 9 1,m 10 3,w 11 (.call 64 [9, 10]),m 12 0,m 13 1,w 14 (.bin .sub 12 13),m 15 2,m 16 3,w 17 (.bin .sub 15 16),w 18 (.call 64 [14, 17]),w 19 (.call 78 [11, 18]),⟨none, .store U5 8 19, none⟩]) .ret))
def d63 : FD := { nargs := 4, body := c63, res := [.cell 8 U5] }
def c73 : AC := (.seq (.reg [0] [w 1 (.box U5 0),w 2 (.asg (.c .str [])),w 3 (.asg (.c U1 0))]) (.seq (.seq (.reg [1] [w 8 (.load U5 1),w 9 (.call 86 [8]),w 10 (.un .not 9)]) (.cond (.t 10) (.seq (.reg [] [w 2 (.asg (.c .str [])),w 3 (.asg (.c U1 1))]) .ret) .skip)) (.seq (.reg [1] [w 4 (.asg (.c .str []))]) (.seq (.seq (.reg [1, 4] [w 5 (.asg (.c U1 0))]) (.block 0 (.loop [1, 4, 5] (.seq (.seq (.reg [1, 4, 5] [m 11 5,w 12 (.fieldAddr U5 [.l] 1),w 13 (.load U2 12),w 14 (.lenL 13),w 15 (.bin .lss 11 14)]) (.cond (.t 15) .skip (.exit 0))) (.seq (.block 1 (.seq (.reg [1, 4, 5] [w 18 (.fieldAddr U5 [.l] 1),w 19 (.load U2 18),m 20 5,w 21 (.indexAddr U1 19 20),w 22 (.load U1 21),w 6 (.asg 22)]) (.seq (.reg [1, 4, 5, 6] [w 7 (.asg (.c U1 0))]) (.block 2 (.loop [1, 4, 5, 6, 7] (.seq (.seq (.reg [1, 4, 5, 6, 7] [m 23 7,w 24 (.bin .lss 23 (.c U1 4))]) (.cond (.t 24) .skip (.exit 2))) (.seq (.block 3 (.seq (.reg [1, 4, 5, 6, 7] [m 27 6,w 28 (.bin .rem 27 (.c U1 10)),w 29 (.bin .add (.c U1 48) 28),w 30 (.convI .u8 29),w 31 (.buildSlice 5 U0 [30]),w 32 (.toStr 31),m 33 4,w 34 (.bin .add 32 33),w 4 (.asg 34)]) (.reg [1, 4, 5, 6, 7] [m 35 6,w 36 (.bin .quo 35 (.c U1 10)),w 6 (.asg 36)]))) (.reg [1, 4, 5, 6, 7] [m 25 7,w 26 (.bin .add 25 (.c U1 1)),w 7 (.asg 26)])))))))) (.reg [1, 4, 5] [m 16 5,w 17 (.bin .add 16 (.c U1 1)),w 5 (.asg 17)])))))) (.seq (.block 4 (.loop [4] (.seq (.seq (.reg [4] [m 37 4,w 38 (.lenS 37),w 39 (.bin .gtr 38 (.c U1 1)),m 40 39,⟨some 41, .mv 4, some (40, true)⟩,⟨some 42, .indexS 41 (.c U1 0), some (40, true)⟩,⟨some 43, .bin .eql 42 (.c U0 48), some (40, true)⟩,w 44 (.pick 40 43 (.c .bool false))]) (.cond (.t 44) .skip (.exit 4))) (.block 5 (.reg [4] [m 45 4,w 46 (.sliceS 45 (some (.c U1 1)) none),w 4 (.asg 46)]))))) (.seq (.seq (.reg [4] [m 47 4,w 48 (.bin .eql 47 (.c .str []))]) (.cond (.t 48) (.seq (.reg [] [w 2 (.asg (.c .str [48])),w 3 (.asg (.c U1 0))]) .ret) .skip)) (.seq (.reg [4] [m 49 4,w 2 (.asg 49),w 3 (.asg (.c U1 0))]) .ret)))))))
def d73 : FD := { nargs := 1, body := c73, res := [.t 2, .t 3] }
def c82 : AC := (.seq (.reg [0, 1] [w 2 (.box U5 0),w 3 (.box U5 1),w 4 (.alloc U5 (.pair (.own true 3 .no) .no)),w 5 (.asg (.c U1 0))]) (.seq (.seq (.reg [2, 3, 4, 14, 21] [w 6 (.load U5 2),w 7 (.call 75 [6]),w 8 (.un .not 7),m 9 8,⟨some 10, .load U5 3, some (9, false)⟩,⟨some 11, .call 75 [10], some (9, false)⟩,⟨some 12, .un .not 11, some (9, false)⟩,w 13 (.pick 9 (.c .bool true) 12)]) (.cond (.t 13) (.seq (.reg [4, 14, 21] [w 14 (.buildN U5 (.pair (.own true 3 .no) .no) []),⟨none, .store U5 4 14, none⟩,w 5 (.asg (.c U1 1))]) .ret) .skip)) (.seq (.reg [2, 3, 4, 14, 21] [w 15 (.fieldAddr U5 [.l] 2),w 16 (.load U2 15),w 17 (.fieldAddr U5 [.l] 3),w 18 (.load U2 17),w 19 (.call 107 [16, 18]),w 20 (.call 106 [19]),w 21 (.extract 20 0),w 22 (.extract 20 1),⟨none, .store U5 4 21, none⟩,w 5 (.asg 22)]) .ret)))
def d82 : FD := { nargs := 2, body := c82, res := [.cell 4 U5, .t 5] }
def c107 : AC := (.seq (.reg [0, 1, 14, 15] [w 4 (.asg (.nil 3 U1))]) (.seq (.seq (.reg [0, 1, 14, 15] [m 9 0,w 10 (.lenL 9),m 11 1,w 12 (.lenL 11),w 13 (.bin .lss 10 12)]) (.cond (.t 13) (.reg [0, 1, 14, 15] [m 14 1,m 15 0,w 0 (.asg 14),w 1 (.asg 15)]) .skip)) (.seq (.reg [0, 1, 14, 15] [m 16 0,w 17 (.lenL 16),w 18 (.bin .add 17 (.c U1 1)),w 19 (.mkSlice 3 U1 17592186044416 (.c U1 0) 18),w 5 (.asg 19)]) (.seq (.reg [0, 1, 5, 14, 15, 19, 44, 53] [w 6 (.asg (.c U1 0))]) (.seq (.seq (.reg [0, 1, 5, 6, 14, 15, 19, 44, 53] [m 20 0,w 21 (.lenL 20),w 22 (.mv (.c U1 0))]) (.block 0 (.loop [0, 1, 5, 6, 14, 15, 19, 20, 21, 22, 44, 53] (.seq (.reg [0, 1, 5, 6, 14, 15, 19, 20, 21, 22, 44, 53] [w 23 (.bin .lss 22 21)]) (.seq (.cond (.t 23) .skip (.exit 0)) (.seq (.block 1 (.seq (.reg [0, 1, 5, 6, 14, 15, 19, 20, 21, 22, 44, 53] [m 24 22,w 25 (.indexAddr U1 20 22),w 26 (.load U1 25),w 7 (.asg 24),w 8 (.asg 26)]) (.seq (.reg [0, 1, 5, 6, 7, 8, 14, 15, 19, 20, 21, 22, 44, 53] [m 27 6,m 28 8,w 29 (.bin .add 27 28),w 6 (.asg 29)]) (.seq (.seq (.reg [0, 1, 5, 6, 7, 14, 15, 19, 20, 21, 22, 44, 53] [m 30 7,m 31 1,w 32 (.lenL 31),w 33 (.bin .lss 30 32)]) (.cond (.t 33) (.reg [0, 1, 5, 6, 7, 14, 15, 19, 20, 21, 22, 44, 53] [m 34 6,m 35 1,m 36 7,w 37 (.indexAddr U1 35 36),w 38 (.load U1 37),w 39 (.bin .add 34 38),w 6 (.asg 39)]) .skip)) (.seq (.reg [0, 1, 5, 6, 14, 15, 19, 20, 21, 22, 44, 53] [m 40 5,m 41 6,w 42 (.bin .rem 41 (.c U1 10000)),w 43 (.buildSlice 3 U1 [42]),w 44 (.append 3 U1 17592186044416 40 43),w 5 (.asg 44)]) (.reg [0, 1, 5, 6, 14, 15, 19, 20, 21, 22, 44, 53] [m 45 6,w 46 (.bin .quo 45 (.c U1 10000)),w 6 (.asg 46)])))))) (.reg [0, 1, 5, 6, 14, 15, 19, 20, 21, 22, 44, 53] [w 47 (.bin .add 22 (.c U1 1)),m 22 47]))))))) (.seq (.seq (.reg [5, 6, 19, 44, 53] [m 48 6,w 49 (.bin .gtr 48 (.c U1 0))]) (.cond (.t 49) (.reg [5, 6, 19, 44, 53] [m 50 5,m 51 6,w 52 (.buildSlice 3 U1 [51]),w 53 (.append 3 U1 17592186044416 50 52),w 5 (.asg 53)]) .skip)) (.seq (.reg [5, 19, 44, 53] [m 54 5,w 4 (.asg 54)]) .ret)))))))
def d107 : FD := { nargs := 2, body := c107, res := [.t 4] }
def table : Table := fun f => match f with
 | 5 => some d5
 | 11 => some d11
 | 13 => some d13
 | 17 => some d17
 | 19 => some d19
 | 21 => some d21
 | 22 => some d22
 | 23 => some d23
 | 24 => some d24
 | 26 => some d26
 | 27 => some d27
 | 40 => some d40
 | 41 => some d41
 | 43 => some d43
 | 44 => some d44
 | 45 => some d45
 | 46 => some d46
 | 49 => some d49
 | 50 => some d50
 | 51 => some d51
 | 52 => some d52
 | 53 => some d53
 | 54 => some d54
 | 55 => some d55
 | 56 => some d56
 | 57 => some d57
 | 58 => some d58
 | 59 => some d59
 | 60 => some d60
 | 61 => some d61
 | 62 => some d62
 | 63 => some d63
 | 64 => some d64
 | 69 => some d69
 | 73 => some d73
 | 74 => some d74
 | 75 => some d75
 | 76 => some d76
 | 77 => some d77
 | 78 => some d78
 | 81 => some d81
 | 82 => some d82
 | 83 => some d83
 | 84 => some d84
 | 85 => some d85
 | 86 => some d86
 | 87 => some d87
 | 88 => some d88
 | 89 => some d89
 | 90 => some d90
 | 91 => some d91
 | 92 => some d92
 | 95 => some d95
 | 96 => some d96
 | 97 => some d97
 | 98 => some d98
 | 99 => some d99
 | 100 => some d100
 | 101 => some d101
 | 102 => some d102
 | 103 => some d103
 | 105 => some d105
 | 106 => some d106
 | 107 => some d107
 | 108 => some d108
 | 109 => some d109
 | 110 => some d110
 | 111 => some d111
 | 112 => some d112
 | 113 => some d113
 | 114 => some d114
 | 115 => some d115
 | 116 => some d116
 | 118 => some d118
 | 119 => some d119
 | _ => none
end Go.Fw.L51
