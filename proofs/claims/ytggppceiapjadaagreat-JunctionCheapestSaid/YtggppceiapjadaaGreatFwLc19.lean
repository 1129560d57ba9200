/- Printed by an own program for this claim: the machine's code of functions, or their typed forms with their equations; no conditions. -/
import Derived.Test.YtggppceiapjadaaGreatFwB1
set_option linter.unusedVariables false
set_option linter.unusedSimpArgs false
namespace Go.Fw.L19
open Go Go.Fw
abbrev U0 : Ty := (.sl .str)
abbrev U1 : Ty := (.int .u8)
abbrev V0 : Type := (List Int)
abbrev U2 : Ty := (.int .i64)
abbrev U3 : Ty := (.int .i32)
abbrev V1 : Type := (List UInt8)
abbrev V2 : Type := (Int × Unit)
abbrev V3 : Type := (V0)
abbrev V4 : Type := (Int × Bool)
abbrev V5 : Type := (V1)
abbrev U4 : Ty := (.sl U1)
abbrev U5 : Ty := (.pair .str .unit)
abbrev V6 : Type := (List V1)
abbrev V7 : Type := (Int × V2)
abbrev V8 : Type := (V1 × Int)
abbrev V9 : Type := (V1 × Unit)
abbrev V10 : Type := (V7)
abbrev U6 : Ty := (.pair U0 .unit)
abbrev U7 : Ty := (.pair U1 .unit)
abbrev U8 : Ty := (.pair U3 .unit)
abbrev U9 : Ty := (.pair U2 .unit)
abbrev V11 : Type := (List V7)
abbrev V12 : Type := (V6 × Unit)
abbrev V13 : Type := (V2 → Option Bool)
abbrev V14 : Type := (V7 × Int)
abbrev V15 : Type := (Int × V9)
abbrev V16 : Type := (V7 × Unit)
abbrev V17 : Type := (V11 × Int)
abbrev U10 : Ty := (.fn U7 .bool)
abbrev V18 : Type := (Int × V12)
abbrev U11 : Ty := (.fn U8 .bool)
abbrev V19 : Type := (Int × V15)
abbrev U12 : Ty := (.pair U2 U5)
abbrev U13 : Ty := (.pair .str U9)
abbrev V20 : Type := (V19)
abbrev U14 : Ty := (.pair U2 U6)
abbrev V21 : Type := (List V19)
abbrev V22 : Type := (Int × V18)
abbrev U15 : Ty := (.pair U2 U9)
abbrev V23 : Type := (V16 → Option Bool)
abbrev V24 : Type := (V21)
abbrev U16 : Ty := (.sl U15)
abbrev V25 : Type := (List V22)
abbrev U17 : Ty := (.pair U2 U12)
abbrev U18 : Ty := (.pair U2 U13)
abbrev U19 : Ty := (.pair U15 .unit)
abbrev V26 : Type := (V25 × Unit)
abbrev V27 : Type := ((V19 × Unit) → Option Bool)
abbrev U20 : Ty := (.pair U2 U14)
abbrev U21 : Ty := (.sl U17)
abbrev V28 : Type := ((V7 × V16) → Option Int)
abbrev U22 : Ty := (.sl U20)
abbrev U23 : Ty := (.fn U19 .bool)
abbrev U24 : Ty := (.pair U17 .unit)
abbrev V29 : Type := (V1 × V26)
abbrev U25 : Ty := (.pair U22 .unit)
abbrev U26 : Ty := (.fn U24 .bool)
abbrev U27 : Ty := (.pair .str U25)
abbrev U28 : Ty := (.pair U15 U19)
abbrev U29 : Ty := (.fn U28 U2)
abbrev w (d : Nat) (o : AOp) : AI := { dst := some d, op := o }
-- anceps/ancepsref01.Sum
def c31_r0 : List AI := [w 4 (.asg (.c U2 0))]
def c31_0 : AC := .out [0, 1] (.reg [0, 1] c31_r0)
def c31_r1 : List AI := [w 5 (.asg (.c U2 0))]
def c31_1 : AC := .out [0, 1, 5] (.reg [0, 1] c31_r1)
def c31_r2 : List AI := [w 6 (.asg (.c U2 0))]
def c31_2 : AC := .out [0, 1, 5, 6] (.reg [0, 1, 5] c31_r2)
def c31_r3 : List AI := [w 7 (.mv (.t 6)),w 8 (.mv (.t 0)),w 9 (.lenL (.t 8)),w 10 (.bin .lss (.t 7) (.t 9)),w 11 (.mv (.t 10)),
  ⟨some 12, .mv (.t 5), some (11, true)⟩,
  ⟨some 13, .mv (.t 1), some (11, true)⟩,
  ⟨some 14, .bin .leq (.t 12) (.t 13), some (11, true)⟩,
  w 15 (.pick (.t 11) (.t 14) (.c .bool false))]
def c31_3 : AC := .out [0, 1, 5, 6, 15] (.reg [0, 1, 5, 6] c31_r3)
def c31_4 : AC := .out [0, 1, 5, 6] (.cond (.t 15) .skip (.exit 0))
def c31_r5 : List AI := [w 18 (.mv (.t 5)),w 19 (.bin .add (.t 18) (.c U2 1)),w 20 (.mv (.t 0)),w 21 (.mv (.t 6)),w 22 (.indexAddr .str (.t 20) (.t 21)),w 23 (.load .str (.t 22)),w 24 (.lenS (.t 23)),w 25 (.bin .add (.t 19) (.t 24)),w 5 (.asg (.t 25))]
def c31_5 : AC := .out [0, 1, 5, 6] (.reg [0, 1, 5, 6] c31_r5)
def c31_6 : AC := .out [0, 1, 5, 6] (.block 1 c31_5)
def c31_r4 : List AI := [w 16 (.mv (.t 6)),w 17 (.bin .add (.t 16) (.c U2 1)),w 6 (.asg (.t 17))]
def c31_7 : AC := .out [0, 1, 5, 6] (.reg [0, 1, 5, 6] c31_r4)
def c31_8 : AC := (.seq (.seq c31_3 c31_4) (.seq c31_6 c31_7))
def c31_9 : AC := .out [5] (.loop [0, 1, 5, 6] c31_8)
def c31_10 : AC := .out [5] (.block 0 c31_9)
def c31_r6 : List AI := [w 26 (.mv (.t 5)),w 4 (.asg (.t 26))]
def c31_11 : AC := .out [4] (.reg [5] c31_r6)
def c31_12 : AC := (.seq c31_0 (.seq c31_1 (.seq (.seq c31_2 c31_10) (.seq c31_11 .ret))))
def c31 : AC := c31_12
def d31 : FD := { nargs := 2, body := c31, res := [.t 4] }
-- anceps/ancepsref17.Few
def c14_r0 : List AI := [w 1 (.box U27 (.t 0)),w 2 (.asg (.c .bool false))]
def c14_0 : AC := .out [1] (.reg [0] c14_r0)
def c14_r1 : List AI := [w 5 (.fieldAddr U27 [.l] (.t 1)),w 6 (.load .str (.t 5)),w 7 (.lenS (.t 6)),w 3 (.asg (.t 7))]
def c14_1 : AC := .out [1, 3] (.reg [1] c14_r1)
def c14_r2 : List AI := [w 4 (.asg (.c U2 0))]
def c14_2 : AC := .out [1, 3, 4] (.reg [1, 3] c14_r2)
def c14_r3 : List AI := [w 8 (.mv (.t 4)),w 9 (.fieldAddr U27 [.r, .l] (.t 1)),w 10 (.load U22 (.t 9)),w 11 (.lenL (.t 10)),w 12 (.bin .lss (.t 8) (.t 11)),w 13 (.mv (.t 12)),
  ⟨some 14, .mv (.t 4), some (13, true)⟩,
  ⟨some 15, .bin .lss (.t 14) (.c U2 50), some (13, true)⟩,
  w 16 (.pick (.t 13) (.t 15) (.c .bool false))]
def c14_3 : AC := .out [1, 3, 4, 16] (.reg [1, 3, 4] c14_r3)
def c14_4 : AC := .out [1, 3, 4] (.cond (.t 16) .skip (.exit 0))
def c14_r5 : List AI := [w 19 (.mv (.t 3)),w 20 (.fieldAddr U27 [.r, .l] (.t 1)),w 21 (.load U22 (.t 20)),w 22 (.mv (.t 4)),w 23 (.indexAddr U20 (.t 21) (.t 22)),w 24 (.fieldAddr U20 [.r, .r, .l] (.t 23)),w 25 (.load U0 (.t 24)),w 26 (.call 31 [(.t 25), (.c U2 1500)]),w 27 (.bin .add (.t 19) (.t 26)),w 3 (.asg (.t 27))]
def c14_5 : AC := .out [1, 3, 4] (.reg [1, 3, 4] c14_r5)
def c14_6 : AC := .out [1, 3, 4] (.block 1 c14_5)
def c14_r4 : List AI := [w 17 (.mv (.t 4)),w 18 (.bin .add (.t 17) (.c U2 1)),w 4 (.asg (.t 18))]
def c14_7 : AC := .out [1, 3, 4] (.reg [1, 3, 4] c14_r4)
def c14_8 : AC := (.seq (.seq c14_3 c14_4) (.seq c14_6 c14_7))
def c14_9 : AC := .out [1, 3] (.loop [1, 3, 4] c14_8)
def c14_10 : AC := .out [1, 3] (.block 0 c14_9)
def c14_r6 : List AI := [w 28 (.fieldAddr U27 [.r, .l] (.t 1)),w 29 (.load U22 (.t 28)),w 30 (.lenL (.t 29)),w 31 (.bin .leq (.t 30) (.c U2 40)),w 32 (.mv (.t 31)),
  ⟨some 33, .mv (.t 3), some (32, true)⟩,
  ⟨some 34, .bin .leq (.t 33) (.c U2 1500), some (32, true)⟩,
  w 35 (.pick (.t 32) (.t 34) (.c .bool false)),w 2 (.asg (.t 35))]
def c14_11 : AC := .out [2] (.reg [1, 3] c14_r6)
def c14_12 : AC := (.seq c14_0 (.seq c14_1 (.seq (.seq c14_2 c14_10) (.seq c14_11 .ret))))
def c14 : AC := c14_12
def d14 : FD := { nargs := 1, body := c14, res := [.t 2] }
-- anceps/ancepsref11.Made
def c46_r0 : List AI := [w 2 (.alloc U17 .no)]
def c46_0 : AC := .out [0, 2] (.reg [0] c46_r0)
def c46_r1 : List AI := [w 4 (.build U17 [([.l], (.c U2 1)), ([.r, .l], (.c U2 3)), ([.r, .r, .l], (.c .str [97]))]),w 5 (.build U17 [([.l], (.c U2 1)), ([.r, .l], (.c U2 1)), ([.r, .r, .l], (.c .str [101]))]),w 6 (.build U17 [([.l], (.c U2 1)), ([.r, .l], (.c U2 2)), ([.r, .r, .l], (.c .str [111]))]),w 7 (.build U17 [([.l], (.c U2 1)), ([.r, .l], (.c U2 3)), ([.r, .r, .l], (.c .str [105]))]),w 8 (.build U17 [([.l], (.c U2 2)), ([.r, .l], (.c U2 2)), ([.r, .r, .l], (.c .str [97, 101]))]),w 9 (.build U17 [([.l], (.c U2 3)), ([.r, .r, .l], (.c .str [116]))]),w 10 (.build U17 [([.l], (.c U2 3)), ([.r, .r, .l], (.c .str [98]))]),w 11 (.build U17 [([.l], (.c U2 4)), ([.r, .r, .l], (.c .str [114]))]),w 12 (.build U17 [([.l], (.c U2 4)), ([.r, .r, .l], (.c .str [108]))]),w 13 (.build U17 [([.l], (.c U2 5)), ([.r, .r, .l], (.c .str [109]))]),w 14 (.build U17 [([.l], (.c U2 5)), ([.r, .r, .l], (.c .str [110]))]),w 15 (.build U17 [([.l], (.c U2 6)), ([.r, .r, .l], (.c .str [115]))]),w 16 (.build U17 [([.l], (.c U2 7)), ([.r, .r, .l], (.c .str [120]))]),w 17 (.build U17 [([.l], (.c U2 8)), ([.r, .r, .l], (.c .str [118]))]),w 18 (.build U17 [([.l], (.c U2 9)), ([.r, .r, .l], (.c .str [104]))]),w 19 (.build U17 [([.l], (.c U2 1)), ([.r, .l], (.c U2 3)), ([.r, .r, .l], (.c .str [117]))]),w 20 (.buildSlice 30 U17 [(.t 4), (.t 5), (.t 6), (.t 7), (.t 8), (.t 9), (.t 10), (.t 11), (.t 12), (.t 13), (.t 14), (.t 15), (.t 16), (.t 17), (.t 18), (.t 19)]),w 3 (.asg (.t 20))]
def c46_1 : AC := .out [0, 2, 3] (.reg [0, 2] c46_r1)
def c46_r2 : List AI := [w 21 (.mv (.t 3)),w 22 (.mv (.t 0)),w 23 (.convI .i64 (.t 22)),w 24 (.mv (.t 3)),w 25 (.lenL (.t 24)),w 26 (.bin .rem (.t 23) (.t 25)),w 27 (.indexAddr U17 (.t 21) (.t 26)),w 28 (.load U17 (.t 27)),
  ⟨none, .store U17 (.t 2) (.t 28), none⟩]
def c46_2 : AC := .out [2] (.reg [0, 2, 3] c46_r2)
def c46_3 : AC := (.seq c46_0 (.seq c46_1 (.seq c46_2 .ret)))
def c46 : AC := c46_3
def d46 : FD := { nargs := 1, body := c46, res := [.cell 2 U17] }
-- anceps/ancepsref11.All
def c21_r0 : List AI := [w 2 (.asg (.nil 30 U17))]
def c21_0 : AC := .out [0] (.reg [0] c21_r0)
def c21_r1 : List AI := [w 3 (.asg (.nil 30 U17))]
def c21_1 : AC := .out [0, 3] (.reg [0] c21_r1)
def c21_r2 : List AI := [w 4 (.asg (.c U2 0))]
def c21_2 : AC := .out [0, 3, 4] (.reg [0, 3] c21_r2)
def c21_r3 : List AI := [w 5 (.mv (.t 4)),w 6 (.mv (.t 0)),w 7 (.lenL (.t 6)),w 8 (.bin .lss (.t 5) (.t 7))]
def c21_3 : AC := .out [0, 3, 4, 8] (.reg [0, 3, 4] c21_r3)
def c21_4 : AC := .out [0, 3, 4] (.cond (.t 8) .skip (.exit 0))
def c21_r5 : List AI := [w 11 (.mv (.t 3)),w 12 (.mv (.t 0)),w 13 (.mv (.t 4)),w 14 (.indexAddr U1 (.t 12) (.t 13)),w 15 (.load U1 (.t 14)),w 16 (.call 46 [(.t 15)]),w 17 (.buildSlice 30 U17 [(.t 16)]),w 18 (.append 30 U17 4398046511104 (.t 11) (.t 17)),w 3 (.asg (.t 18))]
def c21_5 : AC := .out [0, 3, 4] (.reg [0, 3, 4] c21_r5)
def c21_6 : AC := .out [0, 3, 4] (.block 1 c21_5)
def c21_r4 : List AI := [w 9 (.mv (.t 4)),w 10 (.bin .add (.t 9) (.c U2 1)),w 4 (.asg (.t 10))]
def c21_7 : AC := .out [0, 3, 4] (.reg [0, 3, 4] c21_r4)
def c21_8 : AC := (.seq (.seq c21_3 c21_4) (.seq c21_6 c21_7))
def c21_9 : AC := .out [3] (.loop [0, 3, 4] c21_8)
def c21_10 : AC := .out [3] (.block 0 c21_9)
def c21_r6 : List AI := [w 19 (.mv (.t 3)),w 2 (.asg (.t 19))]
def c21_11 : AC := .out [2, 3] (.reg [3] c21_r6)
def c21_12 : AC := (.seq c21_0 (.seq c21_1 (.seq (.seq c21_2 c21_10) (.seq c21_11 .ret))))
def c21 : AC := c21_12
def d21 : FD := { nargs := 1, body := c21, res := [.t 2] }
-- anceps/token.small
def c93_r0 : List AI := [w 2 (.asg (.c .bool false))]
def c93_0 : AC := .out [0] (.reg [0] c93_r0)
def c93_r1 : List AI := [w 3 (.mv (.t 0)),w 4 (.bin .geq (.t 3) (.c U1 97)),w 5 (.mv (.t 4)),
  ⟨some 6, .mv (.t 0), some (5, true)⟩,
  ⟨some 7, .bin .leq (.t 6) (.c U1 122), some (5, true)⟩,
  w 8 (.pick (.t 5) (.t 7) (.c .bool false)),w 2 (.asg (.t 8))]
def c93_1 : AC := .out [2] (.reg [0] c93_r1)
def c93_2 : AC := (.seq c93_0 (.seq c93_1 .ret))
def c93 : AC := c93_2
def d93 : FD := { nargs := 1, body := c93, res := [.t 2] }
-- anceps/token.digit
def c94_r0 : List AI := [w 2 (.asg (.c .bool false))]
def c94_0 : AC := .out [0] (.reg [0] c94_r0)
def c94_r1 : List AI := [w 3 (.mv (.t 0)),w 4 (.bin .geq (.t 3) (.c U1 48)),w 5 (.mv (.t 4)),
  ⟨some 6, .mv (.t 0), some (5, true)⟩,
  ⟨some 7, .bin .leq (.t 6) (.c U1 57), some (5, true)⟩,
  w 8 (.pick (.t 5) (.t 7) (.c .bool false)),w 2 (.asg (.t 8))]
def c94_1 : AC := .out [2] (.reg [0] c94_r1)
def c94_2 : AC := (.seq c94_0 (.seq c94_1 .ret))
def c94 : AC := c94_2
def d94 : FD := { nargs := 1, body := c94, res := [.t 2] }
-- anceps/token.name
def c82_r0 : List AI := [w 2 (.asg (.c U2 0))]
def c82_0 : AC := .out [0] (.reg [0] c82_r0)
def c82_r1 : List AI := [w 5 (.mv (.t 0)),w 6 (.bin .eql (.t 5) (.c .str [])),w 7 (.mv (.t 6)),
  ⟨some 8, .mv (.t 0), some (7, false)⟩,
  ⟨some 9, .indexS (.t 8) (.c U2 0), some (7, false)⟩,
  ⟨some 10, .call 93 [(.t 9)], some (7, false)⟩,
  ⟨some 11, .un .not (.t 10), some (7, false)⟩,
  w 12 (.pick (.t 7) (.c .bool true) (.t 11))]
def c82_1 : AC := .out [0, 12] (.reg [0] c82_r1)
def c82_r2 : List AI := [w 2 (.asg (.c U2 0))]
def c82_2 : AC := .out [2] (.reg [] c82_r2)
def c82_3 : AC := .out [0, 2] (.cond (.t 12) (.seq c82_2 .ret) .skip)
def c82_r3 : List AI := [w 3 (.asg (.c U2 1))]
def c82_4 : AC := .out [0, 3] (.reg [0] c82_r3)
def c82_r4 : List AI := [w 13 (.mv (.t 3)),w 14 (.mv (.t 0)),w 15 (.lenS (.t 14)),w 16 (.bin .lss (.t 13) (.t 15))]
def c82_5 : AC := .out [0, 3, 16] (.reg [0, 3] c82_r4)
def c82_6 : AC := .out [0, 3] (.cond (.t 16) .skip (.exit 0))
def c82_r5 : List AI := [w 17 (.mv (.t 0)),w 18 (.mv (.t 3)),w 19 (.indexS (.t 17) (.t 18)),w 4 (.asg (.t 19))]
def c82_7 : AC := .out [0, 3, 4] (.reg [0, 3] c82_r5)
def c82_r7 : List AI := [w 22 (.mv (.t 4)),w 23 (.call 93 [(.t 22)]),w 24 (.mv (.t 23)),
  ⟨some 25, .mv (.t 4), some (24, false)⟩,
  ⟨some 26, .call 94 [(.t 25)], some (24, false)⟩,
  w 27 (.pick (.t 24) (.c .bool true) (.t 26)),w 21 (.asg (.t 27))]
def c82_8 : AC := .out [0, 3, 4, 21] (.reg [0, 3, 4] c82_r7)
def c82_r8 : List AI := [w 28 (.mv (.t 3)),w 29 (.bin .add (.t 28) (.c U2 1)),w 3 (.asg (.t 29))]
def c82_9 : AC := .out [0, 3] (.reg [0, 3] c82_r8)
def c82_r9 : List AI := [w 31 (.mv (.t 4)),w 32 (.bin .eql (.t 31) (.c U1 45)),w 33 (.mv (.t 32)),
  ⟨some 34, .mv (.t 3), some (33, true)⟩,
  ⟨some 35, .bin .add (.t 34) (.c U2 1), some (33, true)⟩,
  ⟨some 36, .mv (.t 0), some (33, true)⟩,
  ⟨some 37, .lenS (.t 36), some (33, true)⟩,
  ⟨some 38, .bin .lss (.t 35) (.t 37), some (33, true)⟩,
  w 39 (.pick (.t 33) (.t 38) (.c .bool false)),w 40 (.mv (.t 39)),
  ⟨some 41, .mv (.t 0), some (40, true)⟩,
  ⟨some 42, .mv (.t 3), some (40, true)⟩,
  ⟨some 43, .bin .add (.t 42) (.c U2 1), some (40, true)⟩,
  ⟨some 44, .indexS (.t 41) (.t 43), some (40, true)⟩,
  ⟨some 45, .call 93 [(.t 44)], some (40, true)⟩,
  ⟨some 46, .mv (.t 45), some (40, true)⟩,
  ⟨some 47, .mv (.t 0), some (46, false)⟩,
  ⟨some 48, .mv (.t 3), some (46, false)⟩,
  ⟨some 49, .bin .add (.t 48) (.c U2 1), some (46, false)⟩,
  ⟨some 50, .indexS (.t 47) (.t 49), some (46, false)⟩,
  ⟨some 51, .call 94 [(.t 50)], some (46, false)⟩,
  ⟨some 52, .pick (.t 46) (.c .bool true) (.t 51), some (40, true)⟩,
  w 53 (.pick (.t 40) (.t 52) (.c .bool false)),w 30 (.asg (.t 53))]
def c82_10 : AC := .out [0, 3, 30] (.reg [0, 3, 4] c82_r9)
def c82_r10 : List AI := [w 54 (.mv (.t 3)),w 55 (.bin .add (.t 54) (.c U2 2)),w 3 (.asg (.t 55))]
def c82_11 : AC := .out [0, 3] (.reg [0, 3] c82_r10)
def c82_r6 : List AI := [w 20 (.mv (.t 3)),w 2 (.asg (.t 20))]
def c82_12 : AC := .out [2] (.reg [3] c82_r6)
def c82_13 : AC := .out [0, 2, 3] (.cond (.t 30) c82_11 (.seq c82_12 .ret))
def c82_14 : AC := .out [0, 2, 3] (.cond (.t 21) c82_9 (.seq c82_10 c82_13))
def c82_15 : AC := .out [0, 2, 3] (.block 2 (.seq c82_8 c82_14))
def c82_16 : AC := .out [0, 2, 3] (.block 1 (.seq c82_7 c82_15))
def c82_17 : AC := (.seq (.seq c82_5 c82_6) c82_16)
def c82_18 : AC := .out [2, 3] (.loop [0, 3] c82_17)
def c82_19 : AC := .out [2, 3] (.block 0 c82_18)
def c82_r11 : List AI := [w 56 (.mv (.t 3)),w 2 (.asg (.t 56))]
def c82_20 : AC := .out [2] (.reg [3] c82_r11)
def c82_21 : AC := (.seq c82_0 (.seq (.seq c82_1 c82_3) (.seq c82_4 (.seq c82_19 (.seq c82_20 .ret)))))
def c82 : AC := c82_21
def d82 : FD := { nargs := 1, body := c82, res := [.t 2] }
-- anceps/token.IsName
def c58_r0 : List AI := [w 2 (.asg (.c .bool false))]
def c58_0 : AC := .out [0] (.reg [0] c58_r0)
def c58_r1 : List AI := [w 3 (.mv (.t 0)),w 4 (.bin .neq (.t 3) (.c .str [])),w 5 (.mv (.t 4)),
  ⟨some 6, .mv (.t 0), some (5, true)⟩,
  ⟨some 7, .lenS (.t 6), some (5, true)⟩,
  ⟨some 8, .bin .leq (.t 7) (.c U2 20), some (5, true)⟩,
  w 9 (.pick (.t 5) (.t 8) (.c .bool false)),w 10 (.mv (.t 9)),
  ⟨some 11, .mv (.t 0), some (10, true)⟩,
  ⟨some 12, .call 82 [(.t 11)], some (10, true)⟩,
  ⟨some 13, .mv (.t 0), some (10, true)⟩,
  ⟨some 14, .lenS (.t 13), some (10, true)⟩,
  ⟨some 15, .bin .eql (.t 12) (.t 14), some (10, true)⟩,
  w 16 (.pick (.t 10) (.t 15) (.c .bool false)),w 2 (.asg (.t 16))]
def c58_1 : AC := .out [2] (.reg [0] c58_r1)
def c58_2 : AC := (.seq c58_0 (.seq c58_1 .ret))
def c58 : AC := c58_2
def d58 : FD := { nargs := 1, body := c58, res := [.t 2] }
-- strings.IndexByte
def c114_r0 : List AI := [w 4 (.asg (.c U2 0))]
def c114_0 : AC := .out [0, 1] (.reg [0, 1] c114_r0)
def c114_r1 : List AI := [w 5 (.mv (.t 0)),w 6 (.mv (.t 1)),w 7 (.call 119 [(.t 5), (.t 6)]),w 4 (.asg (.t 7))]
def c114_1 : AC := .out [4] (.reg [0, 1] c114_r1)
def c114_2 : AC := (.seq c114_0 (.seq c114_1 .ret))
def c114 : AC := c114_2
def d114 : FD := { nargs := 2, body := c114, res := [.t 4] }
-- anceps/text.letter
def c109_r0 : List AI := [w 2 (.asg (.c .bool false))]
def c109_0 : AC := .out [0] (.reg [0] c109_r0)
def c109_r1 : List AI := [w 3 (.mv (.t 0)),w 4 (.bin .geq (.t 3) (.c U1 32)),w 5 (.mv (.t 4)),
  ⟨some 6, .mv (.t 0), some (5, true)⟩,
  ⟨some 7, .bin .leq (.t 6) (.c U1 126), some (5, true)⟩,
  w 8 (.pick (.t 5) (.t 7) (.c .bool false)),w 9 (.mv (.t 8)),
  ⟨some 10, .mv (.t 0), some (9, true)⟩,
  ⟨some 11, .call 114 [(.c .str [32, 46, 44, 59, 58, 33, 63, 34, 45, 91, 93, 60, 62, 123, 125]), (.t 10)], some (9, true)⟩,
  ⟨some 12, .bin .lss (.t 11) (.c U2 0), some (9, true)⟩,
  w 13 (.pick (.t 9) (.t 12) (.c .bool false)),w 2 (.asg (.t 13))]
def c109_1 : AC := .out [2] (.reg [0] c109_r1)
def c109_2 : AC := (.seq c109_0 (.seq c109_1 .ret))
def c109 : AC := c109_2
def d109 : FD := { nargs := 1, body := c109, res := [.t 2] }
-- anceps/text.Join$1
def c108_r0 : List AI := [w 2 (.asg (.c .bool false))]
def c108_0 : AC := .out [0] (.reg [0] c108_r0)
def c108_r1 : List AI := [w 3 (.mv (.t 0)),w 4 (.call 109 [(.t 3)]),w 5 (.un .not (.t 4)),w 2 (.asg (.t 5))]
def c108_1 : AC := .out [2] (.reg [0] c108_r1)
def c108_2 : AC := (.seq c108_0 (.seq c108_1 .ret))
def c108 : AC := c108_2
def d108 : FD := { nargs := 1, body := c108, res := [.t 2] }
-- slices.IndexFunc[[]byte,byte]
def c113_r0 : List AI := [w 4 (.asg (.c U2 0))]
def c113_0 : AC := .out [0, 1] (.reg [0, 1] c113_r0)
def c113_r1 : List AI := [w 6 (.mv (.t 0)),w 7 (.lenL (.t 6)),w 8 (.mv (.c U2 0))]
def c113_1 : AC := .out [0, 1, 7, 8] (.reg [0, 1] c113_r1)
def c113_r2 : List AI := [w 9 (.bin .lss (.t 8) (.t 7))]
def c113_2 : AC := .out [0, 1, 7, 8, 9] (.reg [0, 1, 7, 8] c113_r2)
def c113_3 : AC := .out [0, 1, 7, 8] (.cond (.t 9) .skip (.exit 0))
def c113_r3 : List AI := [w 10 (.mv (.t 8)),w 5 (.asg (.t 10))]
def c113_4 : AC := .out [0, 1, 5, 7, 8] (.reg [0, 1, 7, 8] c113_r3)
def c113_r4 : List AI := [w 11 (.mv (.t 1)),w 12 (.mv (.t 0)),w 13 (.mv (.t 5)),w 14 (.indexAddr U1 (.t 12) (.t 13)),w 15 (.load U1 (.t 14)),w 16 (.callv (.t 11) [(.t 15)])]
def c113_5 : AC := .out [0, 1, 5, 7, 8, 16] (.reg [0, 1, 5, 7, 8] c113_r4)
def c113_r5 : List AI := [w 17 (.mv (.t 5)),w 4 (.asg (.t 17))]
def c113_6 : AC := .out [4] (.reg [5] c113_r5)
def c113_7 : AC := .out [0, 1, 4, 7, 8] (.cond (.t 16) (.seq c113_6 .ret) .skip)
def c113_8 : AC := .out [0, 1, 4, 7, 8] (.block 1 (.seq c113_4 (.seq c113_5 c113_7)))
def c113_r6 : List AI := [w 18 (.bin .add (.t 8) (.c U2 1)),w 8 (.mv (.t 18))]
def c113_9 : AC := .out [0, 1, 7, 8] (.reg [0, 1, 7, 8] c113_r6)
def c113_10 : AC := (.seq c113_2 (.seq c113_3 (.seq c113_8 c113_9)))
def c113_11 : AC := .out [4] (.loop [0, 1, 7, 8] c113_10)
def c113_12 : AC := .out [4] (.block 0 c113_11)
def c113_r7 : List AI := [w 4 (.asg (.c U2 (-1)))]
def c113_13 : AC := .out [4] (.reg [] c113_r7)
def c113_14 : AC := (.seq c113_0 (.seq (.seq c113_1 c113_12) (.seq c113_13 .ret)))
def c113 : AC := c113_14
def d113 : FD := { nargs := 2, body := c113, res := [.t 4] }
-- slices.ContainsFunc[[]byte,byte]
def c107_r0 : List AI := [w 4 (.asg (.c .bool false))]
def c107_0 : AC := .out [0, 1] (.reg [0, 1] c107_r0)
def c107_r1 : List AI := [w 5 (.mv (.t 0)),w 6 (.mv (.t 1)),w 7 (.call 113 [(.t 5), (.t 6)]),w 8 (.bin .geq (.t 7) (.c U2 0)),w 4 (.asg (.t 8))]
def c107_1 : AC := .out [4] (.reg [0, 1] c107_r1)
def c107_2 : AC := (.seq c107_0 (.seq c107_1 .ret))
def c107 : AC := c107_2
def d107 : FD := { nargs := 2, body := c107, res := [.t 4] }
-- strings.Join
def c110_r0 : List AI := [w 4 (.asg (.c .str []))]
def c110_0 : AC := .out [0, 1] (.reg [0, 1] c110_r0)
def c110_r1 : List AI := [w 11 (.mv (.t 0)),w 12 (.lenL (.t 11))]
def c110_1 : AC := .out [0, 1, 12] (.reg [0, 1] c110_r1)
def c110_r2 : List AI := [w 14 (.bin .eql (.t 12) (.c U2 0)),w 13 (.asg (.t 14))]
def c110_2 : AC := .out [0, 1, 12, 13] (.reg [0, 1, 12] c110_r2)
def c110_r3 : List AI := [w 4 (.asg (.c .str []))]
def c110_3 : AC := .out [4] (.reg [] c110_r3)
def c110_r4 : List AI := [w 16 (.bin .eql (.t 12) (.c U2 1)),w 15 (.asg (.t 16))]
def c110_4 : AC := .out [0, 1, 15] (.reg [0, 1, 12] c110_r4)
def c110_r5 : List AI := [w 17 (.mv (.t 0)),w 18 (.indexAddr .str (.t 17) (.c U2 0)),w 19 (.load .str (.t 18)),w 4 (.asg (.t 19))]
def c110_5 : AC := .out [4] (.reg [0] c110_r5)
def c110_6 : AC := .out [0, 1, 4] (.cond (.t 15) (.seq c110_5 .ret) .skip)
def c110_7 : AC := .out [0, 1, 4] (.cond (.t 13) (.seq c110_3 .ret) (.seq c110_4 c110_6))
def c110_8 : AC := .out [0, 1, 4] (.block 0 (.seq c110_2 c110_7))
def c110_r6 : List AI := [w 5 (.asg (.c U2 0))]
def c110_9 : AC := .out [0, 1, 5] (.reg [0, 1] c110_r6)
def c110_r7 : List AI := [w 20 (.mv (.t 1)),w 21 (.lenS (.t 20)),w 22 (.bin .gtr (.t 21) (.c U2 0))]
def c110_10 : AC := .out [0, 1, 5, 22] (.reg [0, 1, 5] c110_r7)
def c110_r8 : List AI := [w 23 (.mv (.t 1)),w 24 (.lenS (.t 23)),w 25 (.mv (.t 0)),w 26 (.lenL (.t 25)),w 27 (.bin .sub (.t 26) (.c U2 1)),w 28 (.bin .quo (.c U2 9223372036854775807) (.t 27)),w 29 (.bin .geq (.t 24) (.t 28))]
def c110_11 : AC := .out [0, 1, 5, 29] (.reg [0, 1, 5] c110_r8)
def c110_r9 : List AI := [w 30 (.bad),
  ⟨none, .bad, none⟩]
def c110_12 : AC := .out [] (.reg [0, 1, 5] c110_r9)
def c110_13 : AC := .out [0, 1, 5] (.cond (.t 29) c110_12 .skip)
def c110_r10 : List AI := [w 31 (.mv (.t 5)),w 32 (.mv (.t 1)),w 33 (.lenS (.t 32)),w 34 (.mv (.t 0)),w 35 (.lenL (.t 34)),w 36 (.bin .sub (.t 35) (.c U2 1)),w 37 (.bin .mul (.t 33) (.t 36)),w 38 (.bin .add (.t 31) (.t 37)),w 5 (.asg (.t 38))]
def c110_14 : AC := .out [0, 1, 5] (.reg [0, 1, 5] c110_r10)
def c110_15 : AC := .out [0, 1, 5] (.cond (.t 22) (.seq (.seq c110_11 c110_13) c110_14) .skip)
def c110_16 : AC := (.seq c110_10 c110_15)
def c110_r11 : List AI := [w 39 (.mv (.t 0)),w 40 (.lenL (.t 39)),w 41 (.mv (.c U2 0))]
def c110_17 : AC := .out [0, 1, 5, 39, 40, 41] (.reg [0, 1, 5] c110_r11)
def c110_r12 : List AI := [w 42 (.bin .lss (.t 41) (.t 40))]
def c110_18 : AC := .out [0, 1, 5, 39, 40, 41, 42] (.reg [0, 1, 5, 39, 40, 41] c110_r12)
def c110_19 : AC := .out [0, 1, 5, 39, 40, 41] (.cond (.t 42) .skip (.exit 1))
def c110_r13 : List AI := [w 43 (.indexAddr .str (.t 39) (.t 41)),w 44 (.load .str (.t 43)),w 7 (.asg (.t 44))]
def c110_20 : AC := .out [0, 1, 5, 7, 39, 40, 41] (.reg [0, 1, 5, 39, 40, 41] c110_r13)
def c110_r14 : List AI := [w 45 (.mv (.t 7)),w 46 (.lenS (.t 45)),w 47 (.mv (.t 5)),w 48 (.bin .sub (.c U2 9223372036854775807) (.t 47)),w 49 (.bin .gtr (.t 46) (.t 48))]
def c110_21 : AC := .out [0, 1, 5, 7, 39, 40, 41, 49] (.reg [0, 1, 5, 7, 39, 40, 41] c110_r14)
def c110_r15 : List AI := [w 50 (.bad),
  ⟨none, .bad, none⟩]
def c110_22 : AC := .out [] (.reg [0, 1, 5, 7, 39, 40, 41] c110_r15)
def c110_23 : AC := .out [0, 1, 5, 7, 39, 40, 41] (.cond (.t 49) c110_22 .skip)
def c110_r16 : List AI := [w 51 (.mv (.t 5)),w 52 (.mv (.t 7)),w 53 (.lenS (.t 52)),w 54 (.bin .add (.t 51) (.t 53)),w 5 (.asg (.t 54))]
def c110_24 : AC := .out [0, 1, 5, 39, 40, 41] (.reg [0, 1, 5, 7, 39, 40, 41] c110_r16)
def c110_25 : AC := .out [0, 1, 5, 39, 40, 41] (.block 2 (.seq c110_20 (.seq (.seq c110_21 c110_23) c110_24)))
def c110_r17 : List AI := [w 55 (.bin .add (.t 41) (.c U2 1)),w 41 (.mv (.t 55))]
def c110_26 : AC := .out [0, 1, 5, 39, 40, 41] (.reg [0, 1, 5, 39, 40, 41] c110_r17)
def c110_27 : AC := (.seq c110_18 (.seq c110_19 (.seq c110_25 c110_26)))
def c110_28 : AC := .out [0, 1, 5] (.loop [0, 1, 5, 39, 40, 41] c110_27)
def c110_29 : AC := .out [0, 1, 5] (.block 1 c110_28)
def c110_r18 : List AI := [w 8 (.bad)]
def c110_30 : AC := .out [] (.reg [0, 1, 5] c110_r18)
def c110_r19 : List AI := [w 56 (.mv (.t 5)),w 57 (.call 115 [(.t 8), (.t 56)])]
def c110_31 : AC := .out [] (.reg [] c110_r19)
def c110_r20 : List AI := [w 58 (.mv (.t 0)),w 59 (.indexAddr .str (.t 58) (.c U2 0)),w 60 (.load .str (.t 59)),w 61 (.call 116 [(.t 8), (.t 60)])]
def c110_32 : AC := .out [] (.reg [] c110_r20)
def c110_r21 : List AI := [w 62 (.mv (.t 0)),w 63 (.sliceL .str (.t 62) (some (.c U2 1)) none none),w 64 (.lenL (.t 63)),w 65 (.mv (.c U2 0))]
def c110_33 : AC := .out [] (.reg [] c110_r21)
def c110_r22 : List AI := [w 66 (.bin .lss (.t 65) (.t 64))]
def c110_34 : AC := .out [] (.reg [] c110_r22)
def c110_35 : AC := .out [] (.cond (.t 66) .skip (.exit 3))
def c110_r23 : List AI := [w 67 (.indexAddr .str (.t 63) (.t 65)),w 68 (.load .str (.t 67)),w 10 (.asg (.t 68))]
def c110_36 : AC := .out [] (.reg [] c110_r23)
def c110_r24 : List AI := [w 69 (.mv (.t 1)),w 70 (.call 116 [(.t 8), (.t 69)])]
def c110_37 : AC := .out [] (.reg [] c110_r24)
def c110_r25 : List AI := [w 71 (.mv (.t 10)),w 72 (.call 116 [(.t 8), (.t 71)])]
def c110_38 : AC := .out [] (.reg [] c110_r25)
def c110_39 : AC := .out [] (.block 4 (.seq c110_36 (.seq c110_37 c110_38)))
def c110_r26 : List AI := [w 73 (.bin .add (.t 65) (.c U2 1)),w 65 (.mv (.t 73))]
def c110_40 : AC := .out [] (.reg [] c110_r26)
def c110_41 : AC := (.seq c110_34 (.seq c110_35 (.seq c110_39 c110_40)))
def c110_42 : AC := .out [] (.loop [] c110_41)
def c110_43 : AC := .out [] (.block 3 c110_42)
def c110_r27 : List AI := [w 74 (.call 117 [(.t 8)]),w 4 (.asg (.t 74))]
def c110_44 : AC := .out [] (.reg [] c110_r27)
def c110_45 : AC := (.seq c110_0 (.seq (.seq c110_1 c110_8) (.seq c110_9 (.seq c110_16 (.seq (.seq c110_17 c110_29) (.seq c110_30 (.seq c110_31 (.seq c110_32 (.seq (.seq c110_33 c110_43) (.seq c110_44 .ret))))))))))
def c110 : AC := c110_45
def d110 : FD := { nargs := 2, body := c110, res := [.t 4] }
-- anceps/text.Join
def c95_r0 : List AI := [w 2 (.asg (.c .str [])),w 3 (.asg (.c U2 0))]
def c95_0 : AC := .out [0] (.reg [0] c95_r0)
def c95_r1 : List AI := [w 7 (.mv (.t 0)),w 8 (.lenL (.t 7)),w 9 (.mv (.c U2 0))]
def c95_1 : AC := .out [0, 7, 8, 9] (.reg [0] c95_r1)
def c95_r2 : List AI := [w 10 (.bin .lss (.t 9) (.t 8))]
def c95_2 : AC := .out [0, 7, 8, 9, 10] (.reg [0, 7, 8, 9] c95_r2)
def c95_3 : AC := .out [0, 7, 8, 9] (.cond (.t 10) .skip (.exit 0))
def c95_r3 : List AI := [w 11 (.indexAddr .str (.t 7) (.t 9)),w 12 (.load .str (.t 11)),w 5 (.asg (.t 12))]
def c95_4 : AC := .out [0, 5, 7, 8, 9] (.reg [0, 7, 8, 9] c95_r3)
def c95_r4 : List AI := [w 13 (.mv (.t 5)),w 14 (.bin .eql (.t 13) (.c .str []))]
def c95_5 : AC := .out [0, 5, 7, 8, 9, 14] (.reg [0, 5, 7, 8, 9] c95_r4)
def c95_r5 : List AI := [w 2 (.asg (.c .str [])),w 3 (.asg (.c U2 7))]
def c95_6 : AC := .out [2, 3] (.reg [] c95_r5)
def c95_7 : AC := .out [0, 2, 3, 5, 7, 8, 9] (.cond (.t 14) (.seq c95_6 .ret) .skip)
def c95_r6 : List AI := [w 15 (.mv (.t 5)),w 16 (.toSl (.t 15)),w 17 (.call 107 [(.t 16), (.fn 108 U7 .bool)])]
def c95_8 : AC := .out [0, 7, 8, 9, 17] (.reg [0, 5, 7, 8, 9] c95_r6)
def c95_r7 : List AI := [w 2 (.asg (.c .str [])),w 3 (.asg (.c U2 2))]
def c95_9 : AC := .out [2, 3] (.reg [] c95_r7)
def c95_10 : AC := .out [0, 2, 3, 7, 8, 9] (.cond (.t 17) (.seq c95_9 .ret) .skip)
def c95_11 : AC := .out [0, 2, 3, 7, 8, 9] (.block 1 (.seq c95_4 (.seq (.seq c95_5 c95_7) (.seq c95_8 c95_10))))
def c95_r8 : List AI := [w 18 (.bin .add (.t 9) (.c U2 1)),w 9 (.mv (.t 18))]
def c95_12 : AC := .out [0, 7, 8, 9] (.reg [0, 7, 8, 9] c95_r8)
def c95_13 : AC := (.seq c95_2 (.seq c95_3 (.seq c95_11 c95_12)))
def c95_14 : AC := .out [0, 2, 3] (.loop [0, 7, 8, 9] c95_13)
def c95_15 : AC := .out [0, 2, 3] (.block 0 c95_14)
def c95_r9 : List AI := [w 19 (.mv (.t 0)),w 20 (.call 110 [(.t 19), (.c .str [32])]),w 6 (.asg (.t 20))]
def c95_16 : AC := .out [6] (.reg [0] c95_r9)
def c95_r10 : List AI := [w 21 (.mv (.t 6)),w 22 (.lenS (.t 21)),w 23 (.bin .gtr (.t 22) (.c U2 120))]
def c95_17 : AC := .out [6, 23] (.reg [6] c95_r10)
def c95_r11 : List AI := [w 2 (.asg (.c .str [])),w 3 (.asg (.c U2 3))]
def c95_18 : AC := .out [2, 3] (.reg [] c95_r11)
def c95_19 : AC := .out [2, 3, 6] (.cond (.t 23) (.seq c95_18 .ret) .skip)
def c95_r12 : List AI := [w 24 (.mv (.t 6)),w 2 (.asg (.t 24)),w 3 (.asg (.c U2 0))]
def c95_20 : AC := .out [2, 3] (.reg [6] c95_r12)
def c95_21 : AC := (.seq c95_0 (.seq (.seq c95_1 c95_15) (.seq c95_16 (.seq (.seq c95_17 c95_19) (.seq c95_20 .ret)))))
def c95 : AC := c95_21
def d95 : FD := { nargs := 1, body := c95, res := [.t 2, .t 3] }
-- anceps/text.Fold
def c62_r0 : List AI := [w 2 (.asg (.c .str []))]
def c62_0 : AC := .out [0] (.reg [0] c62_r0)
def c62_r1 : List AI := [w 6 (.mv (.t 0)),w 7 (.toSl (.t 6)),w 3 (.asg (.t 7))]
def c62_1 : AC := .out [3] (.reg [0] c62_r1)
def c62_r2 : List AI := [w 8 (.mv (.t 3)),w 9 (.lenL (.t 8)),w 10 (.mv (.c U2 0))]
def c62_2 : AC := .out [3, 8, 9, 10] (.reg [3] c62_r2)
def c62_r3 : List AI := [w 11 (.bin .lss (.t 10) (.t 9))]
def c62_3 : AC := .out [3, 8, 9, 10, 11] (.reg [3, 8, 9, 10] c62_r3)
def c62_4 : AC := .out [3, 8, 9, 10] (.cond (.t 11) .skip (.exit 0))
def c62_r4 : List AI := [w 12 (.mv (.t 10)),w 13 (.indexAddr U1 (.t 8) (.t 10)),w 14 (.load U1 (.t 13)),w 4 (.asg (.t 12)),w 5 (.asg (.t 14))]
def c62_5 : AC := .out [3, 4, 5, 8, 9, 10] (.reg [3, 8, 9, 10] c62_r4)
def c62_r5 : List AI := [w 15 (.mv (.t 5)),w 16 (.bin .geq (.t 15) (.c U1 65)),w 17 (.mv (.t 16)),
  ⟨some 18, .mv (.t 5), some (17, true)⟩,
  ⟨some 19, .bin .leq (.t 18) (.c U1 90), some (17, true)⟩,
  w 20 (.pick (.t 17) (.t 19) (.c .bool false))]
def c62_6 : AC := .out [3, 4, 5, 8, 9, 10, 20] (.reg [3, 4, 5, 8, 9, 10] c62_r5)
def c62_r6 : List AI := [w 21 (.mv (.t 3)),w 22 (.mv (.t 4)),w 23 (.mv (.t 5)),w 24 (.bin .sub (.t 23) (.c U1 65)),w 25 (.bin .add (.t 24) (.c U1 97)),w 26 (.indexAddr U1 (.t 21) (.t 22)),
  ⟨none, .store U1 (.t 26) (.t 25), none⟩]
def c62_7 : AC := .out [3, 8, 9, 10] (.reg [3, 4, 5, 8, 9, 10] c62_r6)
def c62_8 : AC := .out [3, 8, 9, 10] (.cond (.t 20) c62_7 .skip)
def c62_9 : AC := .out [3, 8, 9, 10] (.block 1 (.seq c62_5 (.seq c62_6 c62_8)))
def c62_r7 : List AI := [w 27 (.bin .add (.t 10) (.c U2 1)),w 10 (.mv (.t 27))]
def c62_10 : AC := .out [3, 8, 9, 10] (.reg [3, 8, 9, 10] c62_r7)
def c62_11 : AC := (.seq c62_3 (.seq c62_4 (.seq c62_9 c62_10)))
def c62_12 : AC := .out [3] (.loop [3, 8, 9, 10] c62_11)
def c62_13 : AC := .out [3] (.block 0 c62_12)
def c62_r8 : List AI := [w 28 (.mv (.t 3)),w 29 (.toStr (.t 28)),w 2 (.asg (.t 29))]
def c62_14 : AC := .out [2] (.reg [3] c62_r8)
def c62_15 : AC := (.seq c62_0 (.seq c62_1 (.seq (.seq c62_2 c62_13) (.seq c62_14 .ret))))
def c62 : AC := c62_15
def d62 : FD := { nargs := 1, body := c62, res := [.t 2] }
-- anceps/licence.word
def c83_r0 : List AI := [w 2 (.asg (.c U2 0))]
def c83_0 : AC := .out [0] (.reg [0] c83_r0)
def c83_r1 : List AI := [w 5 (.mv (.t 0)),w 6 (.lenS (.t 5)),w 7 (.bin .gtr (.t 6) (.c U2 16))]
def c83_1 : AC := .out [0, 7] (.reg [0] c83_r1)
def c83_r2 : List AI := [w 2 (.asg (.c U2 3))]
def c83_2 : AC := .out [2] (.reg [] c83_r2)
def c83_3 : AC := .out [0, 2] (.cond (.t 7) (.seq c83_2 .ret) .skip)
def c83_r3 : List AI := [w 9 (.mv (.t 0)),w 10 (.buildSlice 9 .str [(.t 9)]),w 11 (.call 95 [(.t 10)]),w 8 (.mv (.t 11)),w 12 (.extract 8 0),w 13 (.extract 8 1),w 3 (.asg (.t 12)),w 4 (.asg (.t 13))]
def c83_4 : AC := .out [0, 4] (.reg [0] c83_r3)
def c83_r4 : List AI := [w 14 (.mv (.t 4)),w 15 (.bin .neq (.t 14) (.c U2 0)),w 16 (.mv (.t 15)),
  ⟨some 17, .mv (.t 0), some (16, false)⟩,
  ⟨some 18, .call 62 [(.t 17)], some (16, false)⟩,
  ⟨some 19, .mv (.t 0), some (16, false)⟩,
  ⟨some 20, .bin .neq (.t 18) (.t 19), some (16, false)⟩,
  w 21 (.pick (.t 16) (.c .bool true) (.t 20))]
def c83_5 : AC := .out [21] (.reg [0, 4] c83_r4)
def c83_r5 : List AI := [w 2 (.asg (.c U2 2))]
def c83_6 : AC := .out [2] (.reg [] c83_r5)
def c83_7 : AC := .out [2] (.cond (.t 21) (.seq c83_6 .ret) .skip)
def c83_r6 : List AI := [w 2 (.asg (.c U2 0))]
def c83_8 : AC := .out [2] (.reg [] c83_r6)
def c83_9 : AC := (.seq c83_0 (.seq (.seq c83_1 c83_3) (.seq (.seq c83_4 (.seq c83_5 c83_7)) (.seq c83_8 .ret))))
def c83 : AC := c83_9
def d83 : FD := { nargs := 1, body := c83, res := [.t 2] }
-- slices.Index[[]string,string]
def c96_r0 : List AI := [w 4 (.asg (.c U2 0))]
def c96_0 : AC := .out [0, 1] (.reg [0, 1] c96_r0)
def c96_r1 : List AI := [w 6 (.mv (.t 0)),w 7 (.lenL (.t 6)),w 8 (.mv (.c U2 0))]
def c96_1 : AC := .out [0, 1, 7, 8] (.reg [0, 1] c96_r1)
def c96_r2 : List AI := [w 9 (.bin .lss (.t 8) (.t 7))]
def c96_2 : AC := .out [0, 1, 7, 8, 9] (.reg [0, 1, 7, 8] c96_r2)
def c96_3 : AC := .out [0, 1, 7, 8] (.cond (.t 9) .skip (.exit 0))
def c96_r3 : List AI := [w 10 (.mv (.t 8)),w 5 (.asg (.t 10))]
def c96_4 : AC := .out [0, 1, 5, 7, 8] (.reg [0, 1, 7, 8] c96_r3)
def c96_r4 : List AI := [w 11 (.mv (.t 1)),w 12 (.mv (.t 0)),w 13 (.mv (.t 5)),w 14 (.indexAddr .str (.t 12) (.t 13)),w 15 (.load .str (.t 14)),w 16 (.bin .eql (.t 11) (.t 15))]
def c96_5 : AC := .out [0, 1, 5, 7, 8, 16] (.reg [0, 1, 5, 7, 8] c96_r4)
def c96_r5 : List AI := [w 17 (.mv (.t 5)),w 4 (.asg (.t 17))]
def c96_6 : AC := .out [4] (.reg [5] c96_r5)
def c96_7 : AC := .out [0, 1, 4, 7, 8] (.cond (.t 16) (.seq c96_6 .ret) .skip)
def c96_8 : AC := .out [0, 1, 4, 7, 8] (.block 1 (.seq c96_4 (.seq c96_5 c96_7)))
def c96_r6 : List AI := [w 18 (.bin .add (.t 8) (.c U2 1)),w 8 (.mv (.t 18))]
def c96_9 : AC := .out [0, 1, 7, 8] (.reg [0, 1, 7, 8] c96_r6)
def c96_10 : AC := (.seq c96_2 (.seq c96_3 (.seq c96_8 c96_9)))
def c96_11 : AC := .out [4] (.loop [0, 1, 7, 8] c96_10)
def c96_12 : AC := .out [4] (.block 0 c96_11)
def c96_r7 : List AI := [w 4 (.asg (.c U2 (-1)))]
def c96_13 : AC := .out [4] (.reg [] c96_r7)
def c96_14 : AC := (.seq c96_0 (.seq (.seq c96_1 c96_12) (.seq c96_13 .ret)))
def c96 : AC := c96_14
def d96 : FD := { nargs := 2, body := c96, res := [.t 4] }
-- slices.Contains[[]string,string]
def c84_r0 : List AI := [w 4 (.asg (.c .bool false))]
def c84_0 : AC := .out [0, 1] (.reg [0, 1] c84_r0)
def c84_r1 : List AI := [w 5 (.mv (.t 0)),w 6 (.mv (.t 1)),w 7 (.call 96 [(.t 5), (.t 6)]),w 8 (.bin .geq (.t 7) (.c U2 0)),w 4 (.asg (.t 8))]
def c84_1 : AC := .out [4] (.reg [0, 1] c84_r1)
def c84_2 : AC := (.seq c84_0 (.seq c84_1 .ret))
def c84 : AC := c84_2
def d84 : FD := { nargs := 2, body := c84, res := [.t 4] }
-- anceps/licence.rule
def c59_r0 : List AI := [w 1 (.box U20 (.t 0)),w 2 (.asg (.c U2 0))]
def c59_0 : AC := .out [1] (.reg [0] c59_r0)
def c59_r1 : List AI := [w 7 (.fieldAddr U20 [.l] (.t 1)),w 8 (.load U2 (.t 7)),w 9 (.bin .lss (.t 8) (.c U2 1)),w 10 (.mv (.t 9)),
  ⟨some 11, .fieldAddr U20 [.l] (.t 1), some (10, false)⟩,
  ⟨some 12, .load U2 (.t 11), some (10, false)⟩,
  ⟨some 13, .bin .gtr (.t 12) (.c U2 12), some (10, false)⟩,
  w 14 (.pick (.t 10) (.c .bool true) (.t 13)),w 15 (.mv (.t 14)),
  ⟨some 16, .fieldAddr U20 [.r, .l] (.t 1), some (15, false)⟩,
  ⟨some 17, .load U2 (.t 16), some (15, false)⟩,
  ⟨some 18, .bin .lss (.t 17) (.c U2 0), some (15, false)⟩,
  w 19 (.pick (.t 15) (.c .bool true) (.t 18)),w 20 (.mv (.t 19)),
  ⟨some 21, .fieldAddr U20 [.r, .l] (.t 1), some (20, false)⟩,
  ⟨some 22, .load U2 (.t 21), some (20, false)⟩,
  ⟨some 23, .bin .gtr (.t 22) (.c U2 999), some (20, false)⟩,
  w 24 (.pick (.t 20) (.c .bool true) (.t 23)),w 6 (.asg (.t 24))]
def c59_1 : AC := .out [1, 6] (.reg [1] c59_r1)
def c59_r2 : List AI := [w 2 (.asg (.c U2 6))]
def c59_2 : AC := .out [2] (.reg [] c59_r2)
def c59_r3 : List AI := [w 26 (.fieldAddr U20 [.r, .r, .l] (.t 1)),w 27 (.load U0 (.t 26)),w 28 (.lenL (.t 27)),w 29 (.bin .gtr (.t 28) (.c U2 20)),w 25 (.asg (.t 29))]
def c59_3 : AC := .out [1, 25] (.reg [1] c59_r3)
def c59_r4 : List AI := [w 2 (.asg (.c U2 3))]
def c59_4 : AC := .out [2] (.reg [] c59_r4)
def c59_5 : AC := .out [1, 2] (.cond (.t 25) (.seq c59_4 .ret) .skip)
def c59_6 : AC := .out [1, 2] (.cond (.t 6) (.seq c59_2 .ret) (.seq c59_3 c59_5))
def c59_7 : AC := .out [1, 2] (.block 0 (.seq c59_1 c59_6))
def c59_r5 : List AI := [w 30 (.fieldAddr U20 [.r, .r, .l] (.t 1)),w 31 (.load U0 (.t 30)),w 32 (.lenL (.t 31)),w 33 (.mv (.c U2 0))]
def c59_8 : AC := .out [1, 31, 32, 33] (.reg [1] c59_r5)
def c59_r6 : List AI := [w 34 (.bin .lss (.t 33) (.t 32))]
def c59_9 : AC := .out [1, 31, 32, 33, 34] (.reg [1, 31, 32, 33] c59_r6)
def c59_10 : AC := .out [1, 31, 32, 33] (.cond (.t 34) .skip (.exit 1))
def c59_r7 : List AI := [w 35 (.mv (.t 33)),w 36 (.indexAddr .str (.t 31) (.t 33)),w 37 (.load .str (.t 36)),w 3 (.asg (.t 35)),w 4 (.asg (.t 37))]
def c59_11 : AC := .out [1, 3, 4, 31, 32, 33] (.reg [1, 31, 32, 33] c59_r7)
def c59_r8 : List AI := [w 38 (.mv (.t 4)),w 39 (.call 83 [(.t 38)]),w 5 (.asg (.t 39))]
def c59_12 : AC := .out [1, 3, 4, 5, 31, 32, 33] (.reg [1, 3, 4, 31, 32, 33] c59_r8)
def c59_r9 : List AI := [w 40 (.mv (.t 5)),w 41 (.bin .neq (.t 40) (.c U2 0))]
def c59_13 : AC := .out [1, 3, 4, 5, 31, 32, 33, 41] (.reg [1, 3, 4, 5, 31, 32, 33] c59_r9)
def c59_r10 : List AI := [w 42 (.mv (.t 5)),w 2 (.asg (.t 42))]
def c59_14 : AC := .out [2] (.reg [5] c59_r10)
def c59_15 : AC := .out [1, 2, 3, 4, 31, 32, 33] (.cond (.t 41) (.seq c59_14 .ret) .skip)
def c59_r11 : List AI := [w 43 (.fieldAddr U20 [.r, .r, .l] (.t 1)),w 44 (.load U0 (.t 43)),w 45 (.mv (.t 3)),w 46 (.sliceL .str (.t 44) none (some (.t 45)) none),w 47 (.mv (.t 4)),w 48 (.call 84 [(.t 46), (.t 47)])]
def c59_16 : AC := .out [1, 31, 32, 33, 48] (.reg [1, 3, 4, 31, 32, 33] c59_r11)
def c59_r12 : List AI := [w 2 (.asg (.c U2 5))]
def c59_17 : AC := .out [2] (.reg [] c59_r12)
def c59_18 : AC := .out [1, 2, 31, 32, 33] (.cond (.t 48) (.seq c59_17 .ret) .skip)
def c59_19 : AC := .out [1, 2, 31, 32, 33] (.block 2 (.seq c59_11 (.seq (.seq c59_12 (.seq c59_13 c59_15)) (.seq c59_16 c59_18))))
def c59_r13 : List AI := [w 49 (.bin .add (.t 33) (.c U2 1)),w 33 (.mv (.t 49))]
def c59_20 : AC := .out [1, 31, 32, 33] (.reg [1, 31, 32, 33] c59_r13)
def c59_21 : AC := (.seq c59_9 (.seq c59_10 (.seq c59_19 c59_20)))
def c59_22 : AC := .out [2] (.loop [1, 31, 32, 33] c59_21)
def c59_23 : AC := .out [2] (.block 1 c59_22)
def c59_r14 : List AI := [w 2 (.asg (.c U2 0))]
def c59_24 : AC := .out [2] (.reg [] c59_r14)
def c59_25 : AC := (.seq c59_0 (.seq c59_7 (.seq (.seq c59_8 c59_23) (.seq c59_24 .ret))))
def c59 : AC := c59_25
def d59 : FD := { nargs := 1, body := c59, res := [.t 2] }
-- anceps/licence.Valid
def c32_r0 : List AI := [w 1 (.box U27 (.t 0)),w 2 (.asg (.c U2 0))]
def c32_0 : AC := .out [1] (.reg [0] c32_r0)
def c32_r1 : List AI := [w 7 (.fieldAddr U27 [.l] (.t 1)),w 8 (.load .str (.t 7)),w 9 (.call 58 [(.t 8)]),w 10 (.un .not (.t 9)),w 6 (.asg (.t 10))]
def c32_1 : AC := .out [1, 6] (.reg [1] c32_r1)
def c32_r2 : List AI := [w 2 (.asg (.c U2 2))]
def c32_2 : AC := .out [2] (.reg [] c32_r2)
def c32_r3 : List AI := [w 12 (.fieldAddr U27 [.r, .l] (.t 1)),w 13 (.load U22 (.t 12)),w 14 (.lenL (.t 13)),w 15 (.bin .gtr (.t 14) (.c U2 30)),w 11 (.asg (.t 15))]
def c32_3 : AC := .out [1, 11] (.reg [1] c32_r3)
def c32_r4 : List AI := [w 2 (.asg (.c U2 3))]
def c32_4 : AC := .out [2] (.reg [] c32_r4)
def c32_5 : AC := .out [1, 2] (.cond (.t 11) (.seq c32_4 .ret) .skip)
def c32_6 : AC := .out [1, 2] (.cond (.t 6) (.seq c32_2 .ret) (.seq c32_3 c32_5))
def c32_7 : AC := .out [1, 2] (.block 0 (.seq c32_1 c32_6))
def c32_r5 : List AI := [w 16 (.fieldAddr U27 [.r, .l] (.t 1)),w 17 (.load U22 (.t 16)),w 18 (.lenL (.t 17)),w 19 (.mv (.c U2 0))]
def c32_8 : AC := .out [17, 18, 19] (.reg [1] c32_r5)
def c32_r6 : List AI := [w 20 (.bin .lss (.t 19) (.t 18))]
def c32_9 : AC := .out [17, 18, 19, 20] (.reg [17, 18, 19] c32_r6)
def c32_10 : AC := .out [17, 18, 19] (.cond (.t 20) .skip (.exit 1))
def c32_r7 : List AI := [w 21 (.indexAddr U20 (.t 17) (.t 19)),w 22 (.load U20 (.t 21)),w 4 (.alloc U20 (.pair .no (.pair .no (.pair (.own true 9 .no) .no)))),
  ⟨none, .store U20 (.t 4) (.t 22), none⟩]
def c32_11 : AC := .out [4, 17, 18, 19] (.reg [17, 18, 19] c32_r7)
def c32_r8 : List AI := [w 23 (.load U20 (.t 4)),w 24 (.call 59 [(.t 23)]),w 5 (.asg (.t 24))]
def c32_12 : AC := .out [5, 17, 18, 19] (.reg [4, 17, 18, 19] c32_r8)
def c32_r9 : List AI := [w 25 (.mv (.t 5)),w 26 (.bin .neq (.t 25) (.c U2 0))]
def c32_13 : AC := .out [5, 17, 18, 19, 26] (.reg [5, 17, 18, 19] c32_r9)
def c32_r10 : List AI := [w 27 (.mv (.t 5)),w 2 (.asg (.t 27))]
def c32_14 : AC := .out [2] (.reg [5] c32_r10)
def c32_15 : AC := .out [2, 17, 18, 19] (.cond (.t 26) (.seq c32_14 .ret) .skip)
def c32_16 : AC := .out [2, 17, 18, 19] (.block 2 (.seq c32_11 (.seq c32_12 (.seq c32_13 c32_15))))
def c32_r11 : List AI := [w 28 (.bin .add (.t 19) (.c U2 1)),w 19 (.mv (.t 28))]
def c32_17 : AC := .out [17, 18, 19] (.reg [17, 18, 19] c32_r11)
def c32_18 : AC := (.seq c32_9 (.seq c32_10 (.seq c32_16 c32_17)))
def c32_19 : AC := .out [2] (.loop [17, 18, 19] c32_18)
def c32_20 : AC := .out [2] (.block 1 c32_19)
def c32_r12 : List AI := [w 2 (.asg (.c U2 0))]
def c32_21 : AC := .out [2] (.reg [] c32_r12)
def c32_22 : AC := (.seq c32_0 (.seq c32_7 (.seq (.seq c32_8 c32_20) (.seq c32_21 .ret))))
def c32 : AC := c32_22
def d32 : FD := { nargs := 1, body := c32, res := [.t 2] }
-- anceps/sound.quantity
def c97_r0 : List AI := [w 1 (.box U17 (.t 0)),w 2 (.asg (.c .bool false))]
def c97_0 : AC := .out [1] (.reg [0] c97_r0)
def c97_r1 : List AI := [w 3 (.fieldAddr U17 [.l] (.t 1)),w 4 (.load U2 (.t 3))]
def c97_1 : AC := .out [1, 4] (.reg [1] c97_r1)
def c97_r2 : List AI := [w 6 (.bin .eql (.t 4) (.c U2 1)),w 5 (.asg (.t 6))]
def c97_2 : AC := .out [1, 4, 5] (.reg [1, 4] c97_r2)
def c97_r3 : List AI := [w 7 (.fieldAddr U17 [.r, .l] (.t 1)),w 8 (.load U2 (.t 7)),w 9 (.bin .geq (.t 8) (.c U2 1)),w 10 (.mv (.t 9)),
  ⟨some 11, .fieldAddr U17 [.r, .l] (.t 1), some (10, true)⟩,
  ⟨some 12, .load U2 (.t 11), some (10, true)⟩,
  ⟨some 13, .bin .leq (.t 12) (.c U2 3), some (10, true)⟩,
  w 14 (.pick (.t 10) (.t 13) (.c .bool false)),w 2 (.asg (.t 14))]
def c97_3 : AC := .out [2] (.reg [1] c97_r3)
def c97_r4 : List AI := [w 16 (.bin .eql (.t 4) (.c U2 2)),w 15 (.asg (.t 16))]
def c97_4 : AC := .out [1, 15] (.reg [1, 4] c97_r4)
def c97_r5 : List AI := [w 17 (.fieldAddr U17 [.r, .l] (.t 1)),w 18 (.load U2 (.t 17)),w 19 (.bin .eql (.t 18) (.c U2 2)),w 2 (.asg (.t 19))]
def c97_5 : AC := .out [2] (.reg [1] c97_r5)
def c97_6 : AC := .out [1, 2] (.cond (.t 15) (.seq c97_5 .ret) .skip)
def c97_7 : AC := .out [1, 2] (.cond (.t 5) (.seq c97_3 .ret) (.seq c97_4 c97_6))
def c97_8 : AC := .out [1, 2] (.block 0 (.seq c97_2 c97_7))
def c97_r6 : List AI := [w 20 (.fieldAddr U17 [.r, .l] (.t 1)),w 21 (.load U2 (.t 20)),w 22 (.bin .eql (.t 21) (.c U2 0)),w 2 (.asg (.t 22))]
def c97_9 : AC := .out [2] (.reg [1] c97_r6)
def c97_10 : AC := (.seq c97_0 (.seq (.seq c97_1 c97_8) (.seq c97_9 .ret)))
def c97 : AC := c97_10
def d97 : FD := { nargs := 1, body := c97, res := [.t 2] }
-- anceps/sound.written
def c100_r0 : List AI := [w 2 (.asg (.c .bool false))]
def c100_0 : AC := .out [0] (.reg [0] c100_r0)
def c100_r1 : List AI := [w 3 (.mv (.t 0)),w 4 (.bin .geq (.t 3) (.c U3 97)),w 5 (.mv (.t 4)),
  ⟨some 6, .mv (.t 0), some (5, true)⟩,
  ⟨some 7, .bin .leq (.t 6) (.c U3 122), some (5, true)⟩,
  w 8 (.pick (.t 5) (.t 7) (.c .bool false)),w 9 (.mv (.t 8)),
  ⟨some 10, .mv (.t 0), some (9, false)⟩,
  ⟨some 11, .bin .geq (.t 10) (.c U3 48), some (9, false)⟩,
  ⟨some 12, .mv (.t 11), some (9, false)⟩,
  ⟨some 13, .mv (.t 0), some (12, true)⟩,
  ⟨some 14, .bin .leq (.t 13) (.c U3 57), some (12, true)⟩,
  ⟨some 15, .pick (.t 12) (.t 14) (.c .bool false), some (9, false)⟩,
  w 16 (.pick (.t 9) (.c .bool true) (.t 15)),w 17 (.mv (.t 16)),
  ⟨some 18, .mv (.t 0), some (17, false)⟩,
  ⟨some 19, .bin .eql (.t 18) (.c U3 95), some (17, false)⟩,
  w 20 (.pick (.t 17) (.c .bool true) (.t 19)),w 21 (.mv (.t 20)),
  ⟨some 22, .mv (.t 0), some (21, false)⟩,
  ⟨some 23, .bin .eql (.t 22) (.c U3 94), some (21, false)⟩,
  w 24 (.pick (.t 21) (.c .bool true) (.t 23)),w 25 (.mv (.t 24)),
  ⟨some 26, .mv (.t 0), some (25, false)⟩,
  ⟨some 27, .bin .eql (.t 26) (.c U3 39), some (25, false)⟩,
  w 28 (.pick (.t 25) (.c .bool true) (.t 27)),w 2 (.asg (.t 28))]
def c100_1 : AC := .out [2] (.reg [0] c100_r1)
def c100_2 : AC := (.seq c100_0 (.seq c100_1 .ret))
def c100 : AC := c100_2
def d100 : FD := { nargs := 1, body := c100, res := [.t 2] }
-- anceps/sound.Valid$1
def c99_r0 : List AI := [w 2 (.asg (.c .bool false))]
def c99_0 : AC := .out [0] (.reg [0] c99_r0)
def c99_r1 : List AI := [w 3 (.mv (.t 0)),w 4 (.call 100 [(.t 3)]),w 5 (.un .not (.t 4)),w 2 (.asg (.t 5))]
def c99_1 : AC := .out [2] (.reg [0] c99_r1)
def c99_2 : AC := (.seq c99_0 (.seq c99_1 .ret))
def c99 : AC := c99_2
def d99 : FD := { nargs := 1, body := c99, res := [.t 2] }
-- strings.indexFunc
def c118_r0 : List AI := [w 6 (.asg (.c U2 0))]
def c118_0 : AC := .out [0, 1, 2] (.reg [0, 1, 2] c118_r0)
def c118_r1 : List AI := [w 9 (.mv (.t 0)),w 10 (.rng (.t 9))]
def c118_1 : AC := .out [1, 2, 10] (.reg [0, 1, 2] c118_r1)
def c118_r2 : List AI := [w 11 (.nxt 10),w 12 (.extract 11 0)]
def c118_2 : AC := .out [1, 2, 10, 11, 12] (.reg [1, 2, 10] c118_r2)
def c118_3 : AC := .out [1, 2, 10, 11] (.cond (.t 12) .skip (.exit 0))
def c118_r3 : List AI := [w 13 (.extract 11 1),w 14 (.extract 11 2),w 7 (.asg (.t 13)),w 8 (.asg (.t 14))]
def c118_4 : AC := .out [1, 2, 7, 8, 10] (.reg [1, 2, 10, 11] c118_r3)
def c118_r4 : List AI := [w 15 (.mv (.t 1)),w 16 (.mv (.t 8)),w 17 (.callv (.t 15) [(.t 16)]),w 18 (.mv (.t 2)),w 19 (.eqT false .bool (.t 17) (.t 18))]
def c118_5 : AC := .out [1, 2, 7, 10, 19] (.reg [1, 2, 7, 8, 10] c118_r4)
def c118_r5 : List AI := [w 20 (.mv (.t 7)),w 6 (.asg (.t 20))]
def c118_6 : AC := .out [6] (.reg [7] c118_r5)
def c118_7 : AC := .out [1, 2, 6, 10] (.cond (.t 19) (.seq c118_6 .ret) .skip)
def c118_8 : AC := .out [1, 2, 6, 10] (.block 1 (.seq c118_4 (.seq c118_5 c118_7)))
def c118_9 : AC := (.seq c118_2 (.seq c118_3 c118_8))
def c118_10 : AC := .out [6] (.loop [1, 2, 10] c118_9)
def c118_11 : AC := .out [6] (.block 0 c118_10)
def c118_r6 : List AI := [w 6 (.asg (.c U2 (-1)))]
def c118_12 : AC := .out [6] (.reg [] c118_r6)
def c118_13 : AC := (.seq c118_0 (.seq (.seq c118_1 c118_11) (.seq c118_12 .ret)))
def c118 : AC := c118_13
def d118 : FD := { nargs := 3, body := c118, res := [.t 6] }
-- strings.IndexFunc
def c111_r0 : List AI := [w 4 (.asg (.c U2 0))]
def c111_0 : AC := .out [0, 1] (.reg [0, 1] c111_r0)
def c111_r1 : List AI := [w 5 (.mv (.t 0)),w 6 (.mv (.t 1)),w 7 (.call 118 [(.t 5), (.t 6), (.c .bool true)]),w 4 (.asg (.t 7))]
def c111_1 : AC := .out [4] (.reg [0, 1] c111_r1)
def c111_2 : AC := (.seq c111_0 (.seq c111_1 .ret))
def c111 : AC := c111_2
def d111 : FD := { nargs := 2, body := c111, res := [.t 4] }
-- strings.ContainsFunc
def c98_r0 : List AI := [w 4 (.asg (.c .bool false))]
def c98_0 : AC := .out [0, 1] (.reg [0, 1] c98_r0)
def c98_r1 : List AI := [w 5 (.mv (.t 0)),w 6 (.mv (.t 1)),w 7 (.call 111 [(.t 5), (.t 6)]),w 8 (.bin .geq (.t 7) (.c U2 0)),w 4 (.asg (.t 8))]
def c98_1 : AC := .out [4] (.reg [0, 1] c98_r1)
def c98_2 : AC := (.seq c98_0 (.seq c98_1 .ret))
def c98 : AC := c98_2
def d98 : FD := { nargs := 2, body := c98, res := [.t 4] }
-- anceps/sound.Valid
def c85_r0 : List AI := [w 1 (.box U17 (.t 0)),w 2 (.asg (.c U2 0))]
def c85_0 : AC := .out [1] (.reg [0] c85_r0)
def c85_r1 : List AI := [w 4 (.fieldAddr U17 [.l] (.t 1)),w 5 (.load U2 (.t 4)),w 6 (.bin .lss (.t 5) (.c U2 1)),w 7 (.mv (.t 6)),
  ⟨some 8, .fieldAddr U17 [.l] (.t 1), some (7, false)⟩,
  ⟨some 9, .load U2 (.t 8), some (7, false)⟩,
  ⟨some 10, .bin .gtr (.t 9) (.c U2 9), some (7, false)⟩,
  w 11 (.pick (.t 7) (.c .bool true) (.t 10)),w 3 (.asg (.t 11))]
def c85_1 : AC := .out [1, 3] (.reg [1] c85_r1)
def c85_r2 : List AI := [w 2 (.asg (.c U2 1))]
def c85_2 : AC := .out [2] (.reg [] c85_r2)
def c85_r3 : List AI := [w 13 (.load U17 (.t 1)),w 14 (.call 97 [(.t 13)]),w 15 (.un .not (.t 14)),w 12 (.asg (.t 15))]
def c85_3 : AC := .out [1, 12] (.reg [1] c85_r3)
def c85_r4 : List AI := [w 2 (.asg (.c U2 6))]
def c85_4 : AC := .out [2] (.reg [] c85_r4)
def c85_r5 : List AI := [w 17 (.fieldAddr U17 [.r, .r, .l] (.t 1)),w 18 (.load .str (.t 17)),w 19 (.bin .eql (.t 18) (.c .str [])),w 16 (.asg (.t 19))]
def c85_5 : AC := .out [1, 16] (.reg [1] c85_r5)
def c85_r6 : List AI := [w 2 (.asg (.c U2 7))]
def c85_6 : AC := .out [2] (.reg [] c85_r6)
def c85_r7 : List AI := [w 21 (.fieldAddr U17 [.r, .r, .l] (.t 1)),w 22 (.load .str (.t 21)),w 23 (.lenS (.t 22)),w 24 (.bin .gtr (.t 23) (.c U2 8)),w 20 (.asg (.t 24))]
def c85_7 : AC := .out [1, 20] (.reg [1] c85_r7)
def c85_r8 : List AI := [w 2 (.asg (.c U2 3))]
def c85_8 : AC := .out [2] (.reg [] c85_r8)
def c85_r9 : List AI := [w 26 (.fieldAddr U17 [.r, .r, .l] (.t 1)),w 27 (.load .str (.t 26)),w 28 (.call 98 [(.t 27), (.fn 99 U8 .bool)]),w 25 (.asg (.t 28))]
def c85_9 : AC := .out [25] (.reg [1] c85_r9)
def c85_r10 : List AI := [w 2 (.asg (.c U2 2))]
def c85_10 : AC := .out [2] (.reg [] c85_r10)
def c85_11 : AC := .out [2] (.cond (.t 25) (.seq c85_10 .ret) .skip)
def c85_12 : AC := .out [2] (.cond (.t 20) (.seq c85_8 .ret) (.seq c85_9 c85_11))
def c85_13 : AC := .out [2] (.cond (.t 16) (.seq c85_6 .ret) (.seq c85_7 c85_12))
def c85_14 : AC := .out [2] (.cond (.t 12) (.seq c85_4 .ret) (.seq c85_5 c85_13))
def c85_15 : AC := .out [2] (.cond (.t 3) (.seq c85_2 .ret) (.seq c85_3 c85_14))
def c85_16 : AC := .out [2] (.block 0 (.seq c85_1 c85_15))
def c85_r11 : List AI := [w 2 (.asg (.c U2 0))]
def c85_17 : AC := .out [2] (.reg [] c85_r11)
def c85_18 : AC := (.seq c85_0 (.seq c85_16 (.seq c85_17 .ret)))
def c85 : AC := c85_18
def d85 : FD := { nargs := 1, body := c85, res := [.t 2] }
-- anceps/junction.valid
def c60_r0 : List AI := [w 2 (.asg (.c U2 0))]
def c60_0 : AC := .out [0] (.reg [0] c60_r0)
def c60_r1 : List AI := [w 6 (.mv (.t 0)),w 7 (.lenL (.t 6)),w 8 (.bin .gtr (.t 7) (.c U2 200))]
def c60_1 : AC := .out [0, 8] (.reg [0] c60_r1)
def c60_r2 : List AI := [w 2 (.asg (.c U2 3))]
def c60_2 : AC := .out [2] (.reg [] c60_r2)
def c60_3 : AC := .out [0, 2] (.cond (.t 8) (.seq c60_2 .ret) .skip)
def c60_r3 : List AI := [w 9 (.mv (.t 0)),w 10 (.lenL (.t 9)),w 11 (.mv (.c U2 0))]
def c60_4 : AC := .out [9, 10, 11] (.reg [0] c60_r3)
def c60_r4 : List AI := [w 12 (.bin .lss (.t 11) (.t 10))]
def c60_5 : AC := .out [9, 10, 11, 12] (.reg [9, 10, 11] c60_r4)
def c60_6 : AC := .out [9, 10, 11] (.cond (.t 12) .skip (.exit 0))
def c60_r5 : List AI := [w 13 (.indexAddr U17 (.t 9) (.t 11)),w 14 (.load U17 (.t 13)),w 4 (.alloc U17 .no),
  ⟨none, .store U17 (.t 4) (.t 14), none⟩]
def c60_7 : AC := .out [4, 9, 10, 11] (.reg [9, 10, 11] c60_r5)
def c60_r6 : List AI := [w 15 (.load U17 (.t 4)),w 16 (.call 85 [(.t 15)]),w 5 (.asg (.t 16))]
def c60_8 : AC := .out [5, 9, 10, 11] (.reg [4, 9, 10, 11] c60_r6)
def c60_r7 : List AI := [w 17 (.mv (.t 5)),w 18 (.bin .neq (.t 17) (.c U2 0))]
def c60_9 : AC := .out [5, 9, 10, 11, 18] (.reg [5, 9, 10, 11] c60_r7)
def c60_r8 : List AI := [w 19 (.mv (.t 5)),w 2 (.asg (.t 19))]
def c60_10 : AC := .out [2] (.reg [5] c60_r8)
def c60_11 : AC := .out [2, 9, 10, 11] (.cond (.t 18) (.seq c60_10 .ret) .skip)
def c60_12 : AC := .out [2, 9, 10, 11] (.block 1 (.seq c60_7 (.seq c60_8 (.seq c60_9 c60_11))))
def c60_r9 : List AI := [w 20 (.bin .add (.t 11) (.c U2 1)),w 11 (.mv (.t 20))]
def c60_13 : AC := .out [9, 10, 11] (.reg [9, 10, 11] c60_r9)
def c60_14 : AC := (.seq c60_5 (.seq c60_6 (.seq c60_12 c60_13)))
def c60_15 : AC := .out [2] (.loop [9, 10, 11] c60_14)
def c60_16 : AC := .out [2] (.block 0 c60_15)
def c60_r10 : List AI := [w 2 (.asg (.c U2 0))]
def c60_17 : AC := .out [2] (.reg [] c60_r10)
def c60_18 : AC := (.seq c60_0 (.seq (.seq c60_1 c60_3) (.seq (.seq c60_4 c60_16) (.seq c60_17 .ret))))
def c60 : AC := c60_18
def d60 : FD := { nargs := 1, body := c60, res := [.t 2] }
-- anceps/junction.both
def c33_r0 : List AI := [w 4 (.asg (.c U2 0))]
def c33_0 : AC := .out [0, 1] (.reg [0, 1] c33_r0)
def c33_r1 : List AI := [w 6 (.mv (.t 0)),w 7 (.call 60 [(.t 6)]),w 5 (.asg (.t 7))]
def c33_1 : AC := .out [1, 5] (.reg [0, 1] c33_r1)
def c33_r2 : List AI := [w 8 (.mv (.t 5)),w 9 (.bin .neq (.t 8) (.c U2 0))]
def c33_2 : AC := .out [1, 5, 9] (.reg [1, 5] c33_r2)
def c33_r3 : List AI := [w 10 (.mv (.t 5)),w 4 (.asg (.t 10))]
def c33_3 : AC := .out [4] (.reg [5] c33_r3)
def c33_4 : AC := .out [1, 4] (.cond (.t 9) (.seq c33_3 .ret) .skip)
def c33_r4 : List AI := [w 11 (.mv (.t 1)),w 12 (.call 60 [(.t 11)]),w 4 (.asg (.t 12))]
def c33_5 : AC := .out [4] (.reg [1] c33_r4)
def c33_6 : AC := (.seq c33_0 (.seq (.seq c33_1 (.seq c33_2 c33_4)) (.seq c33_5 .ret)))
def c33 : AC := c33_6
def d33 : FD := { nargs := 2, body := c33, res := [.t 4] }
-- anceps/sound.Nucleus
def c64_r0 : List AI := [w 1 (.box U17 (.t 0)),w 2 (.asg (.c .bool false))]
def c64_0 : AC := .out [1] (.reg [0] c64_r0)
def c64_r1 : List AI := [w 3 (.fieldAddr U17 [.l] (.t 1)),w 4 (.load U2 (.t 3)),w 5 (.bin .eql (.t 4) (.c U2 1)),w 6 (.mv (.t 5)),
  ⟨some 7, .fieldAddr U17 [.l] (.t 1), some (6, false)⟩,
  ⟨some 8, .load U2 (.t 7), some (6, false)⟩,
  ⟨some 9, .bin .eql (.t 8) (.c U2 2), some (6, false)⟩,
  w 10 (.pick (.t 6) (.c .bool true) (.t 9)),w 2 (.asg (.t 10))]
def c64_1 : AC := .out [2] (.reg [1] c64_r1)
def c64_2 : AC := (.seq c64_0 (.seq c64_1 .ret))
def c64 : AC := c64_2
def d64 : FD := { nargs := 1, body := c64, res := [.t 2] }
-- anceps/junction.Ends
def c37_r0 : List AI := [w 2 (.asg (.c U2 0))]
def c37_0 : AC := .out [0] (.reg [0] c37_r0)
def c37_r1 : List AI := [w 4 (.mv (.t 0)),w 5 (.lenL (.t 4)),w 3 (.asg (.t 5))]
def c37_1 : AC := .out [0, 3] (.reg [0] c37_r1)
def c37_r2 : List AI := [w 7 (.mv (.t 3)),w 8 (.bin .gtr (.t 7) (.c U2 0)),w 9 (.mv (.t 8)),
  ⟨some 10, .mv (.t 0), some (9, true)⟩,
  ⟨some 11, .mv (.t 3), some (9, true)⟩,
  ⟨some 12, .bin .sub (.t 11) (.c U2 1), some (9, true)⟩,
  ⟨some 13, .indexAddr U17 (.t 10) (.t 12), some (9, true)⟩,
  ⟨some 14, .load U17 (.t 13), some (9, true)⟩,
  ⟨some 15, .call 64 [(.t 14)], some (9, true)⟩,
  w 16 (.pick (.t 9) (.t 15) (.c .bool false)),w 6 (.asg (.t 16))]
def c37_2 : AC := .out [0, 3, 6] (.reg [0, 3] c37_r2)
def c37_r3 : List AI := [w 2 (.asg (.c U2 1))]
def c37_3 : AC := .out [2] (.reg [] c37_r3)
def c37_r4 : List AI := [w 18 (.mv (.t 3)),w 19 (.bin .gtr (.t 18) (.c U2 1)),w 20 (.mv (.t 19)),
  ⟨some 21, .mv (.t 0), some (20, true)⟩,
  ⟨some 22, .mv (.t 3), some (20, true)⟩,
  ⟨some 23, .bin .sub (.t 22) (.c U2 2), some (20, true)⟩,
  ⟨some 24, .indexAddr U17 (.t 21) (.t 23), some (20, true)⟩,
  ⟨some 25, .load U17 (.t 24), some (20, true)⟩,
  ⟨some 26, .call 64 [(.t 25)], some (20, true)⟩,
  w 27 (.pick (.t 20) (.t 26) (.c .bool false)),w 28 (.mv (.t 27)),
  ⟨some 29, .mv (.t 0), some (28, true)⟩,
  ⟨some 30, .mv (.t 3), some (28, true)⟩,
  ⟨some 31, .bin .sub (.t 30) (.c U2 1), some (28, true)⟩,
  ⟨some 32, .indexAddr U17 (.t 29) (.t 31), some (28, true)⟩,
  ⟨some 33, .fieldAddr U17 [.l] (.t 32), some (28, true)⟩,
  ⟨some 34, .load U2 (.t 33), some (28, true)⟩,
  ⟨some 35, .bin .eql (.t 34) (.c U2 5), some (28, true)⟩,
  w 36 (.pick (.t 28) (.t 35) (.c .bool false)),w 37 (.mv (.t 36)),
  ⟨some 38, .mv (.t 0), some (37, true)⟩,
  ⟨some 39, .mv (.t 3), some (37, true)⟩,
  ⟨some 40, .bin .sub (.t 39) (.c U2 1), some (37, true)⟩,
  ⟨some 41, .indexAddr U17 (.t 38) (.t 40), some (37, true)⟩,
  ⟨some 42, .fieldAddr U17 [.r, .r, .l] (.t 41), some (37, true)⟩,
  ⟨some 43, .load .str (.t 42), some (37, true)⟩,
  ⟨some 44, .bin .eql (.t 43) (.c .str [109]), some (37, true)⟩,
  w 45 (.pick (.t 37) (.t 44) (.c .bool false)),w 17 (.asg (.t 45))]
def c37_4 : AC := .out [17] (.reg [0, 3] c37_r4)
def c37_r5 : List AI := [w 2 (.asg (.c U2 2))]
def c37_5 : AC := .out [2] (.reg [] c37_r5)
def c37_6 : AC := .out [2] (.cond (.t 17) (.seq c37_5 .ret) .skip)
def c37_7 : AC := .out [2] (.cond (.t 6) (.seq c37_3 .ret) (.seq c37_4 c37_6))
def c37_8 : AC := .out [2] (.block 0 (.seq c37_2 c37_7))
def c37_r6 : List AI := [w 2 (.asg (.c U2 0))]
def c37_9 : AC := .out [2] (.reg [] c37_r6)
def c37_10 : AC := (.seq c37_0 (.seq c37_1 (.seq c37_8 (.seq c37_9 .ret))))
def c37 : AC := c37_10
def d37 : FD := { nargs := 1, body := c37, res := [.t 2] }
-- anceps/junction.first$1
def c81_r0 : List AI := [w 1 (.box U17 (.t 0)),w 2 (.asg (.c .bool false))]
def c81_0 : AC := .out [1] (.reg [0] c81_r0)
def c81_r1 : List AI := [w 3 (.fieldAddr U17 [.l] (.t 1)),w 4 (.load U2 (.t 3)),w 5 (.bin .neq (.t 4) (.c U2 9)),w 2 (.asg (.t 5))]
def c81_1 : AC := .out [2] (.reg [1] c81_r1)
def c81_2 : AC := (.seq c81_0 (.seq c81_1 .ret))
def c81 : AC := c81_2
def d81 : FD := { nargs := 1, body := c81, res := [.t 2] }
-- slices.IndexFunc[[]anceps/api.Sound,anceps/api.Sound]
def c80_r0 : List AI := [w 4 (.asg (.c U2 0))]
def c80_0 : AC := .out [0, 1] (.reg [0, 1] c80_r0)
def c80_r1 : List AI := [w 6 (.mv (.t 0)),w 7 (.lenL (.t 6)),w 8 (.mv (.c U2 0))]
def c80_1 : AC := .out [0, 1, 7, 8] (.reg [0, 1] c80_r1)
def c80_r2 : List AI := [w 9 (.bin .lss (.t 8) (.t 7))]
def c80_2 : AC := .out [0, 1, 7, 8, 9] (.reg [0, 1, 7, 8] c80_r2)
def c80_3 : AC := .out [0, 1, 7, 8] (.cond (.t 9) .skip (.exit 0))
def c80_r3 : List AI := [w 10 (.mv (.t 8)),w 5 (.asg (.t 10))]
def c80_4 : AC := .out [0, 1, 5, 7, 8] (.reg [0, 1, 7, 8] c80_r3)
def c80_r4 : List AI := [w 11 (.mv (.t 1)),w 12 (.mv (.t 0)),w 13 (.mv (.t 5)),w 14 (.indexAddr U17 (.t 12) (.t 13)),w 15 (.load U17 (.t 14)),w 16 (.callv (.t 11) [(.t 15)])]
def c80_5 : AC := .out [0, 1, 5, 7, 8, 16] (.reg [0, 1, 5, 7, 8] c80_r4)
def c80_r5 : List AI := [w 17 (.mv (.t 5)),w 4 (.asg (.t 17))]
def c80_6 : AC := .out [4] (.reg [5] c80_r5)
def c80_7 : AC := .out [0, 1, 4, 7, 8] (.cond (.t 16) (.seq c80_6 .ret) .skip)
def c80_8 : AC := .out [0, 1, 4, 7, 8] (.block 1 (.seq c80_4 (.seq c80_5 c80_7)))
def c80_r6 : List AI := [w 18 (.bin .add (.t 8) (.c U2 1)),w 8 (.mv (.t 18))]
def c80_9 : AC := .out [0, 1, 7, 8] (.reg [0, 1, 7, 8] c80_r6)
def c80_10 : AC := (.seq c80_2 (.seq c80_3 (.seq c80_8 c80_9)))
def c80_11 : AC := .out [4] (.loop [0, 1, 7, 8] c80_10)
def c80_12 : AC := .out [4] (.block 0 c80_11)
def c80_r7 : List AI := [w 4 (.asg (.c U2 (-1)))]
def c80_13 : AC := .out [4] (.reg [] c80_r7)
def c80_14 : AC := (.seq c80_0 (.seq (.seq c80_1 c80_12) (.seq c80_13 .ret)))
def c80 : AC := c80_14
def d80 : FD := { nargs := 2, body := c80, res := [.t 4] }
-- anceps/junction.first
def c53_r0 : List AI := [w 2 (.asg (.c U2 0))]
def c53_0 : AC := .out [0] (.reg [0] c53_r0)
def c53_r1 : List AI := [w 4 (.mv (.t 0)),w 5 (.call 80 [(.t 4), (.fn 81 U24 .bool)]),w 3 (.asg (.t 5))]
def c53_1 : AC := .out [0, 3] (.reg [0] c53_r1)
def c53_r2 : List AI := [w 6 (.mv (.t 3)),w 7 (.bin .lss (.t 6) (.c U2 0))]
def c53_2 : AC := .out [0, 3, 7] (.reg [0, 3] c53_r2)
def c53_r3 : List AI := [w 8 (.mv (.t 0)),w 9 (.lenL (.t 8)),w 2 (.asg (.t 9))]
def c53_3 : AC := .out [2] (.reg [0] c53_r3)
def c53_4 : AC := .out [2, 3] (.cond (.t 7) (.seq c53_3 .ret) .skip)
def c53_r4 : List AI := [w 10 (.mv (.t 3)),w 2 (.asg (.t 10))]
def c53_5 : AC := .out [2] (.reg [3] c53_r4)
def c53_6 : AC := (.seq c53_0 (.seq c53_1 (.seq (.seq c53_2 c53_4) (.seq c53_5 .ret))))
def c53 : AC := c53_6
def d53 : FD := { nargs := 1, body := c53, res := [.t 2] }
-- anceps/junction.Begins
def c61_r0 : List AI := [w 2 (.asg (.c .bool false))]
def c61_0 : AC := .out [0] (.reg [0] c61_r0)
def c61_r1 : List AI := [w 4 (.mv (.t 0)),w 5 (.call 53 [(.t 4)]),w 3 (.asg (.t 5))]
def c61_1 : AC := .out [0, 3] (.reg [0] c61_r1)
def c61_r2 : List AI := [w 6 (.mv (.t 3)),w 7 (.mv (.t 0)),w 8 (.lenL (.t 7)),w 9 (.bin .lss (.t 6) (.t 8)),w 10 (.mv (.t 9)),
  ⟨some 11, .mv (.t 0), some (10, true)⟩,
  ⟨some 12, .mv (.t 3), some (10, true)⟩,
  ⟨some 13, .indexAddr U17 (.t 11) (.t 12), some (10, true)⟩,
  ⟨some 14, .load U17 (.t 13), some (10, true)⟩,
  ⟨some 15, .call 64 [(.t 14)], some (10, true)⟩,
  w 16 (.pick (.t 10) (.t 15) (.c .bool false)),w 2 (.asg (.t 16))]
def c61_2 : AC := .out [2] (.reg [0, 3] c61_r2)
def c61_3 : AC := (.seq c61_0 (.seq c61_1 (.seq c61_2 .ret)))
def c61 : AC := c61_3
def d61 : FD := { nargs := 1, body := c61, res := [.t 2] }
-- anceps/junction.possible
def c34_r0 : List AI := [w 4 (.asg (.nil 3 U2))]
def c34_0 : AC := .out [0, 1] (.reg [0, 1] c34_r0)
def c34_r1 : List AI := [w 6 (.mv (.t 0)),w 7 (.call 37 [(.t 6)]),w 5 (.asg (.t 7))]
def c34_1 : AC := .out [0, 1, 5] (.reg [0, 1] c34_r1)
def c34_r2 : List AI := [w 9 (.mv (.t 5)),w 10 (.bin .eql (.t 9) (.c U2 0)),w 11 (.mv (.t 10)),
  ⟨some 12, .mv (.t 1), some (11, false)⟩,
  ⟨some 13, .call 61 [(.t 12)], some (11, false)⟩,
  ⟨some 14, .un .not (.t 13), some (11, false)⟩,
  w 15 (.pick (.t 11) (.c .bool true) (.t 14)),w 8 (.asg (.t 15))]
def c34_2 : AC := .out [0, 5, 8] (.reg [0, 1, 5] c34_r2)
def c34_r3 : List AI := [w 16 (.buildSlice 3 U2 [(.c U2 0)]),w 4 (.asg (.t 16))]
def c34_3 : AC := .out [4] (.reg [] c34_r3)
def c34_r4 : List AI := [w 18 (.mv (.t 5)),w 19 (.bin .eql (.t 18) (.c U2 2)),w 17 (.asg (.t 19))]
def c34_4 : AC := .out [0, 17] (.reg [0, 5] c34_r4)
def c34_r5 : List AI := [w 20 (.buildSlice 3 U2 [(.c U2 1), (.c U2 3)]),w 4 (.asg (.t 20))]
def c34_5 : AC := .out [4] (.reg [] c34_r5)
def c34_r6 : List AI := [w 22 (.mv (.t 0)),w 23 (.mv (.t 0)),w 24 (.lenL (.t 23)),w 25 (.bin .sub (.t 24) (.c U2 1)),w 26 (.indexAddr U17 (.t 22) (.t 25)),w 27 (.fieldAddr U17 [.r, .l] (.t 26)),w 28 (.load U2 (.t 27)),w 29 (.bin .eql (.t 28) (.c U2 1)),w 21 (.asg (.t 29))]
def c34_6 : AC := .out [21] (.reg [0] c34_r6)
def c34_r7 : List AI := [w 30 (.buildSlice 3 U2 [(.c U2 1), (.c U2 2), (.c U2 3)]),w 4 (.asg (.t 30))]
def c34_7 : AC := .out [4] (.reg [] c34_r7)
def c34_8 : AC := .out [4] (.cond (.t 21) (.seq c34_7 .ret) .skip)
def c34_9 : AC := .out [4] (.cond (.t 17) (.seq c34_5 .ret) (.seq c34_6 c34_8))
def c34_10 : AC := .out [4] (.cond (.t 8) (.seq c34_3 .ret) (.seq c34_4 c34_9))
def c34_11 : AC := .out [4] (.block 0 (.seq c34_2 c34_10))
def c34_r8 : List AI := [w 31 (.buildSlice 3 U2 [(.c U2 1), (.c U2 2), (.c U2 3), (.c U2 4)]),w 4 (.asg (.t 31))]
def c34_12 : AC := .out [4] (.reg [] c34_r8)
def c34_13 : AC := (.seq c34_0 (.seq c34_1 (.seq c34_11 (.seq c34_12 .ret))))
def c34 : AC := c34_13
def d34 : FD := { nargs := 2, body := c34, res := [.t 4] }
-- anceps/junction.needed
def c36_r0 : List AI := [w 4 (.asg (.c U2 0))]
def c36_0 : AC := .out [0, 1] (.reg [0, 1] c36_r0)
def c36_r1 : List AI := [w 5 (.mv (.t 0))]
def c36_1 : AC := .out [1, 5] (.reg [0, 1] c36_r1)
def c36_r2 : List AI := [w 7 (.bin .eql (.t 5) (.c U2 2)),w 6 (.asg (.t 7))]
def c36_2 : AC := .out [1, 5, 6] (.reg [1, 5] c36_r2)
def c36_r3 : List AI := [w 4 (.asg (.c U2 10))]
def c36_3 : AC := .out [4] (.reg [] c36_r3)
def c36_r4 : List AI := [w 9 (.bin .eql (.t 5) (.c U2 3)),w 8 (.asg (.t 9))]
def c36_4 : AC := .out [1, 5, 8] (.reg [1, 5] c36_r4)
def c36_r5 : List AI := [w 4 (.asg (.c U2 11))]
def c36_5 : AC := .out [4] (.reg [] c36_r5)
def c36_r6 : List AI := [w 11 (.bin .eql (.t 5) (.c U2 4)),w 10 (.asg (.t 11))]
def c36_6 : AC := .out [1, 10] (.reg [1, 5] c36_r6)
def c36_r7 : List AI := [w 4 (.asg (.c U2 12))]
def c36_7 : AC := .out [4] (.reg [] c36_r7)
def c36_8 : AC := .out [1, 4] (.cond (.t 10) (.seq c36_7 .ret) .skip)
def c36_9 : AC := .out [1, 4] (.cond (.t 8) (.seq c36_5 .ret) (.seq c36_6 c36_8))
def c36_10 : AC := .out [1, 4] (.cond (.t 6) (.seq c36_3 .ret) (.seq c36_4 c36_9))
def c36_11 : AC := .out [1, 4] (.block 0 (.seq c36_2 c36_10))
def c36_r8 : List AI := [w 12 (.mv (.t 1)),w 13 (.bin .eql (.t 12) (.c U2 2))]
def c36_12 : AC := .out [13] (.reg [1] c36_r8)
def c36_r9 : List AI := [w 4 (.asg (.c U2 9))]
def c36_13 : AC := .out [4] (.reg [] c36_r9)
def c36_14 : AC := .out [4] (.cond (.t 13) (.seq c36_13 .ret) .skip)
def c36_r10 : List AI := [w 4 (.asg (.c U2 8))]
def c36_15 : AC := .out [4] (.reg [] c36_r10)
def c36_16 : AC := (.seq c36_0 (.seq (.seq c36_1 c36_11) (.seq (.seq c36_12 c36_14) (.seq c36_15 .ret))))
def c36 : AC := c36_16
def d36 : FD := { nargs := 2, body := c36, res := [.t 4] }
-- anceps/licence.applies
def c63_r0 : List AI := [w 2 (.box U20 (.t 0)),w 4 (.asg (.c .bool false))]
def c63_0 : AC := .out [1, 2] (.reg [0, 1] c63_r0)
def c63_r1 : List AI := [w 5 (.fieldAddr U20 [.r, .r, .l] (.t 2)),w 6 (.load U0 (.t 5)),w 7 (.lenL (.t 6)),w 8 (.bin .eql (.t 7) (.c U2 0)),w 9 (.mv (.t 8)),
  ⟨some 10, .fieldAddr U20 [.r, .r, .l] (.t 2), some (9, false)⟩,
  ⟨some 11, .load U0 (.t 10), some (9, false)⟩,
  ⟨some 12, .mv (.t 1), some (9, false)⟩,
  ⟨some 13, .call 84 [(.t 11), (.t 12)], some (9, false)⟩,
  w 14 (.pick (.t 9) (.c .bool true) (.t 13)),w 4 (.asg (.t 14))]
def c63_1 : AC := .out [4] (.reg [1, 2] c63_r1)
def c63_2 : AC := (.seq c63_0 (.seq c63_1 .ret))
def c63 : AC := c63_2
def d63 : FD := { nargs := 2, body := c63, res := [.t 4] }
-- anceps/licence.Cost
def c35_r0 : List AI := [w 3 (.box U27 (.t 0)),w 6 (.asg (.c U2 0)),w 7 (.asg (.c .bool false))]
def c35_0 : AC := .out [1, 2, 3] (.reg [0, 1, 2] c35_r0)
def c35_r1 : List AI := [w 12 (.mv (.t 2)),w 13 (.call 62 [(.t 12)]),w 2 (.asg (.t 13))]
def c35_1 : AC := .out [1, 2, 3] (.reg [1, 2, 3] c35_r1)
def c35_r2 : List AI := [w 8 (.asg (.c U2 0)),w 9 (.asg (.c .bool false))]
def c35_2 : AC := .out [1, 2, 3, 8, 9] (.reg [1, 2, 3] c35_r2)
def c35_r3 : List AI := [w 14 (.fieldAddr U27 [.r, .l] (.t 3)),w 15 (.load U22 (.t 14)),w 16 (.lenL (.t 15)),w 17 (.mv (.c U2 0))]
def c35_3 : AC := .out [1, 2, 8, 9, 15, 16, 17] (.reg [1, 2, 3, 8, 9] c35_r3)
def c35_r4 : List AI := [w 18 (.bin .lss (.t 17) (.t 16))]
def c35_4 : AC := .out [1, 2, 8, 9, 15, 16, 17, 18] (.reg [1, 2, 8, 9, 15, 16, 17] c35_r4)
def c35_5 : AC := .out [1, 2, 8, 9, 15, 16, 17] (.cond (.t 18) .skip (.exit 0))
def c35_r5 : List AI := [w 19 (.indexAddr U20 (.t 15) (.t 17)),w 20 (.load U20 (.t 19)),w 11 (.alloc U20 (.pair .no (.pair .no (.pair (.own true 9 .no) .no)))),
  ⟨none, .store U20 (.t 11) (.t 20), none⟩]
def c35_6 : AC := .out [1, 2, 8, 9, 11, 15, 16, 17] (.reg [1, 2, 8, 9, 15, 16, 17] c35_r5)
def c35_r6 : List AI := [w 21 (.fieldAddr U20 [.l] (.t 11)),w 22 (.load U2 (.t 21)),w 23 (.mv (.t 1)),w 24 (.bin .eql (.t 22) (.t 23)),w 25 (.mv (.t 24)),
  ⟨some 26, .load U20 (.t 11), some (25, true)⟩,
  ⟨some 27, .mv (.t 2), some (25, true)⟩,
  ⟨some 28, .call 63 [(.t 26), (.t 27)], some (25, true)⟩,
  w 29 (.pick (.t 25) (.t 28) (.c .bool false)),w 30 (.mv (.t 29)),
  ⟨some 31, .mv (.t 9), some (30, true)⟩,
  ⟨some 32, .un .not (.t 31), some (30, true)⟩,
  ⟨some 33, .mv (.t 32), some (30, true)⟩,
  ⟨some 34, .fieldAddr U20 [.r, .l] (.t 11), some (33, false)⟩,
  ⟨some 35, .load U2 (.t 34), some (33, false)⟩,
  ⟨some 36, .mv (.t 8), some (33, false)⟩,
  ⟨some 37, .bin .lss (.t 35) (.t 36), some (33, false)⟩,
  ⟨some 38, .pick (.t 33) (.c .bool true) (.t 37), some (30, true)⟩,
  w 39 (.pick (.t 30) (.t 38) (.c .bool false))]
def c35_7 : AC := .out [1, 2, 8, 9, 11, 15, 16, 17, 39] (.reg [1, 2, 8, 9, 11, 15, 16, 17] c35_r6)
def c35_r7 : List AI := [w 40 (.fieldAddr U20 [.r, .l] (.t 11)),w 41 (.load U2 (.t 40)),w 8 (.asg (.t 41)),w 9 (.asg (.c .bool true))]
def c35_8 : AC := .out [1, 2, 8, 9, 15, 16, 17] (.reg [1, 2, 11, 15, 16, 17] c35_r7)
def c35_9 : AC := .out [1, 2, 8, 9, 15, 16, 17] (.cond (.t 39) c35_8 .skip)
def c35_10 : AC := .out [1, 2, 8, 9, 15, 16, 17] (.block 1 (.seq c35_6 (.seq c35_7 c35_9)))
def c35_r8 : List AI := [w 42 (.bin .add (.t 17) (.c U2 1)),w 17 (.mv (.t 42))]
def c35_11 : AC := .out [1, 2, 8, 9, 15, 16, 17] (.reg [1, 2, 8, 9, 15, 16, 17] c35_r8)
def c35_12 : AC := (.seq c35_4 (.seq c35_5 (.seq c35_10 c35_11)))
def c35_13 : AC := .out [8, 9] (.loop [1, 2, 8, 9, 15, 16, 17] c35_12)
def c35_14 : AC := .out [8, 9] (.block 0 c35_13)
def c35_r9 : List AI := [w 43 (.mv (.t 8)),w 44 (.mv (.t 9)),w 6 (.asg (.t 43)),w 7 (.asg (.t 44))]
def c35_15 : AC := .out [6, 7] (.reg [8, 9] c35_r9)
def c35_16 : AC := (.seq c35_0 (.seq c35_1 (.seq c35_2 (.seq (.seq c35_3 c35_14) (.seq c35_15 .ret)))))
def c35 : AC := c35_16
def d35 : FD := { nargs := 3, body := c35, res := [.t 6, .t 7] }
-- anceps/junction.Joints
def c16_r0 : List AI := [w 5 (.box U27 (.t 0)),w 10 (.asg (.nil 45 U15)),w 11 (.asg (.c U2 0))]
def c16_0 : AC := .out [1, 2, 3, 4, 5] (.reg [0, 1, 2, 3, 4] c16_r0)
def c16_r1 : List AI := [w 20 (.load U27 (.t 5)),w 21 (.call 32 [(.t 20)]),w 12 (.asg (.t 21))]
def c16_1 : AC := .out [1, 2, 3, 4, 5, 12] (.reg [1, 2, 3, 4, 5] c16_r1)
def c16_r2 : List AI := [w 22 (.mv (.t 12)),w 23 (.bin .neq (.t 22) (.c U2 0))]
def c16_2 : AC := .out [1, 2, 3, 4, 5, 12, 23] (.reg [1, 2, 3, 4, 5, 12] c16_r2)
def c16_r3 : List AI := [w 24 (.mv (.t 12)),w 10 (.asg (.nil 45 U15)),w 11 (.asg (.t 24))]
def c16_3 : AC := .out [10, 11] (.reg [12] c16_r3)
def c16_4 : AC := .out [1, 2, 3, 4, 5, 10, 11] (.cond (.t 23) (.seq c16_3 .ret) .skip)
def c16_r4 : List AI := [w 25 (.mv (.t 3)),w 26 (.mv (.t 4)),w 27 (.call 33 [(.t 25), (.t 26)]),w 13 (.asg (.t 27))]
def c16_5 : AC := .out [1, 2, 3, 4, 5, 13] (.reg [1, 2, 3, 4, 5] c16_r4)
def c16_r5 : List AI := [w 28 (.mv (.t 13)),w 29 (.bin .neq (.t 28) (.c U2 0))]
def c16_6 : AC := .out [1, 2, 3, 4, 5, 13, 29] (.reg [1, 2, 3, 4, 5, 13] c16_r5)
def c16_r6 : List AI := [w 30 (.mv (.t 13)),w 10 (.asg (.nil 45 U15)),w 11 (.asg (.t 30))]
def c16_7 : AC := .out [10, 11] (.reg [13] c16_r6)
def c16_8 : AC := .out [1, 2, 3, 4, 5, 10, 11] (.cond (.t 29) (.seq c16_7 .ret) .skip)
def c16_r7 : List AI := [w 14 (.asg (.nil 45 U15))]
def c16_9 : AC := .out [1, 2, 3, 4, 5, 14] (.reg [1, 2, 3, 4, 5] c16_r7)
def c16_r8 : List AI := [w 31 (.mv (.t 3)),w 32 (.mv (.t 4)),w 33 (.call 34 [(.t 31), (.t 32)]),w 34 (.lenL (.t 33)),w 35 (.mv (.c U2 0))]
def c16_10 : AC := .out [1, 2, 3, 5, 14, 33, 34, 35] (.reg [1, 2, 3, 4, 5, 14] c16_r8)
def c16_r9 : List AI := [w 36 (.bin .lss (.t 35) (.t 34))]
def c16_11 : AC := .out [1, 2, 3, 5, 14, 33, 34, 35, 36] (.reg [1, 2, 3, 5, 14, 33, 34, 35] c16_r9)
def c16_12 : AC := .out [1, 2, 3, 5, 14, 33, 34, 35] (.cond (.t 36) .skip (.exit 0))
def c16_r10 : List AI := [w 37 (.indexAddr U2 (.t 33) (.t 35)),w 38 (.load U2 (.t 37)),w 16 (.asg (.t 38))]
def c16_13 : AC := .out [1, 2, 3, 5, 14, 16, 33, 34, 35] (.reg [1, 2, 3, 5, 14, 33, 34, 35] c16_r10)
def c16_r11 : List AI := [w 39 (.mv (.t 16)),w 40 (.bin .eql (.t 39) (.c U2 0))]
def c16_14 : AC := .out [1, 2, 3, 5, 14, 16, 33, 34, 35, 40] (.reg [1, 2, 3, 5, 14, 16, 33, 34, 35] c16_r11)
def c16_r12 : List AI := [w 41 (.mv (.t 14)),w 42 (.mv (.t 16)),w 43 (.build U15 [([.l], (.t 42))]),w 44 (.buildSlice 45 U15 [(.t 43)]),w 45 (.append 45 U15 8796093022208 (.t 41) (.t 44)),w 14 (.asg (.t 45))]
def c16_15 : AC := .out [1, 2, 3, 5, 14, 33, 34, 35] (.reg [1, 2, 3, 5, 14, 16, 33, 34, 35] c16_r12)
def c16_16 : AC := .out [1, 2, 3, 5, 14, 16, 33, 34, 35] (.cond (.t 40) (.seq c16_15 (.exit 1)) .skip)
def c16_r13 : List AI := [w 46 (.mv (.t 1)),w 17 (.asg (.t 46))]
def c16_17 : AC := .out [1, 2, 3, 5, 14, 16, 17, 33, 34, 35] (.reg [1, 2, 3, 5, 14, 16, 33, 34, 35] c16_r13)
def c16_r14 : List AI := [w 47 (.mv (.t 16)),w 48 (.bin .eql (.t 47) (.c U2 2))]
def c16_18 : AC := .out [1, 2, 3, 5, 14, 16, 17, 33, 34, 35, 48] (.reg [1, 2, 3, 5, 14, 16, 17, 33, 34, 35] c16_r14)
def c16_r15 : List AI := [w 49 (.mv (.t 2)),w 17 (.asg (.t 49))]
def c16_19 : AC := .out [1, 2, 3, 5, 14, 16, 17, 33, 34, 35] (.reg [1, 2, 3, 5, 14, 16, 33, 34, 35] c16_r15)
def c16_20 : AC := .out [1, 2, 3, 5, 14, 16, 17, 33, 34, 35] (.cond (.t 48) c16_19 .skip)
def c16_21 : AC := (.seq c16_18 c16_20)
def c16_r16 : List DI := [{ ai := w 51 (.load U27 (.t 5)), hide := [52, 53, 54, 55, 56], wr := [51], pre := [] },
  { ai := w 52 (.mv (.t 16)), hide := [51, 53, 54, 56], wr := [52], pre := [] },
  { ai := w 53 (.mv (.t 3)), hide := [51, 52, 56], wr := [53], pre := [] },
  { ai := w 54 (.call 37 [(.t 53)]), hide := [51, 52, 56], wr := [54], pre := [2] },
  { ai := w 55 (.call 36 [(.t 52), (.t 54)]), hide := [51, 56], wr := [55], pre := [1, 2, 3] },
  { ai := w 56 (.mv (.t 17)), hide := [51, 52, 53, 54, 55], wr := [56], pre := [] },
  { ai := w 57 (.call 35 [(.t 51), (.t 55), (.t 56)]), hide := [], wr := [57], pre := [0, 1, 2, 3, 4, 5] },
  { ai := w 50 (.mv (.t 57)), hide := [], wr := [50], pre := [0, 1, 2, 3, 4, 5, 6], piv := true },
  { ai := w 58 (.extract 50 0), hide := [59], wr := [58], pre := [0, 1, 2, 3, 4, 5, 6, 7] },
  { ai := w 59 (.extract 50 1), hide := [18, 58], wr := [59], pre := [0, 1, 2, 3, 4, 5, 6, 7] },
  { ai := w 18 (.asg (.t 58)), hide := [59], wr := [18], pre := [0, 1, 2, 3, 4, 5, 6, 7, 8] },
  { ai := w 19 (.asg (.t 59)), hide := [], wr := [19], pre := [0, 1, 2, 3, 4, 5, 6, 7, 8, 9, 10] }]
def c16_22 : AC := .out [1, 2, 3, 5, 14, 16, 18, 19, 33, 34, 35] (.draw [1, 2, 3, 5, 14, 16, 17, 33, 34, 35] c16_r16)
def c16_r17 : List AI := [w 60 (.mv (.t 19))]
def c16_23 : AC := .out [1, 2, 3, 5, 14, 16, 18, 33, 34, 35, 60] (.reg [1, 2, 3, 5, 14, 16, 18, 19, 33, 34, 35] c16_r17)
def c16_r18 : List AI := [w 61 (.mv (.t 14)),w 62 (.mv (.t 16)),w 63 (.mv (.t 18)),w 64 (.build U15 [([.l], (.t 62)), ([.r, .l], (.t 63))]),w 65 (.buildSlice 45 U15 [(.t 64)]),w 66 (.append 45 U15 8796093022208 (.t 61) (.t 65)),w 14 (.asg (.t 66))]
def c16_24 : AC := .out [1, 2, 3, 5, 14, 33, 34, 35] (.reg [1, 2, 3, 5, 14, 16, 18, 33, 34, 35] c16_r18)
def c16_25 : AC := .out [1, 2, 3, 5, 14, 33, 34, 35] (.cond (.t 60) c16_24 .skip)
def c16_26 : AC := .out [1, 2, 3, 5, 14, 33, 34, 35] (.block 1 (.seq c16_13 (.seq (.seq c16_14 c16_16) (.seq c16_17 (.seq c16_21 (.seq c16_22 (.seq c16_23 c16_25)))))))
def c16_r19 : List AI := [w 67 (.bin .add (.t 35) (.c U2 1)),w 35 (.mv (.t 67))]
def c16_27 : AC := .out [1, 2, 3, 5, 14, 33, 34, 35] (.reg [1, 2, 3, 5, 14, 33, 34, 35] c16_r19)
def c16_28 : AC := (.seq c16_11 (.seq c16_12 (.seq c16_26 c16_27)))
def c16_29 : AC := .out [14] (.loop [1, 2, 3, 5, 14, 33, 34, 35] c16_28)
def c16_30 : AC := .out [14] (.block 0 c16_29)
def c16_r20 : List AI := [w 68 (.mv (.t 14)),w 10 (.asg (.t 68)),w 11 (.asg (.c U2 0))]
def c16_31 : AC := .out [10, 11, 14] (.reg [14] c16_r20)
def c16_32 : AC := (.seq c16_0 (.seq (.seq c16_1 (.seq c16_2 c16_4)) (.seq (.seq c16_5 (.seq c16_6 c16_8)) (.seq c16_9 (.seq (.seq c16_10 c16_30) (.seq c16_31 .ret))))))
def c16 : AC := c16_32
def d16 : FD := { nargs := 5, body := c16, res := [.t 10, .t 11] }
-- anceps/junction.Cheapest$1
def c45_r0 : List AI := [w 2 (.box U15 (.t 0)),w 3 (.box U15 (.t 1)),w 4 (.asg (.c U2 0))]
def c45_0 : AC := .out [2, 3] (.reg [0, 1] c45_r0)
def c45_r1 : List AI := [w 5 (.fieldAddr U15 [.r, .l] (.t 2)),w 6 (.load U2 (.t 5)),w 7 (.fieldAddr U15 [.r, .l] (.t 3)),w 8 (.load U2 (.t 7)),w 9 (.bin .sub (.t 6) (.t 8)),w 4 (.asg (.t 9))]
def c45_1 : AC := .out [4] (.reg [2, 3] c45_r1)
def c45_2 : AC := (.seq c45_0 (.seq c45_1 .ret))
def c45 : AC := c45_2
def d45 : FD := { nargs := 2, body := c45, res := [.t 4] }
-- slices.MinFunc[[]anceps/api.Joint,anceps/api.Joint]
def c44_r0 : List AI := [w 4 (.alloc U15 .no)]
def c44_0 : AC := .out [0, 1, 4] (.reg [0, 1] c44_r0)
def c44_r1 : List AI := [w 7 (.mv (.t 0)),w 8 (.lenL (.t 7)),w 9 (.bin .lss (.t 8) (.c U2 1))]
def c44_1 : AC := .out [0, 1, 4, 9] (.reg [0, 1, 4] c44_r1)
def c44_r2 : List AI := [w 10 (.bad),
  ⟨none, .bad, none⟩]
def c44_2 : AC := .out [] (.reg [0, 1, 4] c44_r2)
def c44_3 : AC := .out [0, 1, 4] (.cond (.t 9) c44_2 .skip)
def c44_r3 : List AI := [w 11 (.mv (.t 0)),w 12 (.indexAddr U15 (.t 11) (.c U2 0)),w 13 (.load U15 (.t 12)),w 5 (.alloc U15 .no),
  ⟨none, .store U15 (.t 5) (.t 13), none⟩]
def c44_4 : AC := .out [0, 1, 4, 5] (.reg [0, 1, 4] c44_r3)
def c44_r4 : List AI := [w 6 (.asg (.c U2 1))]
def c44_5 : AC := .out [0, 1, 4, 5, 6] (.reg [0, 1, 4, 5] c44_r4)
def c44_r5 : List AI := [w 14 (.mv (.t 6)),w 15 (.mv (.t 0)),w 16 (.lenL (.t 15)),w 17 (.bin .lss (.t 14) (.t 16))]
def c44_6 : AC := .out [0, 1, 4, 5, 6, 17] (.reg [0, 1, 4, 5, 6] c44_r5)
def c44_7 : AC := .out [0, 1, 4, 5, 6] (.cond (.t 17) .skip (.exit 0))
def c44_r7 : List DI := [{ ai := w 20 (.mv (.t 1)), hide := [21, 22, 23, 24, 25], wr := [20], pre := [] },
  { ai := w 21 (.mv (.t 0)), hide := [20, 22, 25], wr := [21], pre := [] },
  { ai := w 22 (.mv (.t 6)), hide := [20, 21, 25], wr := [22], pre := [] },
  { ai := w 23 (.indexAddr U15 (.t 21) (.t 22)), hide := [20, 25], wr := [23], pre := [1, 2] },
  { ai := w 24 (.load U15 (.t 23)), hide := [20, 25], wr := [24], pre := [1, 2, 3] },
  { ai := w 25 (.load U15 (.t 5)), hide := [20, 21, 22, 23, 24], wr := [25], pre := [] },
  { ai := w 26 (.callv (.t 20) [(.t 24), (.t 25)]), hide := [], wr := [26], pre := [0, 1, 2, 3, 4, 5] },
  { ai := w 27 (.bin .lss (.t 26) (.c U2 0)), hide := [], wr := [27], pre := [0, 1, 2, 3, 4, 5, 6] }]
def c44_8 : AC := .out [0, 1, 4, 5, 6, 27] (.draw [0, 1, 4, 5, 6] c44_r7)
def c44_r8 : List AI := [w 28 (.mv (.t 0)),w 29 (.mv (.t 6)),w 30 (.indexAddr U15 (.t 28) (.t 29)),w 31 (.load U15 (.t 30)),
  ⟨none, .store U15 (.t 5) (.t 31), none⟩]
def c44_9 : AC := .out [0, 1, 4, 5, 6] (.reg [0, 1, 4, 5, 6] c44_r8)
def c44_10 : AC := .out [0, 1, 4, 5, 6] (.cond (.t 27) c44_9 .skip)
def c44_11 : AC := .out [0, 1, 4, 5, 6] (.block 1 (.seq c44_8 c44_10))
def c44_r6 : List AI := [w 18 (.mv (.t 6)),w 19 (.bin .add (.t 18) (.c U2 1)),w 6 (.asg (.t 19))]
def c44_12 : AC := .out [0, 1, 4, 5, 6] (.reg [0, 1, 4, 5, 6] c44_r6)
def c44_13 : AC := (.seq (.seq c44_6 c44_7) (.seq c44_11 c44_12))
def c44_14 : AC := .out [4, 5] (.loop [0, 1, 4, 5, 6] c44_13)
def c44_15 : AC := .out [4, 5] (.block 0 c44_14)
def c44_r9 : List AI := [w 32 (.load U15 (.t 5)),
  ⟨none, .store U15 (.t 4) (.t 32), none⟩]
def c44_16 : AC := .out [4] (.reg [4, 5] c44_r9)
def c44_17 : AC := (.seq c44_0 (.seq (.seq c44_1 c44_3) (.seq c44_4 (.seq (.seq c44_5 c44_15) (.seq c44_16 .ret)))))
def c44 : AC := c44_17
def d44 : FD := { nargs := 2, body := c44, res := [.cell 4 U15] }
-- anceps/junction.Cheapest
def c18_r0 : List AI := [w 5 (.box U27 (.t 0)),w 10 (.alloc U15 .no),w 11 (.asg (.c U2 0))]
def c18_0 : AC := .out [1, 2, 3, 4, 5, 10] (.reg [0, 1, 2, 3, 4] c18_r0)
def c18_r1 : List AI := [w 15 (.load U27 (.t 5)),w 16 (.mv (.t 1)),w 17 (.mv (.t 2)),w 18 (.mv (.t 3)),w 19 (.mv (.t 4)),w 20 (.call 16 [(.t 15), (.t 16), (.t 17), (.t 18), (.t 19)]),w 14 (.mv (.t 20)),w 21 (.extract 14 0),w 22 (.extract 14 1),w 12 (.asg (.t 21)),w 13 (.asg (.t 22))]
def c18_1 : AC := .out [10, 12, 13] (.reg [1, 2, 3, 4, 5, 10] c18_r1)
def c18_r2 : List AI := [w 23 (.mv (.t 13)),w 24 (.bin .neq (.t 23) (.c U2 0))]
def c18_2 : AC := .out [10, 12, 13, 24] (.reg [10, 12, 13] c18_r2)
def c18_r3 : List AI := [w 25 (.build U15 []),w 26 (.mv (.t 13)),
  ⟨none, .store U15 (.t 10) (.t 25), none⟩,
  w 11 (.asg (.t 26))]
def c18_3 : AC := .out [10, 11] (.reg [10, 13] c18_r3)
def c18_4 : AC := .out [10, 11, 12] (.cond (.t 24) (.seq c18_3 .ret) .skip)
def c18_r4 : List AI := [w 27 (.mv (.t 12)),w 28 (.lenL (.t 27)),w 29 (.bin .eql (.t 28) (.c U2 0))]
def c18_5 : AC := .out [10, 12, 29] (.reg [10, 12] c18_r4)
def c18_r5 : List AI := [w 30 (.build U15 []),
  ⟨none, .store U15 (.t 10) (.t 30), none⟩,
  w 11 (.asg (.c U2 10))]
def c18_6 : AC := .out [10, 11] (.reg [10] c18_r5)
def c18_7 : AC := .out [10, 11, 12] (.cond (.t 29) (.seq c18_6 .ret) .skip)
def c18_r6 : List AI := [w 31 (.mv (.t 12)),w 32 (.call 44 [(.t 31), (.fn 45 U28 U2)]),
  ⟨none, .store U15 (.t 10) (.t 32), none⟩,
  w 11 (.asg (.c U2 0))]
def c18_8 : AC := .out [10, 11] (.reg [10, 12] c18_r6)
def c18_9 : AC := (.seq c18_0 (.seq c18_1 (.seq (.seq c18_2 c18_4) (.seq (.seq c18_5 c18_7) (.seq c18_8 .ret)))))
def c18 : AC := c18_9
def d18 : FD := { nargs := 5, body := c18, res := [.cell 10 U15, .t 11] }
-- slices.Index[[]anceps/api.Joint,anceps/api.Joint]
def c47_r0 : List AI := [w 3 (.box U15 (.t 1)),w 4 (.asg (.c U2 0))]
def c47_0 : AC := .out [0, 3] (.reg [0, 1] c47_r0)
def c47_r1 : List AI := [w 6 (.mv (.t 0)),w 7 (.lenL (.t 6)),w 8 (.mv (.c U2 0))]
def c47_1 : AC := .out [0, 3, 7, 8] (.reg [0, 3] c47_r1)
def c47_r2 : List AI := [w 9 (.bin .lss (.t 8) (.t 7))]
def c47_2 : AC := .out [0, 3, 7, 8, 9] (.reg [0, 3, 7, 8] c47_r2)
def c47_3 : AC := .out [0, 3, 7, 8] (.cond (.t 9) .skip (.exit 0))
def c47_r3 : List AI := [w 10 (.mv (.t 8)),w 5 (.asg (.t 10))]
def c47_4 : AC := .out [0, 3, 5, 7, 8] (.reg [0, 3, 7, 8] c47_r3)
def c47_r4 : List DI := [{ ai := w 11 (.load U15 (.t 3)), hide := [12, 13, 14, 15], wr := [11], pre := [] },
  { ai := w 12 (.mv (.t 0)), hide := [11, 13], wr := [12], pre := [] },
  { ai := w 13 (.mv (.t 5)), hide := [11, 12], wr := [13], pre := [] },
  { ai := w 14 (.indexAddr U15 (.t 12) (.t 13)), hide := [11], wr := [14], pre := [1, 2] },
  { ai := w 15 (.load U15 (.t 14)), hide := [11], wr := [15], pre := [1, 2, 3] },
  { ai := w 16 (.eqT false U15 (.t 11) (.t 15)), hide := [], wr := [16], pre := [0, 1, 2, 3, 4] }]
def c47_5 : AC := .out [0, 3, 5, 7, 8, 16] (.draw [0, 3, 5, 7, 8] c47_r4)
def c47_r5 : List AI := [w 17 (.mv (.t 5)),w 4 (.asg (.t 17))]
def c47_6 : AC := .out [4] (.reg [5] c47_r5)
def c47_7 : AC := .out [0, 3, 4, 7, 8] (.cond (.t 16) (.seq c47_6 .ret) .skip)
def c47_8 : AC := .out [0, 3, 4, 7, 8] (.block 1 (.seq c47_4 (.seq c47_5 c47_7)))
def c47_r6 : List AI := [w 18 (.bin .add (.t 8) (.c U2 1)),w 8 (.mv (.t 18))]
def c47_9 : AC := .out [0, 3, 7, 8] (.reg [0, 3, 7, 8] c47_r6)
def c47_10 : AC := (.seq c47_2 (.seq c47_3 (.seq c47_8 c47_9)))
def c47_11 : AC := .out [4] (.loop [0, 3, 7, 8] c47_10)
def c47_12 : AC := .out [4] (.block 0 c47_11)
def c47_r7 : List AI := [w 4 (.asg (.c U2 (-1)))]
def c47_13 : AC := .out [4] (.reg [] c47_r7)
def c47_14 : AC := (.seq c47_0 (.seq (.seq c47_1 c47_12) (.seq c47_13 .ret)))
def c47 : AC := c47_14
def d47 : FD := { nargs := 2, body := c47, res := [.t 4] }
-- slices.Contains[[]anceps/api.Joint,anceps/api.Joint]
def c22_r0 : List AI := [w 3 (.box U15 (.t 1)),w 4 (.asg (.c .bool false))]
def c22_0 : AC := .out [0, 3] (.reg [0, 1] c22_r0)
def c22_r1 : List AI := [w 5 (.mv (.t 0)),w 6 (.load U15 (.t 3)),w 7 (.call 47 [(.t 5), (.t 6)]),w 8 (.bin .geq (.t 7) (.c U2 0)),w 4 (.asg (.t 8))]
def c22_1 : AC := .out [4] (.reg [0, 3] c22_r1)
def c22_2 : AC := (.seq c22_0 (.seq c22_1 .ret))
def c22 : AC := c22_2
def d22 : FD := { nargs := 2, body := c22, res := [.t 4] }
-- anceps/ancepslaw19.JunctionCheapest$1
def c24_r0 : List AI := [w 2 (.box U15 (.t 0)),w 3 (.asg (.c .bool false))]
def c24_0 : AC := .out [1, 2] (.reg [0, 1] c24_r0)
def c24_r1 : List AI := [w 4 (.fieldAddr U15 [.r, .l] (.t 2)),w 5 (.load U2 (.t 4)),w 6 (.fieldAddr U15 [.r, .l] (.t 1)),w 7 (.load U2 (.t 6)),w 8 (.bin .lss (.t 5) (.t 7)),w 3 (.asg (.t 8))]
def c24_1 : AC := .out [3] (.reg [1, 2] c24_r1)
def c24_2 : AC := (.seq c24_0 (.seq c24_1 .ret))
def c24 : AC := c24_2
def d24 : FD := { nargs := 2, body := c24, res := [.t 3] }
-- slices.IndexFunc[[]anceps/api.Joint,anceps/api.Joint]
def c48_r0 : List AI := [w 4 (.asg (.c U2 0))]
def c48_0 : AC := .out [0, 1] (.reg [0, 1] c48_r0)
def c48_r1 : List AI := [w 6 (.mv (.t 0)),w 7 (.lenL (.t 6)),w 8 (.mv (.c U2 0))]
def c48_1 : AC := .out [0, 1, 7, 8] (.reg [0, 1] c48_r1)
def c48_r2 : List AI := [w 9 (.bin .lss (.t 8) (.t 7))]
def c48_2 : AC := .out [0, 1, 7, 8, 9] (.reg [0, 1, 7, 8] c48_r2)
def c48_3 : AC := .out [0, 1, 7, 8] (.cond (.t 9) .skip (.exit 0))
def c48_r3 : List AI := [w 10 (.mv (.t 8)),w 5 (.asg (.t 10))]
def c48_4 : AC := .out [0, 1, 5, 7, 8] (.reg [0, 1, 7, 8] c48_r3)
def c48_r4 : List AI := [w 11 (.mv (.t 1)),w 12 (.mv (.t 0)),w 13 (.mv (.t 5)),w 14 (.indexAddr U15 (.t 12) (.t 13)),w 15 (.load U15 (.t 14)),w 16 (.callv (.t 11) [(.t 15)])]
def c48_5 : AC := .out [0, 1, 5, 7, 8, 16] (.reg [0, 1, 5, 7, 8] c48_r4)
def c48_r5 : List AI := [w 17 (.mv (.t 5)),w 4 (.asg (.t 17))]
def c48_6 : AC := .out [4] (.reg [5] c48_r5)
def c48_7 : AC := .out [0, 1, 4, 7, 8] (.cond (.t 16) (.seq c48_6 .ret) .skip)
def c48_8 : AC := .out [0, 1, 4, 7, 8] (.block 1 (.seq c48_4 (.seq c48_5 c48_7)))
def c48_r6 : List AI := [w 18 (.bin .add (.t 8) (.c U2 1)),w 8 (.mv (.t 18))]
def c48_9 : AC := .out [0, 1, 7, 8] (.reg [0, 1, 7, 8] c48_r6)
def c48_10 : AC := (.seq c48_2 (.seq c48_3 (.seq c48_8 c48_9)))
def c48_11 : AC := .out [4] (.loop [0, 1, 7, 8] c48_10)
def c48_12 : AC := .out [4] (.block 0 c48_11)
def c48_r7 : List AI := [w 4 (.asg (.c U2 (-1)))]
def c48_13 : AC := .out [4] (.reg [] c48_r7)
def c48_14 : AC := (.seq c48_0 (.seq (.seq c48_1 c48_12) (.seq c48_13 .ret)))
def c48 : AC := c48_14
def d48 : FD := { nargs := 2, body := c48, res := [.t 4] }
-- slices.ContainsFunc[[]anceps/api.Joint,anceps/api.Joint]
def c23_r0 : List AI := [w 4 (.asg (.c .bool false))]
def c23_0 : AC := .out [0, 1] (.reg [0, 1] c23_r0)
def c23_r1 : List AI := [w 5 (.mv (.t 0)),w 6 (.mv (.t 1)),w 7 (.call 48 [(.t 5), (.t 6)]),w 8 (.bin .geq (.t 7) (.c U2 0)),w 4 (.asg (.t 8))]
def c23_1 : AC := .out [4] (.reg [0, 1] c23_r1)
def c23_2 : AC := (.seq c23_0 (.seq c23_1 .ret))
def c23 : AC := c23_2
def d23 : FD := { nargs := 2, body := c23, res := [.t 4] }
-- anceps/ancepslaw19.JunctionCheapest
def c5_r0 : List AI := [w 3 (.box U27 (.t 0)),w 6 (.asg (.c .bool false))]
def c5_0 : AC := .out [1, 2, 3] (.reg [0, 1, 2] c5_r0)
def c5_r1 : List AI := [w 13 (.call 6 []),w 14 (.un .not (.t 13)),w 15 (.mv (.t 14)),
  ⟨some 16, .load U27 (.t 3), some (15, false)⟩,
  ⟨some 17, .call 14 [(.t 16)], some (15, false)⟩,
  ⟨some 18, .un .not (.t 17), some (15, false)⟩,
  w 19 (.pick (.t 15) (.c .bool true) (.t 18)),w 20 (.mv (.t 19)),
  ⟨some 21, .mv (.t 1), some (20, false)⟩,
  ⟨some 22, .lenL (.t 21), some (20, false)⟩,
  ⟨some 23, .bin .gtr (.t 22) (.c U2 60), some (20, false)⟩,
  w 24 (.pick (.t 20) (.c .bool true) (.t 23)),w 25 (.mv (.t 24)),
  ⟨some 26, .mv (.t 2), some (25, false)⟩,
  ⟨some 27, .lenL (.t 26), some (25, false)⟩,
  ⟨some 28, .bin .gtr (.t 27) (.c U2 60), some (25, false)⟩,
  w 29 (.pick (.t 25) (.c .bool true) (.t 28))]
def c5_1 : AC := .out [1, 2, 3, 29] (.reg [1, 2, 3] c5_r1)
def c5_r2 : List AI := [w 30 (.call 6 []),w 6 (.asg (.t 30))]
def c5_2 : AC := .out [6] (.reg [] c5_r2)
def c5_3 : AC := .out [1, 2, 3, 6] (.cond (.t 29) (.seq c5_2 .ret) .skip)
def c5_r3 : List AI := [w 31 (.mv (.t 1)),w 32 (.call 21 [(.t 31)]),w 33 (.mv (.t 2)),w 34 (.call 21 [(.t 33)]),w 7 (.asg (.t 32)),w 8 (.asg (.t 34))]
def c5_4 : AC := .out [3, 7, 8] (.reg [1, 2, 3] c5_r3)
def c5_r4 : List AI := [w 36 (.load U27 (.t 3)),w 37 (.mv (.t 7)),w 38 (.mv (.t 8)),w 39 (.call 16 [(.t 36), (.c .str [105, 108, 108, 101]), (.c .str [101, 115, 116]), (.t 37), (.t 38)]),w 35 (.mv (.t 39)),w 40 (.extract 35 0),w 41 (.extract 35 1),w 9 (.asg (.t 40)),w 10 (.asg (.t 41))]
def c5_5 : AC := .out [3, 7, 8, 9, 10] (.reg [3, 7, 8] c5_r4)
def c5_r5 : List AI := [w 43 (.load U27 (.t 3)),w 44 (.mv (.t 7)),w 45 (.mv (.t 8)),w 46 (.call 18 [(.t 43), (.c .str [105, 108, 108, 101]), (.c .str [101, 115, 116]), (.t 44), (.t 45)]),w 42 (.mv (.t 46)),w 47 (.extract 42 0),w 48 (.extract 42 1),w 11 (.alloc U15 .no),
  ⟨none, .store U15 (.t 11) (.t 47), none⟩,
  w 12 (.asg (.t 48))]
def c5_6 : AC := .out [9, 10, 11, 12] (.reg [3, 7, 8, 9, 10] c5_r5)
def c5_r6 : List AI := [w 49 (.mv (.t 10)),w 50 (.bin .neq (.t 49) (.c U2 0)),w 51 (.mv (.t 50)),
  ⟨some 52, .mv (.t 9), some (51, false)⟩,
  ⟨some 53, .lenL (.t 52), some (51, false)⟩,
  ⟨some 54, .bin .eql (.t 53) (.c U2 0), some (51, false)⟩,
  w 55 (.pick (.t 51) (.c .bool true) (.t 54))]
def c5_7 : AC := .out [9, 10, 11, 12, 55] (.reg [9, 10, 11, 12] c5_r6)
def c5_r7 : List AI := [w 56 (.mv (.t 10)),w 57 (.bin .neq (.t 56) (.c U2 0)),w 58 (.mv (.t 57)),
  ⟨some 59, .mv (.t 12), some (58, true)⟩,
  ⟨some 60, .mv (.t 10), some (58, true)⟩,
  ⟨some 61, .bin .eql (.t 59) (.t 60), some (58, true)⟩,
  w 62 (.pick (.t 58) (.t 61) (.c .bool false)),w 63 (.mv (.t 62)),
  ⟨some 64, .mv (.t 10), some (63, false)⟩,
  ⟨some 65, .bin .eql (.t 64) (.c U2 0), some (63, false)⟩,
  ⟨some 66, .mv (.t 65), some (63, false)⟩,
  ⟨some 67, .mv (.t 12), some (66, true)⟩,
  ⟨some 68, .bin .eql (.t 67) (.c U2 10), some (66, true)⟩,
  ⟨some 69, .pick (.t 66) (.t 68) (.c .bool false), some (63, false)⟩,
  w 70 (.pick (.t 63) (.c .bool true) (.t 69)),w 6 (.asg (.t 70))]
def c5_8 : AC := .out [6] (.reg [10, 12] c5_r7)
def c5_9 : AC := .out [6, 9, 11, 12] (.cond (.t 55) (.seq c5_8 .ret) .skip)
def c5_r8 : List AI := [w 71 (.mv (.t 12)),w 72 (.bin .eql (.t 71) (.c U2 0)),w 73 (.mv (.t 72)),
  ⟨some 74, .mv (.t 9), some (73, true)⟩,
  ⟨some 75, .load U15 (.t 11), some (73, true)⟩,
  ⟨some 76, .call 22 [(.t 74), (.t 75)], some (73, true)⟩,
  w 77 (.pick (.t 73) (.t 76) (.c .bool false)),w 78 (.mv (.t 77)),
  ⟨some 79, .mv (.t 9), some (78, true)⟩,
  ⟨some 80, .mkfn 24 U19 .bool [(.t 11)], some (78, true)⟩,
  ⟨some 81, .call 23 [(.t 79), (.t 80)], some (78, true)⟩,
  ⟨some 82, .un .not (.t 81), some (78, true)⟩,
  w 83 (.pick (.t 78) (.t 82) (.c .bool false)),w 6 (.asg (.t 83))]
def c5_10 : AC := .out [6] (.reg [9, 11, 12] c5_r8)
def c5_11 : AC := (.seq c5_0 (.seq (.seq c5_1 c5_3) (.seq c5_4 (.seq c5_5 (.seq c5_6 (.seq (.seq c5_7 c5_9) (.seq c5_10 .ret)))))))
def c5 : AC := c5_11
def d5 : FD := { nargs := 3, body := c5, res := [.t 6] }
-- anceps/ancepsref05.small
def c101_r0 : List AI := [w 2 (.asg (.c .bool false))]
def c101_0 : AC := .out [0] (.reg [0] c101_r0)
def c101_r1 : List AI := [w 3 (.mv (.t 0)),w 4 (.bin .geq (.t 3) (.c U1 97)),w 5 (.mv (.t 4)),
  ⟨some 6, .mv (.t 0), some (5, true)⟩,
  ⟨some 7, .bin .leq (.t 6) (.c U1 122), some (5, true)⟩,
  w 8 (.pick (.t 5) (.t 7) (.c .bool false)),w 2 (.asg (.t 8))]
def c101_1 : AC := .out [2] (.reg [0] c101_r1)
def c101_2 : AC := (.seq c101_0 (.seq c101_1 .ret))
def c101 : AC := c101_2
def d101 : FD := { nargs := 1, body := c101, res := [.t 2] }
-- anceps/ancepsref05.digit
def c102_r0 : List AI := [w 2 (.asg (.c .bool false))]
def c102_0 : AC := .out [0] (.reg [0] c102_r0)
def c102_r1 : List AI := [w 3 (.mv (.t 0)),w 4 (.bin .geq (.t 3) (.c U1 48)),w 5 (.mv (.t 4)),
  ⟨some 6, .mv (.t 0), some (5, true)⟩,
  ⟨some 7, .bin .leq (.t 6) (.c U1 57), some (5, true)⟩,
  w 8 (.pick (.t 5) (.t 7) (.c .bool false)),w 2 (.asg (.t 8))]
def c102_1 : AC := .out [2] (.reg [0] c102_r1)
def c102_2 : AC := (.seq c102_0 (.seq c102_1 .ret))
def c102 : AC := c102_2
def d102 : FD := { nargs := 1, body := c102, res := [.t 2] }
-- anceps/ancepsref05.name
def c86_r0 : List AI := [w 2 (.asg (.c U2 0))]
def c86_0 : AC := .out [0] (.reg [0] c86_r0)
def c86_r1 : List AI := [w 4 (.mv (.t 0)),w 5 (.bin .eql (.t 4) (.c .str [])),w 6 (.mv (.t 5)),
  ⟨some 7, .mv (.t 0), some (6, false)⟩,
  ⟨some 8, .indexS (.t 7) (.c U2 0), some (6, false)⟩,
  ⟨some 9, .call 101 [(.t 8)], some (6, false)⟩,
  ⟨some 10, .un .not (.t 9), some (6, false)⟩,
  w 11 (.pick (.t 6) (.c .bool true) (.t 10))]
def c86_1 : AC := .out [0, 11] (.reg [0] c86_r1)
def c86_r2 : List AI := [w 2 (.asg (.c U2 0))]
def c86_2 : AC := .out [2] (.reg [] c86_r2)
def c86_3 : AC := .out [0, 2] (.cond (.t 11) (.seq c86_2 .ret) .skip)
def c86_r3 : List AI := [w 3 (.asg (.c U2 1))]
def c86_4 : AC := .out [0, 3] (.reg [0] c86_r3)
def c86_r4 : List AI := [w 12 (.mv (.t 3)),w 13 (.mv (.t 0)),w 14 (.lenS (.t 13)),w 15 (.bin .lss (.t 12) (.t 14))]
def c86_5 : AC := .out [0, 3, 15] (.reg [0, 3] c86_r4)
def c86_6 : AC := .out [0, 3] (.cond (.t 15) .skip (.exit 0))
def c86_r5 : List AI := [w 16 (.mv (.t 0)),w 17 (.mv (.t 3)),w 18 (.indexS (.t 16) (.t 17)),w 19 (.call 101 [(.t 18)]),w 20 (.mv (.t 19)),
  ⟨some 21, .mv (.t 0), some (20, false)⟩,
  ⟨some 22, .mv (.t 3), some (20, false)⟩,
  ⟨some 23, .indexS (.t 21) (.t 22), some (20, false)⟩,
  ⟨some 24, .call 102 [(.t 23)], some (20, false)⟩,
  w 25 (.pick (.t 20) (.c .bool true) (.t 24))]
def c86_7 : AC := .out [0, 3, 25] (.reg [0, 3] c86_r5)
def c86_r6 : List AI := [w 26 (.mv (.t 3)),w 27 (.bin .add (.t 26) (.c U2 1)),w 3 (.asg (.t 27))]
def c86_8 : AC := .out [0, 3] (.reg [0, 3] c86_r6)
def c86_9 : AC := .out [0, 3] (.cond (.t 25) (.seq c86_8 (.exit 1)) .skip)
def c86_r7 : List AI := [w 28 (.mv (.t 0)),w 29 (.mv (.t 3)),w 30 (.indexS (.t 28) (.t 29)),w 31 (.bin .neq (.t 30) (.c U1 45)),w 32 (.mv (.t 31)),
  ⟨some 33, .mv (.t 3), some (32, false)⟩,
  ⟨some 34, .bin .add (.t 33) (.c U2 1), some (32, false)⟩,
  ⟨some 35, .mv (.t 0), some (32, false)⟩,
  ⟨some 36, .lenS (.t 35), some (32, false)⟩,
  ⟨some 37, .bin .eql (.t 34) (.t 36), some (32, false)⟩,
  w 38 (.pick (.t 32) (.c .bool true) (.t 37)),w 39 (.mv (.t 38)),
  ⟨some 40, .mv (.t 0), some (39, false)⟩,
  ⟨some 41, .mv (.t 3), some (39, false)⟩,
  ⟨some 42, .bin .add (.t 41) (.c U2 1), some (39, false)⟩,
  ⟨some 43, .indexS (.t 40) (.t 42), some (39, false)⟩,
  ⟨some 44, .call 101 [(.t 43)], some (39, false)⟩,
  ⟨some 45, .un .not (.t 44), some (39, false)⟩,
  ⟨some 46, .mv (.t 45), some (39, false)⟩,
  ⟨some 47, .mv (.t 0), some (46, true)⟩,
  ⟨some 48, .mv (.t 3), some (46, true)⟩,
  ⟨some 49, .bin .add (.t 48) (.c U2 1), some (46, true)⟩,
  ⟨some 50, .indexS (.t 47) (.t 49), some (46, true)⟩,
  ⟨some 51, .call 102 [(.t 50)], some (46, true)⟩,
  ⟨some 52, .un .not (.t 51), some (46, true)⟩,
  ⟨some 53, .pick (.t 46) (.t 52) (.c .bool false), some (39, false)⟩,
  w 54 (.pick (.t 39) (.c .bool true) (.t 53))]
def c86_10 : AC := .out [0, 3, 54] (.reg [0, 3] c86_r7)
def c86_11 : AC := .out [0, 3] (.cond (.t 54) (.exit 0) .skip)
def c86_r8 : List AI := [w 55 (.mv (.t 3)),w 56 (.bin .add (.t 55) (.c U2 2)),w 3 (.asg (.t 56))]
def c86_12 : AC := .out [0, 3] (.reg [0, 3] c86_r8)
def c86_13 : AC := .out [0, 3] (.block 1 (.seq (.seq c86_7 c86_9) (.seq (.seq c86_10 c86_11) c86_12)))
def c86_14 : AC := (.seq (.seq c86_5 c86_6) c86_13)
def c86_15 : AC := .out [3] (.loop [0, 3] c86_14)
def c86_16 : AC := .out [3] (.block 0 c86_15)
def c86_r9 : List AI := [w 57 (.mv (.t 3)),w 2 (.asg (.t 57))]
def c86_17 : AC := .out [2] (.reg [3] c86_r9)
def c86_18 : AC := (.seq c86_0 (.seq (.seq c86_1 c86_3) (.seq c86_4 (.seq c86_16 (.seq c86_17 .ret)))))
def c86 : AC := c86_18
def d86 : FD := { nargs := 1, body := c86, res := [.t 2] }
-- anceps/ancepsref05.IsName
def c65_r0 : List AI := [w 2 (.asg (.c .bool false))]
def c65_0 : AC := .out [0] (.reg [0] c65_r0)
def c65_r1 : List AI := [w 3 (.mv (.t 0)),w 4 (.bin .neq (.t 3) (.c .str [])),w 5 (.mv (.t 4)),
  ⟨some 6, .mv (.t 0), some (5, true)⟩,
  ⟨some 7, .lenS (.t 6), some (5, true)⟩,
  ⟨some 8, .bin .leq (.t 7) (.c U2 20), some (5, true)⟩,
  w 9 (.pick (.t 5) (.t 8) (.c .bool false)),w 10 (.mv (.t 9)),
  ⟨some 11, .mv (.t 0), some (10, true)⟩,
  ⟨some 12, .call 86 [(.t 11)], some (10, true)⟩,
  ⟨some 13, .mv (.t 0), some (10, true)⟩,
  ⟨some 14, .lenS (.t 13), some (10, true)⟩,
  ⟨some 15, .bin .eql (.t 12) (.t 14), some (10, true)⟩,
  w 16 (.pick (.t 10) (.t 15) (.c .bool false)),w 2 (.asg (.t 16))]
def c65_1 : AC := .out [2] (.reg [0] c65_r1)
def c65_2 : AC := (.seq c65_0 (.seq c65_1 .ret))
def c65 : AC := c65_2
def d65 : FD := { nargs := 1, body := c65, res := [.t 2] }
-- anceps/ancepsref01.Fold
def c69_r0 : List AI := [w 2 (.asg (.c .str []))]
def c69_0 : AC := .out [0] (.reg [0] c69_r0)
def c69_r1 : List AI := [w 5 (.mv (.t 0)),w 6 (.lenS (.t 5)),w 7 (.mkSlice 5 U1 140737488355328 (.t 6) (.t 6)),w 3 (.asg (.t 7))]
def c69_1 : AC := .out [0, 3] (.reg [0] c69_r1)
def c69_r2 : List AI := [w 4 (.asg (.c U2 0))]
def c69_2 : AC := .out [0, 3, 4] (.reg [0, 3] c69_r2)
def c69_r3 : List AI := [w 8 (.mv (.t 4)),w 9 (.mv (.t 0)),w 10 (.lenS (.t 9)),w 11 (.bin .lss (.t 8) (.t 10))]
def c69_3 : AC := .out [0, 3, 4, 11] (.reg [0, 3, 4] c69_r3)
def c69_4 : AC := .out [0, 3, 4] (.cond (.t 11) .skip (.exit 0))
def c69_r5 : List AI := [w 14 (.mv (.t 3)),w 15 (.mv (.t 4)),w 16 (.mv (.t 0)),w 17 (.mv (.t 4)),w 18 (.indexS (.t 16) (.t 17)),w 19 (.indexAddr U1 (.t 14) (.t 15)),
  ⟨none, .store U1 (.t 19) (.t 18), none⟩]
def c69_5 : AC := .out [0, 3, 4] (.reg [0, 3, 4] c69_r5)
def c69_r6 : List AI := [w 20 (.mv (.t 0)),w 21 (.mv (.t 4)),w 22 (.indexS (.t 20) (.t 21)),w 23 (.bin .geq (.t 22) (.c U1 65)),w 24 (.mv (.t 23)),
  ⟨some 25, .mv (.t 0), some (24, true)⟩,
  ⟨some 26, .mv (.t 4), some (24, true)⟩,
  ⟨some 27, .indexS (.t 25) (.t 26), some (24, true)⟩,
  ⟨some 28, .bin .leq (.t 27) (.c U1 90), some (24, true)⟩,
  w 29 (.pick (.t 24) (.t 28) (.c .bool false))]
def c69_6 : AC := .out [0, 3, 4, 29] (.reg [0, 3, 4] c69_r6)
def c69_r7 : List AI := [w 30 (.mv (.t 3)),w 31 (.mv (.t 4)),w 32 (.mv (.t 0)),w 33 (.mv (.t 4)),w 34 (.indexS (.t 32) (.t 33)),w 35 (.bin .sub (.t 34) (.c U1 65)),w 36 (.bin .add (.t 35) (.c U1 97)),w 37 (.indexAddr U1 (.t 30) (.t 31)),
  ⟨none, .store U1 (.t 37) (.t 36), none⟩]
def c69_7 : AC := .out [0, 3, 4] (.reg [0, 3, 4] c69_r7)
def c69_8 : AC := .out [0, 3, 4] (.cond (.t 29) c69_7 .skip)
def c69_9 : AC := .out [0, 3, 4] (.block 1 (.seq c69_5 (.seq c69_6 c69_8)))
def c69_r4 : List AI := [w 12 (.mv (.t 4)),w 13 (.bin .add (.t 12) (.c U2 1)),w 4 (.asg (.t 13))]
def c69_10 : AC := .out [0, 3, 4] (.reg [0, 3, 4] c69_r4)
def c69_11 : AC := (.seq (.seq c69_3 c69_4) (.seq c69_9 c69_10))
def c69_12 : AC := .out [3] (.loop [0, 3, 4] c69_11)
def c69_13 : AC := .out [3] (.block 0 c69_12)
def c69_r8 : List AI := [w 38 (.mv (.t 3)),w 39 (.toStr (.t 38)),w 2 (.asg (.t 39))]
def c69_14 : AC := .out [2] (.reg [3] c69_r8)
def c69_15 : AC := (.seq c69_0 (.seq c69_1 (.seq (.seq c69_2 c69_13) (.seq c69_14 .ret))))
def c69 : AC := c69_15
def d69 : FD := { nargs := 1, body := c69, res := [.t 2] }
-- anceps/ancepsref01.Letter
def c103_r0 : List AI := [w 2 (.asg (.c .bool false))]
def c103_0 : AC := .out [0] (.reg [0] c103_r0)
def c103_r1 : List AI := [w 4 (.mv (.t 0)),w 5 (.bin .lss (.t 4) (.c U1 32)),w 6 (.mv (.t 5)),
  ⟨some 7, .mv (.t 0), some (6, false)⟩,
  ⟨some 8, .bin .gtr (.t 7) (.c U1 126), some (6, false)⟩,
  w 9 (.pick (.t 6) (.c .bool true) (.t 8))]
def c103_1 : AC := .out [0, 9] (.reg [0] c103_r1)
def c103_r2 : List AI := [w 2 (.asg (.c .bool false))]
def c103_2 : AC := .out [2] (.reg [] c103_r2)
def c103_3 : AC := .out [0, 2] (.cond (.t 9) (.seq c103_2 .ret) .skip)
def c103_r3 : List AI := [w 3 (.asg (.c U2 0))]
def c103_4 : AC := .out [0, 3] (.reg [0] c103_r3)
def c103_r4 : List AI := [w 10 (.mv (.t 3)),w 11 (.bin .lss (.t 10) (.c U2 15))]
def c103_5 : AC := .out [0, 3, 11] (.reg [0, 3] c103_r4)
def c103_6 : AC := .out [0, 3] (.cond (.t 11) .skip (.exit 0))
def c103_r6 : List AI := [w 14 (.mv (.t 3)),w 15 (.indexS (.c .str [32, 46, 44, 59, 58, 33, 63, 34, 45, 91, 93, 60, 62, 123, 125]) (.t 14)),w 16 (.mv (.t 0)),w 17 (.bin .eql (.t 15) (.t 16))]
def c103_7 : AC := .out [0, 3, 17] (.reg [0, 3] c103_r6)
def c103_r7 : List AI := [w 2 (.asg (.c .bool false))]
def c103_8 : AC := .out [2] (.reg [] c103_r7)
def c103_9 : AC := .out [0, 2, 3] (.cond (.t 17) (.seq c103_8 .ret) .skip)
def c103_10 : AC := .out [0, 2, 3] (.block 1 (.seq c103_7 c103_9))
def c103_r5 : List AI := [w 12 (.mv (.t 3)),w 13 (.bin .add (.t 12) (.c U2 1)),w 3 (.asg (.t 13))]
def c103_11 : AC := .out [0, 3] (.reg [0, 3] c103_r5)
def c103_12 : AC := (.seq (.seq c103_5 c103_6) (.seq c103_10 c103_11))
def c103_13 : AC := .out [2] (.loop [0, 3] c103_12)
def c103_14 : AC := .out [2] (.block 0 c103_13)
def c103_r8 : List AI := [w 2 (.asg (.c .bool true))]
def c103_15 : AC := .out [2] (.reg [] c103_r8)
def c103_16 : AC := (.seq c103_0 (.seq (.seq c103_1 c103_3) (.seq (.seq c103_4 c103_14) (.seq c103_15 .ret))))
def c103 : AC := c103_16
def d103 : FD := { nargs := 1, body := c103, res := [.t 2] }
-- anceps/ancepsref17.word
def c87_r0 : List AI := [w 2 (.asg (.c U2 0))]
def c87_0 : AC := .out [0] (.reg [0] c87_r0)
def c87_r1 : List AI := [w 4 (.mv (.t 0)),w 5 (.lenS (.t 4)),w 6 (.bin .gtr (.t 5) (.c U2 16))]
def c87_1 : AC := .out [0, 6] (.reg [0] c87_r1)
def c87_r2 : List AI := [w 2 (.asg (.c U2 3))]
def c87_2 : AC := .out [2] (.reg [] c87_r2)
def c87_3 : AC := .out [0, 2] (.cond (.t 6) (.seq c87_2 .ret) .skip)
def c87_r3 : List AI := [w 7 (.mv (.t 0)),w 8 (.bin .eql (.t 7) (.c .str [])),w 9 (.mv (.t 8)),
  ⟨some 10, .mv (.t 0), some (9, false)⟩,
  ⟨some 11, .call 69 [(.t 10)], some (9, false)⟩,
  ⟨some 12, .mv (.t 0), some (9, false)⟩,
  ⟨some 13, .bin .neq (.t 11) (.t 12), some (9, false)⟩,
  w 14 (.pick (.t 9) (.c .bool true) (.t 13))]
def c87_4 : AC := .out [0, 14] (.reg [0] c87_r3)
def c87_r4 : List AI := [w 2 (.asg (.c U2 2))]
def c87_5 : AC := .out [2] (.reg [] c87_r4)
def c87_6 : AC := .out [0, 2] (.cond (.t 14) (.seq c87_5 .ret) .skip)
def c87_r5 : List AI := [w 3 (.asg (.c U2 0))]
def c87_7 : AC := .out [0, 3] (.reg [0] c87_r5)
def c87_r6 : List AI := [w 15 (.mv (.t 3)),w 16 (.mv (.t 0)),w 17 (.lenS (.t 16)),w 18 (.bin .lss (.t 15) (.t 17))]
def c87_8 : AC := .out [0, 3, 18] (.reg [0, 3] c87_r6)
def c87_9 : AC := .out [0, 3] (.cond (.t 18) .skip (.exit 0))
def c87_r8 : List AI := [w 21 (.mv (.t 0)),w 22 (.mv (.t 3)),w 23 (.indexS (.t 21) (.t 22)),w 24 (.call 103 [(.t 23)]),w 25 (.un .not (.t 24))]
def c87_10 : AC := .out [0, 3, 25] (.reg [0, 3] c87_r8)
def c87_r9 : List AI := [w 2 (.asg (.c U2 2))]
def c87_11 : AC := .out [2] (.reg [] c87_r9)
def c87_12 : AC := .out [0, 2, 3] (.cond (.t 25) (.seq c87_11 .ret) .skip)
def c87_13 : AC := .out [0, 2, 3] (.block 1 (.seq c87_10 c87_12))
def c87_r7 : List AI := [w 19 (.mv (.t 3)),w 20 (.bin .add (.t 19) (.c U2 1)),w 3 (.asg (.t 20))]
def c87_14 : AC := .out [0, 3] (.reg [0, 3] c87_r7)
def c87_15 : AC := (.seq (.seq c87_8 c87_9) (.seq c87_13 c87_14))
def c87_16 : AC := .out [2] (.loop [0, 3] c87_15)
def c87_17 : AC := .out [2] (.block 0 c87_16)
def c87_r10 : List AI := [w 2 (.asg (.c U2 0))]
def c87_18 : AC := .out [2] (.reg [] c87_r10)
def c87_19 : AC := (.seq c87_0 (.seq (.seq c87_1 c87_3) (.seq (.seq c87_4 c87_6) (.seq (.seq c87_7 c87_17) (.seq c87_18 .ret)))))
def c87 : AC := c87_19
def d87 : FD := { nargs := 1, body := c87, res := [.t 2] }
-- anceps/ancepsref17.has
def c70_r0 : List AI := [w 4 (.asg (.c .bool false))]
def c70_0 : AC := .out [0, 1] (.reg [0, 1] c70_r0)
def c70_r1 : List AI := [w 5 (.asg (.c U2 0))]
def c70_1 : AC := .out [0, 1, 5] (.reg [0, 1] c70_r1)
def c70_r2 : List AI := [w 6 (.mv (.t 5)),w 7 (.mv (.t 0)),w 8 (.lenL (.t 7)),w 9 (.bin .lss (.t 6) (.t 8))]
def c70_2 : AC := .out [0, 1, 5, 9] (.reg [0, 1, 5] c70_r2)
def c70_3 : AC := .out [0, 1, 5] (.cond (.t 9) .skip (.exit 0))
def c70_r4 : List AI := [w 12 (.mv (.t 0)),w 13 (.mv (.t 5)),w 14 (.indexAddr .str (.t 12) (.t 13)),w 15 (.load .str (.t 14)),w 16 (.mv (.t 1)),w 17 (.bin .eql (.t 15) (.t 16))]
def c70_4 : AC := .out [0, 1, 5, 17] (.reg [0, 1, 5] c70_r4)
def c70_r5 : List AI := [w 4 (.asg (.c .bool true))]
def c70_5 : AC := .out [4] (.reg [] c70_r5)
def c70_6 : AC := .out [0, 1, 4, 5] (.cond (.t 17) (.seq c70_5 .ret) .skip)
def c70_7 : AC := .out [0, 1, 4, 5] (.block 1 (.seq c70_4 c70_6))
def c70_r3 : List AI := [w 10 (.mv (.t 5)),w 11 (.bin .add (.t 10) (.c U2 1)),w 5 (.asg (.t 11))]
def c70_8 : AC := .out [0, 1, 5] (.reg [0, 1, 5] c70_r3)
def c70_9 : AC := (.seq (.seq c70_2 c70_3) (.seq c70_7 c70_8))
def c70_10 : AC := .out [4] (.loop [0, 1, 5] c70_9)
def c70_11 : AC := .out [4] (.block 0 c70_10)
def c70_r6 : List AI := [w 4 (.asg (.c .bool false))]
def c70_12 : AC := .out [4] (.reg [] c70_r6)
def c70_13 : AC := (.seq c70_0 (.seq (.seq c70_1 c70_11) (.seq c70_12 .ret)))
def c70 : AC := c70_13
def d70 : FD := { nargs := 2, body := c70, res := [.t 4] }
-- anceps/ancepsref17.rule
def c66_r0 : List AI := [w 1 (.box U20 (.t 0)),w 2 (.asg (.c U2 0))]
def c66_0 : AC := .out [1] (.reg [0] c66_r0)
def c66_r1 : List AI := [w 5 (.fieldAddr U20 [.l] (.t 1)),w 6 (.load U2 (.t 5)),w 7 (.bin .lss (.t 6) (.c U2 1)),w 8 (.mv (.t 7)),
  ⟨some 9, .fieldAddr U20 [.l] (.t 1), some (8, false)⟩,
  ⟨some 10, .load U2 (.t 9), some (8, false)⟩,
  ⟨some 11, .bin .gtr (.t 10) (.c U2 12), some (8, false)⟩,
  w 12 (.pick (.t 8) (.c .bool true) (.t 11)),w 13 (.mv (.t 12)),
  ⟨some 14, .fieldAddr U20 [.r, .l] (.t 1), some (13, false)⟩,
  ⟨some 15, .load U2 (.t 14), some (13, false)⟩,
  ⟨some 16, .bin .lss (.t 15) (.c U2 0), some (13, false)⟩,
  w 17 (.pick (.t 13) (.c .bool true) (.t 16)),w 18 (.mv (.t 17)),
  ⟨some 19, .fieldAddr U20 [.r, .l] (.t 1), some (18, false)⟩,
  ⟨some 20, .load U2 (.t 19), some (18, false)⟩,
  ⟨some 21, .bin .gtr (.t 20) (.c U2 999), some (18, false)⟩,
  w 22 (.pick (.t 18) (.c .bool true) (.t 21))]
def c66_1 : AC := .out [1, 22] (.reg [1] c66_r1)
def c66_r2 : List AI := [w 2 (.asg (.c U2 6))]
def c66_2 : AC := .out [2] (.reg [] c66_r2)
def c66_3 : AC := .out [1, 2] (.cond (.t 22) (.seq c66_2 .ret) .skip)
def c66_r3 : List AI := [w 23 (.fieldAddr U20 [.r, .r, .l] (.t 1)),w 24 (.load U0 (.t 23)),w 25 (.lenL (.t 24)),w 26 (.bin .gtr (.t 25) (.c U2 20))]
def c66_4 : AC := .out [1, 26] (.reg [1] c66_r3)
def c66_r4 : List AI := [w 2 (.asg (.c U2 3))]
def c66_5 : AC := .out [2] (.reg [] c66_r4)
def c66_6 : AC := .out [1, 2] (.cond (.t 26) (.seq c66_5 .ret) .skip)
def c66_r5 : List AI := [w 3 (.asg (.c U2 0))]
def c66_7 : AC := .out [1, 3] (.reg [1] c66_r5)
def c66_r6 : List AI := [w 27 (.mv (.t 3)),w 28 (.fieldAddr U20 [.r, .r, .l] (.t 1)),w 29 (.load U0 (.t 28)),w 30 (.lenL (.t 29)),w 31 (.bin .lss (.t 27) (.t 30))]
def c66_8 : AC := .out [1, 3, 31] (.reg [1, 3] c66_r6)
def c66_9 : AC := .out [1, 3] (.cond (.t 31) .skip (.exit 0))
def c66_r8 : List AI := [w 34 (.fieldAddr U20 [.r, .r, .l] (.t 1)),w 35 (.load U0 (.t 34)),w 36 (.mv (.t 3)),w 37 (.indexAddr .str (.t 35) (.t 36)),w 38 (.load .str (.t 37)),w 39 (.call 87 [(.t 38)]),w 4 (.asg (.t 39))]
def c66_10 : AC := .out [1, 3, 4] (.reg [1, 3] c66_r8)
def c66_r9 : List AI := [w 40 (.mv (.t 4)),w 41 (.bin .neq (.t 40) (.c U2 0))]
def c66_11 : AC := .out [1, 3, 4, 41] (.reg [1, 3, 4] c66_r9)
def c66_r10 : List AI := [w 42 (.mv (.t 4)),w 2 (.asg (.t 42))]
def c66_12 : AC := .out [2] (.reg [4] c66_r10)
def c66_13 : AC := .out [1, 2, 3] (.cond (.t 41) (.seq c66_12 .ret) .skip)
def c66_r11 : List DI := [{ ai := w 43 (.fieldAddr U20 [.r, .r, .l] (.t 1)), hide := [45, 47, 48, 49, 50, 51], wr := [43], pre := [] },
  { ai := w 44 (.load U0 (.t 43)), hide := [45, 47, 48, 49, 50, 51], wr := [44], pre := [0] },
  { ai := w 45 (.mv (.t 3)), hide := [43, 44, 47, 48, 49, 50, 51], wr := [45], pre := [] },
  { ai := w 46 (.sliceL .str (.t 44) none (some (.t 45)) none), hide := [47, 48, 49, 50, 51], wr := [46], pre := [0, 1, 2] },
  { ai := w 47 (.fieldAddr U20 [.r, .r, .l] (.t 1)), hide := [43, 44, 45, 46, 49], wr := [47], pre := [] },
  { ai := w 48 (.load U0 (.t 47)), hide := [43, 44, 45, 46, 49], wr := [48], pre := [4] },
  { ai := w 49 (.mv (.t 3)), hide := [43, 44, 45, 46, 47, 48], wr := [49], pre := [] },
  { ai := w 50 (.indexAddr .str (.t 48) (.t 49)), hide := [43, 44, 45, 46], wr := [50], pre := [4, 5, 6] },
  { ai := w 51 (.load .str (.t 50)), hide := [43, 44, 45, 46], wr := [51], pre := [4, 5, 6, 7] },
  { ai := w 52 (.call 70 [(.t 46), (.t 51)]), hide := [], wr := [52], pre := [0, 1, 2, 3, 4, 5, 6, 7, 8] }]
def c66_14 : AC := .out [1, 3, 52] (.draw [1, 3] c66_r11)
def c66_r12 : List AI := [w 2 (.asg (.c U2 5))]
def c66_15 : AC := .out [2] (.reg [] c66_r12)
def c66_16 : AC := .out [1, 2, 3] (.cond (.t 52) (.seq c66_15 .ret) .skip)
def c66_17 : AC := .out [1, 2, 3] (.block 1 (.seq (.seq c66_10 (.seq c66_11 c66_13)) (.seq c66_14 c66_16)))
def c66_r7 : List AI := [w 32 (.mv (.t 3)),w 33 (.bin .add (.t 32) (.c U2 1)),w 3 (.asg (.t 33))]
def c66_18 : AC := .out [1, 3] (.reg [1, 3] c66_r7)
def c66_19 : AC := (.seq (.seq c66_8 c66_9) (.seq c66_17 c66_18))
def c66_20 : AC := .out [2] (.loop [1, 3] c66_19)
def c66_21 : AC := .out [2] (.block 0 c66_20)
def c66_r13 : List AI := [w 2 (.asg (.c U2 0))]
def c66_22 : AC := .out [2] (.reg [] c66_r13)
def c66_23 : AC := (.seq c66_0 (.seq (.seq c66_1 c66_3) (.seq (.seq c66_4 c66_6) (.seq (.seq c66_7 c66_21) (.seq c66_22 .ret)))))
def c66 : AC := c66_23
def d66 : FD := { nargs := 1, body := c66, res := [.t 2] }
-- anceps/ancepsref17.Valid
def c38_r0 : List AI := [w 1 (.box U27 (.t 0)),w 2 (.asg (.c U2 0))]
def c38_0 : AC := .out [1] (.reg [0] c38_r0)
def c38_r1 : List AI := [w 5 (.fieldAddr U27 [.l] (.t 1)),w 6 (.load .str (.t 5)),w 7 (.call 65 [(.t 6)]),w 8 (.un .not (.t 7))]
def c38_1 : AC := .out [1, 8] (.reg [1] c38_r1)
def c38_r2 : List AI := [w 2 (.asg (.c U2 2))]
def c38_2 : AC := .out [2] (.reg [] c38_r2)
def c38_3 : AC := .out [1, 2] (.cond (.t 8) (.seq c38_2 .ret) .skip)
def c38_r3 : List AI := [w 9 (.fieldAddr U27 [.r, .l] (.t 1)),w 10 (.load U22 (.t 9)),w 11 (.lenL (.t 10)),w 12 (.bin .gtr (.t 11) (.c U2 30))]
def c38_4 : AC := .out [1, 12] (.reg [1] c38_r3)
def c38_r4 : List AI := [w 2 (.asg (.c U2 3))]
def c38_5 : AC := .out [2] (.reg [] c38_r4)
def c38_6 : AC := .out [1, 2] (.cond (.t 12) (.seq c38_5 .ret) .skip)
def c38_r5 : List AI := [w 3 (.asg (.c U2 0))]
def c38_7 : AC := .out [1, 3] (.reg [1] c38_r5)
def c38_r6 : List AI := [w 13 (.mv (.t 3)),w 14 (.fieldAddr U27 [.r, .l] (.t 1)),w 15 (.load U22 (.t 14)),w 16 (.lenL (.t 15)),w 17 (.bin .lss (.t 13) (.t 16))]
def c38_8 : AC := .out [1, 3, 17] (.reg [1, 3] c38_r6)
def c38_9 : AC := .out [1, 3] (.cond (.t 17) .skip (.exit 0))
def c38_r8 : List AI := [w 20 (.fieldAddr U27 [.r, .l] (.t 1)),w 21 (.load U22 (.t 20)),w 22 (.mv (.t 3)),w 23 (.indexAddr U20 (.t 21) (.t 22)),w 24 (.load U20 (.t 23)),w 25 (.call 66 [(.t 24)]),w 4 (.asg (.t 25))]
def c38_10 : AC := .out [1, 3, 4] (.reg [1, 3] c38_r8)
def c38_r9 : List AI := [w 26 (.mv (.t 4)),w 27 (.bin .neq (.t 26) (.c U2 0))]
def c38_11 : AC := .out [1, 3, 4, 27] (.reg [1, 3, 4] c38_r9)
def c38_r10 : List AI := [w 28 (.mv (.t 4)),w 2 (.asg (.t 28))]
def c38_12 : AC := .out [2] (.reg [4] c38_r10)
def c38_13 : AC := .out [1, 2, 3] (.cond (.t 27) (.seq c38_12 .ret) .skip)
def c38_14 : AC := .out [1, 2, 3] (.block 1 (.seq c38_10 (.seq c38_11 c38_13)))
def c38_r7 : List AI := [w 18 (.mv (.t 3)),w 19 (.bin .add (.t 18) (.c U2 1)),w 3 (.asg (.t 19))]
def c38_15 : AC := .out [1, 3] (.reg [1, 3] c38_r7)
def c38_16 : AC := (.seq (.seq c38_8 c38_9) (.seq c38_14 c38_15))
def c38_17 : AC := .out [2] (.loop [1, 3] c38_16)
def c38_18 : AC := .out [2] (.block 0 c38_17)
def c38_r11 : List AI := [w 2 (.asg (.c U2 0))]
def c38_19 : AC := .out [2] (.reg [] c38_r11)
def c38_20 : AC := (.seq c38_0 (.seq (.seq c38_1 c38_3) (.seq (.seq c38_4 c38_6) (.seq (.seq c38_7 c38_18) (.seq c38_19 .ret)))))
def c38 : AC := c38_20
def d38 : FD := { nargs := 1, body := c38, res := [.t 2] }
-- anceps/ancepslaw19.awake
def c6_r0 : List AI := [w 0 (.asg (.c .bool false))]
def c6_r1 : List AI := [w 11 (.call 25 [(.c .str [105, 47, 118, 51, 32, 108, 47, 108, 32, 108, 47, 108, 32, 101, 47, 118, 51])]),w 10 (.mv (.t 11)),w 12 (.extract 10 0),w 13 (.extract 10 1),w 1 (.asg (.t 12)),w 2 (.asg (.t 13))]
def c6_r2 : List AI := [w 15 (.call 25 [(.c .str [101, 47, 118, 51, 32, 116, 47, 109])]),w 14 (.mv (.t 15)),w 16 (.extract 14 0),w 17 (.extract 14 1),w 3 (.asg (.t 16)),w 4 (.asg (.t 17))]
def c6_r3 : List AI := [w 19 (.call 26 []),w 20 (.mv (.t 1)),w 21 (.mv (.t 3)),w 22 (.call 16 [(.t 19), (.c .str [105, 108, 108, 101]), (.c .str [101, 116]), (.t 20), (.t 21)]),w 18 (.mv (.t 22)),w 23 (.extract 18 0),w 24 (.extract 18 1),w 5 (.asg (.t 23)),w 6 (.asg (.t 24))]
def c6_r4 : List AI := [w 26 (.mv (.t 1)),w 27 (.mv (.t 3)),w 28 (.call 8 [(.t 26), (.t 27), (.c U2 1)]),w 25 (.mv (.t 28)),w 29 (.extract 25 0),w 30 (.extract 25 1),w 31 (.extract 25 2),w 7 (.asg (.t 29)),w 8 (.asg (.t 30)),w 9 (.asg (.t 31))]
def c6_r5 : List AI := [w 32 (.mv (.t 6)),w 33 (.bin .eql (.t 32) (.c U2 0)),w 34 (.mv (.t 33)),
  ⟨some 35, .mv (.t 5), some (34, true)⟩,
  ⟨some 36, .build U15 [([.l], (.c U2 1))], some (34, true)⟩,
  ⟨some 37, .build U15 [([.l], (.c U2 3)), ([.r, .l], (.c U2 6))], some (34, true)⟩,
  ⟨some 38, .build U15 [([.l], (.c U2 4)), ([.r, .l], (.c U2 5))], some (34, true)⟩,
  ⟨some 39, .buildSlice 45 U15 [(.t 36), (.t 37), (.t 38)], some (34, true)⟩,
  ⟨some 40, .call 20 [(.t 35), (.t 39)], some (34, true)⟩,
  w 41 (.pick (.t 34) (.t 40) (.c .bool false)),w 42 (.mv (.t 41)),
  ⟨some 43, .mv (.t 9), some (42, true)⟩,
  ⟨some 44, .bin .eql (.t 43) (.c U2 0), some (42, true)⟩,
  w 45 (.pick (.t 42) (.t 44) (.c .bool false)),w 46 (.mv (.t 45)),
  ⟨some 47, .mv (.t 7), some (46, true)⟩,
  ⟨some 48, .mv (.t 1), some (46, true)⟩,
  ⟨some 49, .sliceL U17 (.t 48) none (some (.c U2 3)) none, some (46, true)⟩,
  ⟨some 50, .call 13 [(.t 47), (.t 49)], some (46, true)⟩,
  w 51 (.pick (.t 46) (.t 50) (.c .bool false)),w 52 (.mv (.t 51)),
  ⟨some 53, .mv (.t 8), some (52, true)⟩,
  ⟨some 54, .mv (.t 3), some (52, true)⟩,
  ⟨some 55, .call 13 [(.t 53), (.t 54)], some (52, true)⟩,
  w 56 (.pick (.t 52) (.t 55) (.c .bool false)),w 0 (.asg (.t 56))]
def c6 : AC := (.seq (.reg [] c6_r0) (.seq (.reg [] c6_r1) (.seq (.reg [1, 12] c6_r2) (.seq (.reg [1, 3, 12, 16] c6_r3) (.seq (.reg [1, 3, 5, 6, 12, 16, 23] c6_r4) (.seq (.reg [1, 3, 5, 6, 7, 8, 9, 12, 16, 23, 29, 30] c6_r5) .ret))))))
def d6 : FD := { nargs := 0, body := c6, res := [.t 0] }
-- anceps/junction.Apply
def c8_r0 : List AI := [w 6 (.asg (.nil 30 U17)),w 7 (.asg (.nil 30 U17)),w 8 (.asg (.c U2 0))]
def c8_r1 : List AI := [w 14 (.mv (.t 0)),w 15 (.mv (.t 1)),w 16 (.mv (.t 2)),w 17 (.call 27 [(.t 14), (.t 15), (.t 16)]),w 13 (.mv (.t 17)),w 18 (.extract 13 0),w 19 (.extract 13 1),w 20 (.extract 13 2),w 21 (.extract 13 3),w 9 (.asg (.t 18)),w 10 (.asg (.t 19)),w 11 (.asg (.t 20)),w 12 (.asg (.t 21))]
def c8_r2 : List AI := [w 22 (.mv (.t 9)),w 23 (.mv (.t 10)),w 24 (.mv (.t 12)),w 6 (.asg (.t 22)),w 7 (.asg (.t 23)),w 8 (.asg (.t 24))]
def c8 : AC := (.seq (.reg [0, 1, 2] c8_r0) (.seq (.reg [0, 1, 2] c8_r1) (.seq (.reg [9, 10, 12, 18, 19] c8_r2) .ret)))
def d8 : FD := { nargs := 3, body := c8, res := [.t 6, .t 7, .t 8] }
-- anceps/ancepsref11.Same
def c13_r0 : List AI := [w 4 (.asg (.c .bool false))]
def c13_r1 : List AI := [w 6 (.mv (.t 0)),w 7 (.lenL (.t 6)),w 8 (.mv (.t 1)),w 9 (.lenL (.t 8)),w 10 (.bin .neq (.t 7) (.t 9))]
def c13_r2 : List AI := [w 4 (.asg (.c .bool false))]
def c13_r3 : List AI := [w 5 (.asg (.c U2 0))]
def c13_r4 : List AI := [w 11 (.mv (.t 5)),w 12 (.mv (.t 0)),w 13 (.lenL (.t 12)),w 14 (.bin .lss (.t 11) (.t 13))]
def c13_r6 : List DI := [{ ai := w 17 (.mv (.t 0)), hide := [18, 21, 22, 23, 24], wr := [17], pre := [] },
  { ai := w 18 (.mv (.t 5)), hide := [17, 21, 22, 23, 24], wr := [18], pre := [] },
  { ai := w 19 (.indexAddr U17 (.t 17) (.t 18)), hide := [21, 22, 23, 24], wr := [19], pre := [0, 1] },
  { ai := w 20 (.load U17 (.t 19)), hide := [21, 22, 23, 24], wr := [20], pre := [0, 1, 2] },
  { ai := w 21 (.mv (.t 1)), hide := [17, 18, 19, 20, 22], wr := [21], pre := [] },
  { ai := w 22 (.mv (.t 5)), hide := [17, 18, 19, 20, 21], wr := [22], pre := [] },
  { ai := w 23 (.indexAddr U17 (.t 21) (.t 22)), hide := [17, 18, 19, 20], wr := [23], pre := [4, 5] },
  { ai := w 24 (.load U17 (.t 23)), hide := [17, 18, 19, 20], wr := [24], pre := [4, 5, 6] },
  { ai := w 25 (.call 30 [(.t 20), (.t 24)]), hide := [], wr := [25], pre := [0, 1, 2, 3, 4, 5, 6, 7] },
  { ai := w 26 (.bin .neq (.t 25) (.c U2 0)), hide := [], wr := [26], pre := [0, 1, 2, 3, 4, 5, 6, 7, 8] }]
def c13_r7 : List AI := [w 4 (.asg (.c .bool false))]
def c13_r5 : List AI := [w 15 (.mv (.t 5)),w 16 (.bin .add (.t 15) (.c U2 1)),w 5 (.asg (.t 16))]
def c13_r8 : List AI := [w 4 (.asg (.c .bool true))]
def c13 : AC := (.seq (.reg [0, 1] c13_r0) (.seq (.seq (.reg [0, 1] c13_r1) (.cond (.t 10) (.seq (.reg [] c13_r2) .ret) .skip)) (.seq (.seq (.reg [0, 1] c13_r3) (.block 0 (.loop [0, 1, 5] (.seq (.seq (.reg [0, 1, 5] c13_r4) (.cond (.t 14) .skip (.exit 0))) (.seq (.block 1 (.seq (.draw [0, 1, 5] c13_r6) (.cond (.t 26) (.seq (.reg [] c13_r7) .ret) .skip))) (.reg [0, 1, 5] c13_r5)))))) (.seq (.reg [] c13_r8) .ret))))
def d13 : FD := { nargs := 2, body := c13, res := [.t 4] }
-- anceps/ancepsref19.Same
def c20_r0 : List AI := [w 4 (.asg (.c .bool false))]
def c20_r1 : List AI := [w 6 (.mv (.t 0)),w 7 (.lenL (.t 6)),w 8 (.mv (.t 1)),w 9 (.lenL (.t 8)),w 10 (.bin .neq (.t 7) (.t 9))]
def c20_r2 : List AI := [w 4 (.asg (.c .bool false))]
def c20_r3 : List AI := [w 5 (.asg (.c U2 0))]
def c20_r4 : List AI := [w 11 (.mv (.t 5)),w 12 (.mv (.t 0)),w 13 (.lenL (.t 12)),w 14 (.bin .lss (.t 11) (.t 13))]
def c20_r6 : List DI := [{ ai := w 17 (.mv (.t 0)), hide := [18, 21, 22, 23, 24], wr := [17], pre := [] },
  { ai := w 18 (.mv (.t 5)), hide := [17, 21, 22, 23, 24], wr := [18], pre := [] },
  { ai := w 19 (.indexAddr U15 (.t 17) (.t 18)), hide := [21, 22, 23, 24], wr := [19], pre := [0, 1] },
  { ai := w 20 (.load U15 (.t 19)), hide := [21, 22, 23, 24], wr := [20], pre := [0, 1, 2] },
  { ai := w 21 (.mv (.t 1)), hide := [17, 18, 19, 20, 22], wr := [21], pre := [] },
  { ai := w 22 (.mv (.t 5)), hide := [17, 18, 19, 20, 21], wr := [22], pre := [] },
  { ai := w 23 (.indexAddr U15 (.t 21) (.t 22)), hide := [17, 18, 19, 20], wr := [23], pre := [4, 5] },
  { ai := w 24 (.load U15 (.t 23)), hide := [17, 18, 19, 20], wr := [24], pre := [4, 5, 6] },
  { ai := w 25 (.eqT true U15 (.t 20) (.t 24)), hide := [], wr := [25], pre := [0, 1, 2, 3, 4, 5, 6, 7] }]
def c20_r7 : List AI := [w 4 (.asg (.c .bool false))]
def c20_r5 : List AI := [w 15 (.mv (.t 5)),w 16 (.bin .add (.t 15) (.c U2 1)),w 5 (.asg (.t 16))]
def c20_r8 : List AI := [w 4 (.asg (.c .bool true))]
def c20 : AC := (.seq (.reg [0, 1] c20_r0) (.seq (.seq (.reg [0, 1] c20_r1) (.cond (.t 10) (.seq (.reg [] c20_r2) .ret) .skip)) (.seq (.seq (.reg [0, 1] c20_r3) (.block 0 (.loop [0, 1, 5] (.seq (.seq (.reg [0, 1, 5] c20_r4) (.cond (.t 14) .skip (.exit 0))) (.seq (.block 1 (.seq (.draw [0, 1, 5] c20_r6) (.cond (.t 25) (.seq (.reg [] c20_r7) .ret) .skip))) (.reg [0, 1, 5] c20_r5)))))) (.seq (.reg [] c20_r8) .ret))))
def d20 : FD := { nargs := 2, body := c20, res := [.t 4] }
-- anceps/ancepsref11.Parse
def c25_r0 : List AI := [w 2 (.asg (.nil 30 U17)),w 3 (.asg (.c U2 0))]
def c25_r1 : List AI := [w 9 (.mv (.t 0)),w 10 (.lenS (.t 9)),w 11 (.bin .gtr (.t 10) (.c U2 4000))]
def c25_r2 : List AI := [w 2 (.asg (.nil 30 U17)),w 3 (.asg (.c U2 3))]
def c25_r3 : List AI := [w 12 (.mv (.t 0)),w 13 (.bin .eql (.t 12) (.c .str []))]
def c25_r4 : List AI := [w 2 (.asg (.nil 30 U17)),w 3 (.asg (.c U2 0))]
def c25_r5 : List AI := [w 4 (.asg (.nil 30 U17))]
def c25_r6 : List AI := [w 14 (.mv (.t 0)),w 15 (.call 49 [(.t 14)]),w 5 (.asg (.t 15))]
def c25_r7 : List AI := [w 6 (.asg (.c U2 0))]
def c25_r8 : List AI := [w 16 (.mv (.t 6)),w 17 (.mv (.t 5)),w 18 (.lenL (.t 17)),w 19 (.bin .lss (.t 16) (.t 18))]
def c25_r10 : List AI := [w 23 (.mv (.t 5)),w 24 (.mv (.t 6)),w 25 (.indexAddr .str (.t 23) (.t 24)),w 26 (.load .str (.t 25)),w 27 (.call 50 [(.t 26)]),w 22 (.mv (.t 27)),w 28 (.extract 22 0),w 29 (.extract 22 1),w 7 (.alloc U17 .no),
  ⟨none, .store U17 (.t 7) (.t 28), none⟩,
  w 8 (.asg (.t 29))]
def c25_r11 : List AI := [w 30 (.mv (.t 8)),w 31 (.un .not (.t 30))]
def c25_r12 : List AI := [w 2 (.asg (.nil 30 U17)),w 3 (.asg (.c U2 2))]
def c25_r13 : List AI := [w 32 (.mv (.t 4)),w 33 (.load U17 (.t 7)),w 34 (.buildSlice 30 U17 [(.t 33)]),w 35 (.append 30 U17 4398046511104 (.t 32) (.t 34)),w 4 (.asg (.t 35))]
def c25_r9 : List AI := [w 20 (.mv (.t 6)),w 21 (.bin .add (.t 20) (.c U2 1)),w 6 (.asg (.t 21))]
def c25_r14 : List AI := [w 36 (.mv (.t 4)),w 37 (.lenL (.t 36)),w 38 (.bin .gtr (.t 37) (.c U2 200))]
def c25_r15 : List AI := [w 2 (.asg (.nil 30 U17)),w 3 (.asg (.c U2 2))]
def c25_r16 : List AI := [w 39 (.mv (.t 4)),w 2 (.asg (.t 39)),w 3 (.asg (.c U2 0))]
def c25 : AC := (.seq (.reg [0] c25_r0) (.seq (.seq (.reg [0] c25_r1) (.cond (.t 11) (.seq (.reg [] c25_r2) .ret) .skip)) (.seq (.seq (.reg [0] c25_r3) (.cond (.t 13) (.seq (.reg [] c25_r4) .ret) .skip)) (.seq (.reg [0] c25_r5) (.seq (.reg [0, 4, 35] c25_r6) (.seq (.seq (.reg [4, 5, 15, 35] c25_r7) (.block 0 (.loop [4, 5, 6, 15, 35] (.seq (.seq (.reg [4, 5, 6, 15, 35] c25_r8) (.cond (.t 19) .skip (.exit 0))) (.seq (.block 1 (.seq (.reg [4, 5, 6, 15, 35] c25_r10) (.seq (.seq (.reg [4, 5, 6, 7, 8, 15, 28, 35] c25_r11) (.cond (.t 31) (.seq (.reg [] c25_r12) .ret) .skip)) (.reg [4, 5, 6, 7, 15, 28, 35] c25_r13)))) (.reg [4, 5, 6, 15, 35] c25_r9)))))) (.seq (.seq (.reg [4, 35] c25_r14) (.cond (.t 38) (.seq (.reg [] c25_r15) .ret) .skip)) (.seq (.reg [4, 35] c25_r16) .ret))))))))
def d25 : FD := { nargs := 1, body := c25, res := [.t 2, .t 3] }
-- anceps/ancepsref17.Classical
def c26_r0 : List AI := [w 0 (.alloc U27 (.pair .no (.pair (.own true 67 .no) .no)))]
def c26_r1 : List AI := [w 5 (.call 51 [(.c .str [108, 105, 99, 101, 110, 99, 101, 32, 99, 108, 97, 115, 115, 105, 99, 97, 108, 32, 123, 10, 32, 32, 109, 117, 116, 101, 32, 49, 59, 10, 32, 32, 98, 114, 101, 118, 105, 115, 32, 49, 59, 10, 32, 32, 105, 110, 100, 105, 102, 102, 101, 114, 101, 110, 116, 32, 49, 59, 10, 32, 32, 115, 121, 110, 105, 122, 101, 115, 105, 115, 32, 52, 59, 10, 32, 32, 101, 108, 105, 115, 105, 111, 110, 32, 48, 59, 10, 32, 32, 101, 99, 116, 104, 108, 105, 112, 115, 105, 115, 32, 48, 59, 10, 32, 32, 112, 114, 111, 100, 101, 108, 105, 115, 105, 111, 110, 32, 48, 32, 105, 110, 32, 34, 101, 115, 34, 44, 32, 34, 101, 115, 116, 34, 59, 10, 32, 32, 104, 105, 97, 116, 117, 115, 32, 54, 59, 10, 32, 32, 99, 111, 114, 114, 101, 112, 116, 105, 111, 110, 32, 53, 59, 10, 32, 32, 108, 101, 110, 103, 116, 104, 101, 110, 32, 56, 59, 10, 125, 10])]),w 4 (.mv (.t 5)),w 6 (.extract 4 0),w 7 (.extract 4 1),w 8 (.extract 4 2),w 1 (.alloc U27 (.pair .no (.pair (.own true 67 .no) .no))),
  ⟨none, .store U27 (.t 1) (.t 6), none⟩,
  w 2 (.asg (.t 7)),w 3 (.asg (.t 8))]
def c26_r2 : List AI := [w 9 (.load U27 (.t 1)),
  ⟨none, .store U27 (.t 0) (.t 9), none⟩]
def c26 : AC := (.seq (.reg [] c26_r0) (.seq (.reg [0, 1, 6, 9] c26_r1) (.seq (.reg [0, 1, 6, 9] c26_r2) .ret)))
def d26 : FD := { nargs := 0, body := c26, res := [.cell 0 U27] }
-- anceps/junction.apply
def c27_r0 : List AI := [w 6 (.asg (.nil 30 U17)),w 7 (.asg (.nil 30 U17)),w 8 (.asg (.nil 30 U17)),w 9 (.asg (.c U2 0))]
def c27_r1 : List AI := [w 17 (.mv (.t 0)),w 18 (.mv (.t 1)),w 19 (.call 33 [(.t 17), (.t 18)]),w 10 (.asg (.t 19))]
def c27_r2 : List AI := [w 20 (.mv (.t 10)),w 21 (.bin .neq (.t 20) (.c U2 0))]
def c27_r3 : List AI := [w 22 (.mv (.t 10)),w 6 (.asg (.nil 30 U17)),w 7 (.asg (.nil 30 U17)),w 8 (.asg (.nil 30 U17)),w 9 (.asg (.t 22))]
def c27_r4 : List AI := [w 23 (.mv (.t 2)),w 24 (.bin .lss (.t 23) (.c U2 0)),w 25 (.mv (.t 24)),
  ⟨some 26, .mv (.t 2), some (25, false)⟩,
  ⟨some 27, .bin .gtr (.t 26) (.c U2 4), some (25, false)⟩,
  w 28 (.pick (.t 25) (.c .bool true) (.t 27))]
def c27_r5 : List AI := [w 6 (.asg (.nil 30 U17)),w 7 (.asg (.nil 30 U17)),w 8 (.asg (.nil 30 U17)),w 9 (.asg (.c U2 6))]
def c27_r6 : List AI := [w 29 (.mv (.t 0)),w 30 (.mv (.t 1)),w 31 (.call 34 [(.t 29), (.t 30)]),w 32 (.mv (.t 2)),w 33 (.call 52 [(.t 31), (.t 32)]),w 34 (.un .not (.t 33))]
def c27_r7 : List AI := [w 6 (.asg (.nil 30 U17)),w 7 (.asg (.nil 30 U17)),w 8 (.asg (.nil 30 U17)),w 9 (.asg (.c U2 8))]
def c27_r8 : List AI := [w 35 (.mv (.t 0)),w 36 (.call 9 [(.t 35)]),w 37 (.mv (.t 1)),w 38 (.call 9 [(.t 37)]),w 11 (.asg (.t 36)),w 12 (.asg (.t 38))]
def c27_r9 : List AI := [w 13 (.asg (.nil 30 U17))]
def c27_r10 : List AI := [w 39 (.mv (.t 2))]
def c27_r11 : List AI := [w 41 (.bin .eql (.t 39) (.c U2 1)),w 40 (.asg (.t 41))]
def c27_r12 : List AI := [w 42 (.mv (.t 0)),w 43 (.lenL (.t 42)),w 44 (.mv (.t 0)),w 45 (.call 37 [(.t 44)]),w 46 (.bin .sub (.t 43) (.t 45)),w 14 (.asg (.t 46))]
def c27_r13 : List DI := [{ ai := w 47 (.mv (.t 11)), hide := [48, 49, 51, 52, 53, 54], wr := [47], pre := [] },
  { ai := w 48 (.mv (.t 14)), hide := [47, 49, 51, 52, 53, 54], wr := [48], pre := [] },
  { ai := w 49 (.mv (.t 14)), hide := [47, 48, 51, 52, 53, 54], wr := [49], pre := [] },
  { ai := w 50 (.sliceL U17 (.t 47) none (some (.t 48)) (some (.t 49))), hide := [51, 52, 53, 54], wr := [11, 47, 50], pre := [0, 1, 2] },
  { ai := w 51 (.mv (.t 0)), hide := [11, 47, 48, 49, 50, 52], wr := [51], pre := [] },
  { ai := w 52 (.mv (.t 14)), hide := [11, 47, 48, 49, 50, 51], wr := [52], pre := [] },
  { ai := w 53 (.sliceL U17 (.t 51) (some (.t 52)) none none), hide := [11, 47, 48, 49, 50], wr := [51, 53], pre := [4, 5] },
  { ai := w 54 (.call 9 [(.t 53)]), hide := [11, 47, 48, 49, 50], wr := [54], pre := [4, 5, 6] },
  { ai := w 11 (.asg (.t 50)), hide := [], wr := [11], pre := [0, 1, 2, 3, 4, 5, 6, 7], piv := true },
  { ai := w 13 (.asg (.t 54)), hide := [], wr := [13], pre := [0, 1, 2, 3, 4, 5, 6, 7, 8], piv := true }]
def c27_r14 : List AI := [w 56 (.bin .eql (.t 39) (.c U2 2)),w 55 (.asg (.t 56))]
def c27_r15 : List AI := [w 57 (.mv (.t 1)),w 58 (.call 53 [(.t 57)]),w 59 (.bin .add (.t 58) (.c U2 1)),w 15 (.asg (.t 59))]
def c27_r16 : List DI := [{ ai := w 60 (.mv (.t 1)), hide := [61, 64, 65, 66], wr := [60], pre := [] },
  { ai := w 61 (.mv (.t 15)), hide := [60, 64, 65, 66], wr := [61], pre := [] },
  { ai := w 62 (.sliceL U17 (.t 60) (some (.t 61)) none none), hide := [64, 65, 66], wr := [60, 62], pre := [0, 1] },
  { ai := w 63 (.call 9 [(.t 62)]), hide := [64, 65, 66], wr := [63], pre := [0, 1, 2] },
  { ai := w 64 (.mv (.t 1)), hide := [60, 61, 62, 63, 65], wr := [64], pre := [] },
  { ai := w 65 (.mv (.t 15)), hide := [60, 61, 62, 63, 64], wr := [65], pre := [] },
  { ai := w 66 (.sliceL U17 (.t 64) none (some (.t 65)) none), hide := [60, 61, 62, 63], wr := [64, 66], pre := [4, 5] },
  { ai := w 67 (.call 9 [(.t 66)]), hide := [], wr := [67], pre := [0, 1, 2, 3, 4, 5, 6], piv := true },
  { ai := w 12 (.asg (.t 63)), hide := [], wr := [12], pre := [0, 1, 2, 3, 4, 5, 6, 7], piv := true },
  { ai := w 13 (.asg (.t 67)), hide := [], wr := [13], pre := [0, 1, 2, 3, 4, 5, 6, 7, 8], piv := true }]
def c27_r17 : List AI := [w 69 (.bin .eql (.t 39) (.c U2 4)),w 68 (.asg (.t 69))]
def c27_r18 : List AI := [w 70 (.mv (.t 11)),w 71 (.mv (.t 11)),w 72 (.lenL (.t 71)),w 73 (.bin .sub (.t 72) (.c U2 1)),w 74 (.indexAddr U17 (.t 70) (.t 73)),w 16 (.asg (.t 74))]
def c27_r19 : List AI := [w 75 (.mv (.t 16)),w 76 (.mv (.t 16)),w 77 (.nilck (.t 75)),w 78 (.fieldAddr U17 [.l] (.t 77)),
  ⟨none, .store U2 (.t 78) (.c U2 1), none⟩,
  w 79 (.nilck (.t 76)),w 80 (.fieldAddr U17 [.r, .l] (.t 79)),
  ⟨none, .store U2 (.t 80) (.c U2 1), none⟩]
def c27_r20 : List AI := [w 81 (.mv (.t 11)),w 82 (.mv (.t 12)),w 83 (.mv (.t 13)),w 6 (.asg (.t 81)),w 7 (.asg (.t 82)),w 8 (.asg (.t 83)),w 9 (.asg (.c U2 0))]
def c27 : AC := (.seq (.reg [0, 1, 2] c27_r0) (.seq (.seq (.reg [0, 1, 2] c27_r1) (.seq (.reg [0, 1, 2, 10] c27_r2) (.cond (.t 21) (.seq (.reg [10] c27_r3) .ret) .skip))) (.seq (.seq (.reg [0, 1, 2] c27_r4) (.cond (.t 28) (.seq (.reg [] c27_r5) .ret) .skip)) (.seq (.seq (.reg [0, 1, 2] c27_r6) (.cond (.t 34) (.seq (.reg [] c27_r7) .ret) .skip)) (.seq (.reg [0, 1, 2] c27_r8) (.seq (.reg [0, 1, 2, 11, 12, 36, 38, 50, 63] c27_r9) (.seq (.seq (.reg [0, 1, 2, 11, 12, 13, 36, 38, 50, 54, 63, 67] c27_r10) (.block 0 (.seq (.reg [0, 1, 11, 12, 13, 36, 38, 39, 50, 54, 63, 67] c27_r11) (.cond (.t 40) (.seq (.reg [0, 11, 12, 36, 38, 50, 63] c27_r12) (.draw [0, 11, 12, 14, 36, 38, 50, 63] c27_r13)) (.seq (.reg [1, 11, 12, 13, 36, 38, 39, 50, 54, 63, 67] c27_r14) (.cond (.t 55) (.seq (.reg [1, 11, 36, 50] c27_r15) (.draw [1, 11, 15, 36, 50] c27_r16)) (.seq (.reg [11, 12, 13, 36, 38, 39, 50, 54, 63, 67] c27_r17) (.cond (.t 68) (.seq (.reg [11, 12, 13, 36, 38, 50, 54, 63, 67] c27_r18) (.reg [11, 12, 13, 16, 36, 38, 50, 54, 63, 67, 70, 74] c27_r19)) .skip)))))))) (.seq (.reg [11, 12, 13, 36, 38, 50, 54, 63, 67] c27_r20) .ret))))))))
def d27 : FD := { nargs := 3, body := c27, res := [.t 6, .t 7, .t 8, .t 9] }
-- anceps/ancepsref11.Compare
def c30_r0 : List AI := [w 2 (.box U17 (.t 0)),w 3 (.box U17 (.t 1)),w 4 (.asg (.c U2 0))]
def c30_r1 : List AI := [w 7 (.fieldAddr U17 [.l] (.t 2)),w 8 (.load U2 (.t 7)),w 9 (.fieldAddr U17 [.l] (.t 3)),w 10 (.load U2 (.t 9)),w 11 (.call 57 [(.t 8), (.t 10)]),w 5 (.asg (.t 11))]
def c30_r2 : List AI := [w 12 (.mv (.t 5)),w 13 (.bin .neq (.t 12) (.c U2 0))]
def c30_r3 : List AI := [w 14 (.mv (.t 5)),w 4 (.asg (.t 14))]
def c30_r4 : List AI := [w 15 (.fieldAddr U17 [.r, .l] (.t 2)),w 16 (.load U2 (.t 15)),w 17 (.fieldAddr U17 [.r, .l] (.t 3)),w 18 (.load U2 (.t 17)),w 19 (.call 57 [(.t 16), (.t 18)]),w 6 (.asg (.t 19))]
def c30_r5 : List AI := [w 20 (.mv (.t 6)),w 21 (.bin .neq (.t 20) (.c U2 0))]
def c30_r6 : List AI := [w 22 (.mv (.t 6)),w 4 (.asg (.t 22))]
def c30_r7 : List AI := [w 23 (.fieldAddr U17 [.r, .r, .l] (.t 2)),w 24 (.load .str (.t 23)),w 25 (.fieldAddr U17 [.r, .r, .l] (.t 3)),w 26 (.load .str (.t 25)),w 27 (.bin .lss (.t 24) (.t 26))]
def c30_r8 : List AI := [w 4 (.asg (.c U2 (-1)))]
def c30_r9 : List AI := [w 28 (.fieldAddr U17 [.r, .r, .l] (.t 2)),w 29 (.load .str (.t 28)),w 30 (.fieldAddr U17 [.r, .r, .l] (.t 3)),w 31 (.load .str (.t 30)),w 32 (.bin .gtr (.t 29) (.t 31))]
def c30_r10 : List AI := [w 4 (.asg (.c U2 1))]
def c30_r11 : List AI := [w 4 (.asg (.c U2 0))]
def c30 : AC := (.seq (.reg [0, 1] c30_r0) (.seq (.seq (.reg [2, 3] c30_r1) (.seq (.reg [2, 3, 5] c30_r2) (.cond (.t 13) (.seq (.reg [5] c30_r3) .ret) .skip))) (.seq (.seq (.reg [2, 3] c30_r4) (.seq (.reg [2, 3, 6] c30_r5) (.cond (.t 21) (.seq (.reg [6] c30_r6) .ret) .skip))) (.seq (.seq (.reg [2, 3] c30_r7) (.cond (.t 27) (.seq (.reg [] c30_r8) .ret) .skip)) (.seq (.seq (.reg [2, 3] c30_r9) (.cond (.t 32) (.seq (.reg [] c30_r10) .ret) .skip)) (.seq (.reg [] c30_r11) .ret))))))
def d30 : FD := { nargs := 2, body := c30, res := [.t 4] }
-- anceps/ancepsref11.split
def c49_r0 : List AI := [w 2 (.asg (.nil 9 .str))]
def c49_r1 : List AI := [w 5 (.buildSlice 9 .str [(.c .str [])]),w 3 (.asg (.t 5))]
def c49_r2 : List AI := [w 4 (.asg (.c U2 0))]
def c49_r3 : List AI := [w 6 (.mv (.t 4)),w 7 (.mv (.t 0)),w 8 (.lenS (.t 7)),w 9 (.bin .lss (.t 6) (.t 8))]
def c49_r5 : List AI := [w 12 (.mv (.t 0)),w 13 (.mv (.t 4)),w 14 (.indexS (.t 12) (.t 13)),w 15 (.bin .eql (.t 14) (.c U1 32))]
def c49_r6 : List AI := [w 16 (.mv (.t 3)),w 17 (.buildSlice 9 .str [(.c .str [])]),w 18 (.append 9 .str 8796093022208 (.t 16) (.t 17)),w 3 (.asg (.t 18))]
def c49_r7 : List DI := [{ ai := w 19 (.mv (.t 3)), hide := [20, 21, 22, 23, 24, 25, 26, 27, 28, 29, 30, 31, 32, 33, 34], wr := [19], pre := [] },
  { ai := w 20 (.mv (.t 3)), hide := [19, 23, 24, 25, 26, 27, 28, 29, 30, 31, 32, 33, 34], wr := [20], pre := [] },
  { ai := w 21 (.lenL (.t 20)), hide := [19, 23, 24, 25, 26, 27, 28, 29, 30, 31, 32, 33, 34], wr := [21], pre := [1] },
  { ai := w 22 (.bin .sub (.t 21) (.c U2 1)), hide := [19, 23, 24, 25, 26, 27, 28, 29, 30, 31, 32, 33, 34], wr := [22], pre := [1, 2] },
  { ai := w 23 (.mv (.t 3)), hide := [19, 20, 21, 22, 24, 25, 26, 29, 30, 31, 32, 33], wr := [23], pre := [] },
  { ai := w 24 (.mv (.t 3)), hide := [19, 20, 21, 22, 23, 29, 30, 31, 32, 33], wr := [24], pre := [] },
  { ai := w 25 (.lenL (.t 24)), hide := [19, 20, 21, 22, 23, 29, 30, 31, 32, 33], wr := [25], pre := [5] },
  { ai := w 26 (.bin .sub (.t 25) (.c U2 1)), hide := [19, 20, 21, 22, 23, 29, 30, 31, 32, 33], wr := [26], pre := [5, 6] },
  { ai := w 27 (.indexAddr .str (.t 23) (.t 26)), hide := [19, 20, 21, 22, 29, 30, 31, 32, 33], wr := [27], pre := [4, 5, 6, 7] },
  { ai := w 28 (.load .str (.t 27)), hide := [19, 20, 21, 22, 29, 30, 31, 32, 33], wr := [28], pre := [4, 5, 6, 7, 8] },
  { ai := w 29 (.mv (.t 0)), hide := [19, 20, 21, 22, 23, 24, 25, 26, 27, 28, 30, 31, 32], wr := [29], pre := [] },
  { ai := w 30 (.mv (.t 4)), hide := [19, 20, 21, 22, 23, 24, 25, 26, 27, 28, 29, 31, 32], wr := [30], pre := [] },
  { ai := w 31 (.mv (.t 4)), hide := [19, 20, 21, 22, 23, 24, 25, 26, 27, 28, 29, 30], wr := [31], pre := [] },
  { ai := w 32 (.bin .add (.t 31) (.c U2 1)), hide := [19, 20, 21, 22, 23, 24, 25, 26, 27, 28, 29, 30], wr := [32], pre := [12] },
  { ai := w 33 (.sliceS (.t 29) (some (.t 30)) (some (.t 32))), hide := [19, 20, 21, 22, 23, 24, 25, 26, 27, 28], wr := [33], pre := [10, 11, 12, 13] },
  { ai := w 34 (.bin .add (.t 28) (.t 33)), hide := [19, 20, 21, 22], wr := [34], pre := [4, 5, 6, 7, 8, 9, 10, 11, 12, 13, 14] },
  { ai := w 35 (.indexAddr .str (.t 19) (.t 22)), hide := [], wr := [35], pre := [0, 1, 2, 3, 4, 5, 6, 7, 8, 9, 10, 11, 12, 13, 14, 15] },
  { ai := ⟨none, .store .str (.t 35) (.t 34), none⟩, hide := [], wr := [3, 19, 35], pre := [0, 1, 2, 3, 4, 5, 6, 7, 8, 9, 10, 11, 12, 13, 14, 15, 16] }]
def c49_r4 : List AI := [w 10 (.mv (.t 4)),w 11 (.bin .add (.t 10) (.c U2 1)),w 4 (.asg (.t 11))]
def c49_r8 : List AI := [w 36 (.mv (.t 3)),w 2 (.asg (.t 36))]
def c49 : AC := (.seq (.reg [0] c49_r0) (.seq (.reg [0] c49_r1) (.seq (.seq (.reg [0, 3, 5, 18] c49_r2) (.block 0 (.loop [0, 3, 4, 5, 18] (.seq (.seq (.reg [0, 3, 4, 5, 18] c49_r3) (.cond (.t 9) .skip (.exit 0))) (.seq (.block 1 (.seq (.reg [0, 3, 4, 5, 18] c49_r5) (.cond (.t 15) (.reg [0, 3, 4, 5, 18] c49_r6) (.draw [0, 3, 4, 5, 18] c49_r7)))) (.reg [0, 3, 4, 5, 18] c49_r4)))))) (.seq (.reg [3, 5, 18] c49_r8) .ret))))
def d49 : FD := { nargs := 1, body := c49, res := [.t 2] }
-- anceps/ancepsref11.one
def c50_r0 : List AI := [w 2 (.alloc U17 .no),w 3 (.asg (.c .bool false))]
def c50_r1 : List AI := [w 4 (.asg (.c U2 0))]
def c50_r2 : List AI := [w 8 (.mv (.t 4)),w 9 (.mv (.t 0)),w 10 (.lenS (.t 9)),w 11 (.bin .lss (.t 8) (.t 10)),w 12 (.mv (.t 11)),
  ⟨some 13, .mv (.t 0), some (12, true)⟩,
  ⟨some 14, .mv (.t 4), some (12, true)⟩,
  ⟨some 15, .indexS (.t 13) (.t 14), some (12, true)⟩,
  ⟨some 16, .bin .neq (.t 15) (.c U1 47), some (12, true)⟩,
  w 17 (.pick (.t 12) (.t 16) (.c .bool false))]
def c50_r3 : List AI := [w 18 (.mv (.t 4)),w 19 (.bin .add (.t 18) (.c U2 1)),w 4 (.asg (.t 19))]
def c50_r4 : List AI := [w 5 (.asg (.c .str []))]
def c50_r5 : List AI := [w 20 (.mv (.t 4)),w 21 (.mv (.t 0)),w 22 (.lenS (.t 21)),w 23 (.bin .lss (.t 20) (.t 22))]
def c50_r6 : List AI := [w 24 (.mv (.t 0)),w 25 (.mv (.t 4)),w 26 (.bin .add (.t 25) (.c U2 1)),w 27 (.sliceS (.t 24) (some (.t 26)) none),w 5 (.asg (.t 27))]
def c50_r7 : List AI := [w 28 (.mv (.t 5)),w 29 (.bin .eql (.t 28) (.c .str []))]
def c50_r8 : List AI := [w 30 (.build U17 []),
  ⟨none, .store U17 (.t 2) (.t 30), none⟩,
  w 3 (.asg (.c .bool false))]
def c50_r9 : List AI := [w 31 (.mv (.t 0)),w 32 (.mv (.t 4)),w 33 (.sliceS (.t 31) none (some (.t 32))),w 34 (.build U17 [([.r, .r, .l], (.t 33))]),w 6 (.alloc U17 .no),
  ⟨none, .store U17 (.t 6) (.t 34), none⟩]
def c50_r10 : List AI := [w 7 (.asg (.c U2 1))]
def c50_r11 : List AI := [w 35 (.mv (.t 7)),w 36 (.call 72 []),w 37 (.lenS (.t 36)),w 38 (.bin .lss (.t 35) (.t 37))]
def c50_r13 : List DI := [{ ai := w 41 (.call 72 []), hide := [42, 44, 45], wr := [41], pre := [] },
  { ai := w 42 (.mv (.t 7)), hide := [41, 44, 45], wr := [42], pre := [] },
  { ai := w 43 (.indexS (.t 41) (.t 42)), hide := [44, 45], wr := [43], pre := [0, 1] },
  { ai := w 44 (.mv (.t 5)), hide := [41, 42, 43], wr := [44], pre := [] },
  { ai := w 45 (.indexS (.t 44) (.c U2 0)), hide := [41, 42, 43], wr := [45], pre := [3] },
  { ai := w 46 (.bin .eql (.t 43) (.t 45)), hide := [], wr := [46], pre := [0, 1, 2, 3, 4] }]
def c50_r14 : List AI := [w 47 (.mv (.t 7)),w 48 (.fieldAddr U17 [.l] (.t 6)),
  ⟨none, .store U2 (.t 48) (.t 47), none⟩]
def c50_r12 : List AI := [w 39 (.mv (.t 7)),w 40 (.bin .add (.t 39) (.c U2 1)),w 7 (.asg (.t 40))]
def c50_r15 : List AI := [w 49 (.mv (.t 5)),w 50 (.sliceS (.t 49) (some (.c U2 1)) none),w 5 (.asg (.t 50))]
def c50_r16 : List AI := [w 51 (.load U17 (.t 6)),w 52 (.call 71 [(.t 51)]),w 53 (.mv (.t 52)),
  ⟨some 54, .mv (.t 5), some (53, true)⟩,
  ⟨some 55, .lenS (.t 54), some (53, true)⟩,
  ⟨some 56, .bin .eql (.t 55) (.c U2 1), some (53, true)⟩,
  w 57 (.pick (.t 53) (.t 56) (.c .bool false)),w 58 (.mv (.t 57)),
  ⟨some 59, .mv (.t 5), some (58, true)⟩,
  ⟨some 60, .indexS (.t 59) (.c U2 0), some (58, true)⟩,
  ⟨some 61, .bin .geq (.t 60) (.c U1 49), some (58, true)⟩,
  w 62 (.pick (.t 58) (.t 61) (.c .bool false)),w 63 (.mv (.t 62)),
  ⟨some 64, .mv (.t 5), some (63, true)⟩,
  ⟨some 65, .indexS (.t 64) (.c U2 0), some (63, true)⟩,
  ⟨some 66, .bin .leq (.t 65) (.c U1 51), some (63, true)⟩,
  w 67 (.pick (.t 63) (.t 66) (.c .bool false))]
def c50_r17 : List AI := [w 68 (.mv (.t 5)),w 69 (.indexS (.t 68) (.c U2 0)),w 70 (.convI .i64 (.t 69)),w 71 (.bin .sub (.t 70) (.c U2 48)),w 72 (.fieldAddr U17 [.r, .l] (.t 6)),
  ⟨none, .store U2 (.t 72) (.t 71), none⟩]
def c50_r18 : List AI := [w 5 (.asg (.c .str []))]
def c50_r19 : List DI := [{ ai := w 73 (.load U17 (.t 6)), hide := [74, 75, 76, 77, 78, 79, 80], wr := [73], pre := [] },
  { ai := w 74 (.mv (.t 5)), hide := [73], wr := [74], pre := [] },
  { ai := w 75 (.bin .eql (.t 74) (.c .str [])), hide := [73], wr := [75], pre := [1] },
  { ai := w 76 (.mv (.t 75)), hide := [73], wr := [76], pre := [1, 2] },
  { ai := ⟨some 77, .load U17 (.t 6), some (76, true)⟩, hide := [73], wr := [77], pre := [1, 2, 3] },
  { ai := ⟨some 78, .call 73 [(.t 77)], some (76, true)⟩, hide := [73], wr := [78], pre := [1, 2, 3, 4] },
  { ai := ⟨some 79, .bin .eql (.t 78) (.c U2 0), some (76, true)⟩, hide := [2, 73], wr := [79], pre := [1, 2, 3, 4, 5] },
  { ai := w 80 (.pick (.t 76) (.t 79) (.c .bool false)), hide := [2, 73], wr := [80], pre := [1, 2, 3, 4, 5, 6] },
  { ai := ⟨none, .store U17 (.t 2) (.t 73), none⟩, hide := [79, 80], wr := [2], pre := [0, 1, 2, 3, 4, 5] },
  { ai := w 3 (.asg (.t 80)), hide := [], wr := [3], pre := [0, 1, 2, 3, 4, 5, 6, 7, 8] }]
def c50 : AC := (.seq (.reg [0] c50_r0) (.seq (.reg [0, 2, 6, 30, 34, 73] c50_r1) (.seq (.block 0 (.loop [0, 2, 4, 6, 30, 34, 73] (.seq (.seq (.reg [0, 2, 4, 6, 30, 34, 73] c50_r2) (.cond (.t 17) .skip (.exit 0))) (.block 1 (.reg [0, 2, 4, 6, 30, 34, 73] c50_r3))))) (.seq (.reg [0, 2, 4, 6, 30, 34, 73] c50_r4) (.seq (.seq (.reg [0, 2, 4, 5, 6, 30, 34, 73] c50_r5) (.cond (.t 23) (.reg [0, 2, 4, 6, 30, 34, 73] c50_r6) .skip)) (.seq (.seq (.reg [0, 2, 4, 5, 6, 30, 34, 73] c50_r7) (.cond (.t 29) (.seq (.reg [2, 6, 30, 34, 73] c50_r8) .ret) .skip)) (.seq (.reg [0, 2, 4, 5, 6, 30, 34, 73] c50_r9) (.seq (.seq (.reg [2, 5, 6, 30, 34, 73] c50_r10) (.block 2 (.loop [2, 5, 6, 7, 30, 34, 73] (.seq (.seq (.reg [2, 5, 6, 7, 30, 34, 73] c50_r11) (.cond (.t 38) .skip (.exit 2))) (.seq (.block 3 (.seq (.draw [2, 5, 6, 7, 30, 34, 73] c50_r13) (.cond (.t 46) (.reg [2, 5, 6, 7, 30, 34, 73] c50_r14) .skip))) (.reg [2, 5, 6, 7, 30, 34, 73] c50_r12)))))) (.seq (.reg [2, 5, 6, 30, 34, 73] c50_r15) (.seq (.seq (.reg [2, 5, 6, 30, 34, 73] c50_r16) (.cond (.t 67) (.seq (.reg [2, 5, 6, 30, 34, 73] c50_r17) (.reg [2, 6, 30, 34, 73] c50_r18)) .skip)) (.seq (.draw [2, 5, 6, 30, 34, 73] c50_r19) .ret)))))))))))
def d50 : FD := { nargs := 1, body := c50, res := [.cell 2 U17, .t 3] }
-- anceps/ancepsref17.Parse
def c51_r0 : List AI := [w 2 (.alloc U27 .no),w 3 (.asg (.c U2 0)),w 4 (.asg (.c U2 0))]
def c51_r1 : List AI := [w 18 (.mv (.t 0)),w 19 (.call 74 [(.t 18)]),w 17 (.mv (.t 19)),w 20 (.extract 17 0),w 21 (.extract 17 1),w 22 (.extract 17 2),w 5 (.asg (.t 20)),w 6 (.asg (.t 21)),w 7 (.asg (.t 22))]
def c51_r2 : List AI := [w 23 (.mv (.t 7)),w 24 (.bin .neq (.t 23) (.c U2 0))]
def c51_r3 : List AI := [w 25 (.buildN U27 (.pair .no (.pair (.own true 67 .no) .no)) []),w 26 (.mv (.t 6)),w 27 (.mv (.t 7)),
  ⟨none, .store U27 (.t 2) (.t 25), none⟩,
  w 3 (.asg (.t 26)),w 4 (.asg (.t 27))]
def c51_r4 : List AI := [w 28 (.mv (.t 5)),w 29 (.call 75 [(.t 28), (.c U2 0), (.c U2 1), (.c .str [108, 105, 99, 101, 110, 99, 101])]),w 30 (.un .not (.t 29))]
def c51_r5 : List AI := [w 31 (.mv (.t 5)),w 32 (.call 76 [(.t 31), (.c U2 0)]),w 33 (.extract 32 0),w 34 (.extract 32 1),w 35 (.extract 32 2),
  ⟨none, .store U27 (.t 2) (.t 33), none⟩,
  w 3 (.asg (.t 34)),w 4 (.asg (.t 35))]
def c51_r6 : List AI := [w 36 (.mv (.t 5)),w 37 (.call 75 [(.t 36), (.c U2 1), (.c U2 1), (.c .str [])]),w 38 (.un .not (.t 37))]
def c51_r7 : List AI := [w 39 (.mv (.t 5)),w 40 (.call 76 [(.t 39), (.c U2 1)]),w 41 (.extract 40 0),w 42 (.extract 40 1),w 43 (.extract 40 2),
  ⟨none, .store U27 (.t 2) (.t 41), none⟩,
  w 3 (.asg (.t 42)),w 4 (.asg (.t 43))]
def c51_r8 : List AI := [w 44 (.mv (.t 5)),w 45 (.call 75 [(.t 44), (.c U2 2), (.c U2 4), (.c .str [123])]),w 46 (.un .not (.t 45))]
def c51_r9 : List AI := [w 47 (.mv (.t 5)),w 48 (.call 76 [(.t 47), (.c U2 2)]),w 49 (.extract 48 0),w 50 (.extract 48 1),w 51 (.extract 48 2),
  ⟨none, .store U27 (.t 2) (.t 49), none⟩,
  w 3 (.asg (.t 50)),w 4 (.asg (.t 51))]
def c51_r10 : List AI := [w 52 (.mv (.t 5)),w 53 (.indexAddr U18 (.t 52) (.c U2 1)),w 54 (.fieldAddr U18 [.r, .l] (.t 53)),w 55 (.load .str (.t 54)),w 56 (.buildN U27 (.pair .no (.pair (.own true 67 .no) .no)) [([.l], (.t 55))]),w 8 (.alloc U27 (.pair .no (.pair (.own true 67 .no) .no))),
  ⟨none, .store U27 (.t 8) (.t 56), none⟩]
def c51_r11 : List AI := [w 9 (.asg (.nil 3 U2))]
def c51_r12 : List AI := [w 10 (.asg (.c U2 3))]
def c51_r13 : List AI := [w 57 (.mv (.t 5)),w 58 (.mv (.t 10)),w 59 (.call 75 [(.t 57), (.t 58), (.c U2 4), (.c .str [125])]),w 60 (.un .not (.t 59))]
def c51_r14 : List AI := [w 62 (.mv (.t 5)),w 63 (.mv (.t 10)),w 64 (.call 77 [(.t 62), (.t 63)]),w 61 (.mv (.t 64)),w 65 (.extract 61 0),w 66 (.extract 61 1),w 67 (.extract 61 2),w 11 (.alloc U20 (.pair .no (.pair .no (.pair (.own true 9 .no) .no)))),
  ⟨none, .store U20 (.t 11) (.t 65), none⟩,
  w 12 (.asg (.t 66)),w 13 (.asg (.t 67))]
def c51_r15 : List AI := [w 68 (.mv (.t 13)),w 69 (.un .not (.t 68))]
def c51_r16 : List AI := [w 70 (.mv (.t 5)),w 71 (.mv (.t 12)),w 72 (.call 76 [(.t 70), (.t 71)]),w 73 (.extract 72 0),w 74 (.extract 72 1),w 75 (.extract 72 2),
  ⟨none, .store U27 (.t 2) (.t 73), none⟩,
  w 3 (.asg (.t 74)),w 4 (.asg (.t 75))]
def c51_r17 : List AI := [w 76 (.fieldAddr U27 [.r, .l] (.t 8)),w 77 (.load U22 (.t 76)),w 78 (.load U20 (.t 11)),w 79 (.buildSlice 67 U20 [(.t 78)]),w 80 (.append 67 U20 3518437208883 (.t 77) (.t 79)),w 81 (.fieldAddr U27 [.r, .l] (.t 8)),
  ⟨none, .store U22 (.t 81) (.t 80), none⟩]
def c51_r18 : List AI := [w 82 (.mv (.t 9)),w 83 (.mv (.t 10)),w 84 (.buildSlice 3 U2 [(.t 83)]),w 85 (.append 3 U2 17592186044416 (.t 82) (.t 84)),w 9 (.asg (.t 85))]
def c51_r19 : List AI := [w 86 (.mv (.t 12)),w 10 (.asg (.t 86))]
def c51_r20 : List AI := [w 87 (.mv (.t 10)),w 88 (.bin .add (.t 87) (.c U2 1)),w 89 (.mv (.t 5)),w 90 (.lenL (.t 89)),w 91 (.bin .neq (.t 88) (.t 90))]
def c51_r21 : List AI := [w 92 (.mv (.t 5)),w 93 (.mv (.t 10)),w 94 (.bin .add (.t 93) (.c U2 1)),w 95 (.call 76 [(.t 92), (.t 94)]),w 96 (.extract 95 0),w 97 (.extract 95 1),w 98 (.extract 95 2),
  ⟨none, .store U27 (.t 2) (.t 96), none⟩,
  w 3 (.asg (.t 97)),w 4 (.asg (.t 98))]
def c51_r22 : List AI := [w 14 (.asg (.c U2 0))]
def c51_r23 : List AI := [w 99 (.mv (.t 14)),w 100 (.mv (.t 9)),w 101 (.lenL (.t 100)),w 102 (.bin .lss (.t 99) (.t 101))]
def c51_r25 : List AI := [w 15 (.asg (.c U2 1))]
def c51_r26 : List AI := [w 105 (.mv (.t 15)),w 106 (.bin .leq (.t 105) (.c U2 12))]
def c51_r28 : List DI := [{ ai := w 109 (.mv (.t 15)), hide := [111, 112, 113, 114, 115, 116, 117, 118], wr := [109], pre := [] },
  { ai := w 110 (.call 78 [(.t 109)]), hide := [111, 112, 113, 114, 115, 116, 117, 118], wr := [110], pre := [0] },
  { ai := w 111 (.mv (.t 5)), hide := [109, 110, 112, 113, 114, 115], wr := [111], pre := [] },
  { ai := w 112 (.mv (.t 9)), hide := [109, 110, 111, 113], wr := [112], pre := [] },
  { ai := w 113 (.mv (.t 14)), hide := [109, 110, 111, 112], wr := [113], pre := [] },
  { ai := w 114 (.indexAddr U2 (.t 112) (.t 113)), hide := [109, 110, 111], wr := [114], pre := [3, 4] },
  { ai := w 115 (.load U2 (.t 114)), hide := [109, 110, 111], wr := [115], pre := [3, 4, 5] },
  { ai := w 116 (.indexAddr U18 (.t 111) (.t 115)), hide := [109, 110], wr := [116], pre := [2, 3, 4, 5, 6] },
  { ai := w 117 (.fieldAddr U18 [.r, .l] (.t 116)), hide := [109, 110], wr := [117], pre := [2, 3, 4, 5, 6, 7] },
  { ai := w 118 (.load .str (.t 117)), hide := [109, 110], wr := [118], pre := [2, 3, 4, 5, 6, 7, 8] },
  { ai := w 119 (.bin .eql (.t 110) (.t 118)), hide := [], wr := [119], pre := [0, 1, 2, 3, 4, 5, 6, 7, 8, 9] }]
def c51_r29 : List AI := [w 120 (.fieldAddr U27 [.r, .l] (.t 8)),w 121 (.load U22 (.t 120)),w 122 (.mv (.t 14)),w 123 (.mv (.t 15)),w 124 (.indexAddr U20 (.t 121) (.t 122)),w 125 (.fieldAddr U20 [.l] (.t 124)),
  ⟨none, .store U2 (.t 125) (.t 123), none⟩]
def c51_r27 : List AI := [w 107 (.mv (.t 15)),w 108 (.bin .add (.t 107) (.c U2 1)),w 15 (.asg (.t 108))]
def c51_r30 : List AI := [w 126 (.fieldAddr U27 [.r, .l] (.t 8)),w 127 (.load U22 (.t 126)),w 128 (.mv (.t 14)),w 129 (.indexAddr U20 (.t 127) (.t 128)),w 130 (.fieldAddr U20 [.l] (.t 129)),w 131 (.load U2 (.t 130)),w 132 (.bin .eql (.t 131) (.c U2 0))]
def c51_r31 : List DI := [{ ai := w 133 (.build U27 []), hide := [134, 135, 136, 137, 138, 139, 140, 141], wr := [133], pre := [] },
  { ai := w 134 (.mv (.t 5)), hide := [2, 133, 135, 136, 137, 138], wr := [134], pre := [] },
  { ai := w 135 (.mv (.t 9)), hide := [2, 133, 134, 136], wr := [135], pre := [] },
  { ai := w 136 (.mv (.t 14)), hide := [2, 133, 134, 135], wr := [136], pre := [] },
  { ai := w 137 (.indexAddr U2 (.t 135) (.t 136)), hide := [2, 133, 134], wr := [137], pre := [2, 3] },
  { ai := w 138 (.load U2 (.t 137)), hide := [2, 133, 134], wr := [138], pre := [2, 3, 4] },
  { ai := w 139 (.indexAddr U18 (.t 134) (.t 138)), hide := [2, 133], wr := [139], pre := [1, 2, 3, 4, 5] },
  { ai := w 140 (.fieldAddr U18 [.r, .r, .l] (.t 139)), hide := [2, 133], wr := [140], pre := [1, 2, 3, 4, 5, 6] },
  { ai := w 141 (.load U2 (.t 140)), hide := [2, 133], wr := [141], pre := [1, 2, 3, 4, 5, 6, 7] },
  { ai := ⟨none, .store U27 (.t 2) (.t 133), none⟩, hide := [134, 135, 136, 137, 138, 139, 140, 141], wr := [2], pre := [0] },
  { ai := w 3 (.asg (.t 141)), hide := [], wr := [3], pre := [0, 1, 2, 3, 4, 5, 6, 7, 8, 9] },
  { ai := w 4 (.asg (.c U2 9)), hide := [], wr := [4], pre := [0, 1, 2, 3, 4, 5, 6, 7, 8, 9, 10] }]
def c51_r24 : List AI := [w 103 (.mv (.t 14)),w 104 (.bin .add (.t 103) (.c U2 1)),w 14 (.asg (.t 104))]
def c51_r32 : List AI := [w 142 (.load U27 (.t 8)),w 143 (.call 38 [(.t 142)]),w 16 (.asg (.t 143))]
def c51_r33 : List AI := [w 144 (.mv (.t 16)),w 145 (.bin .neq (.t 144) (.c U2 0))]
def c51_r34 : List AI := [w 146 (.buildN U27 (.pair .no (.pair (.own true 67 .no) .no)) []),w 147 (.mv (.t 16)),
  ⟨none, .store U27 (.t 2) (.t 146), none⟩,
  w 3 (.asg (.c U2 0)),w 4 (.asg (.t 147))]
def c51_r35 : List AI := [w 148 (.load U27 (.t 8)),
  ⟨none, .store U27 (.t 2) (.t 148), none⟩,
  w 3 (.asg (.c U2 0)),w 4 (.asg (.c U2 0))]
def c51 : AC := (.seq (.reg [0] c51_r0) (.seq (.reg [0, 2, 8, 25, 33, 41, 49, 56, 73, 96, 133, 146, 148] c51_r1) (.seq (.seq (.reg [2, 5, 6, 7, 8, 20, 25, 33, 41, 49, 56, 73, 96, 133, 146, 148] c51_r2) (.cond (.t 24) (.seq (.reg [2, 6, 7, 8, 25, 33, 41, 49, 56, 73, 96, 133, 146, 148] c51_r3) .ret) .skip)) (.seq (.seq (.reg [2, 5, 8, 20, 25, 33, 41, 49, 56, 73, 96, 133, 146, 148] c51_r4) (.cond (.t 30) (.seq (.reg [2, 5, 8, 20, 25, 33, 41, 49, 56, 73, 96, 133, 146, 148] c51_r5) .ret) .skip)) (.seq (.seq (.reg [2, 5, 8, 20, 25, 33, 41, 49, 56, 73, 96, 133, 146, 148] c51_r6) (.cond (.t 38) (.seq (.reg [2, 5, 8, 20, 25, 33, 41, 49, 56, 73, 96, 133, 146, 148] c51_r7) .ret) .skip)) (.seq (.seq (.reg [2, 5, 8, 20, 25, 33, 41, 49, 56, 73, 96, 133, 146, 148] c51_r8) (.cond (.t 46) (.seq (.reg [2, 5, 8, 20, 25, 33, 41, 49, 56, 73, 96, 133, 146, 148] c51_r9) .ret) .skip)) (.seq (.reg [2, 5, 8, 20, 25, 33, 41, 49, 56, 73, 96, 133, 146, 148] c51_r10) (.seq (.reg [2, 5, 8, 20, 25, 33, 41, 49, 56, 73, 96, 133, 146, 148] c51_r11) (.seq (.reg [2, 5, 8, 9, 20, 25, 33, 41, 49, 56, 73, 85, 96, 133, 146, 148] c51_r12) (.seq (.block 0 (.loop [2, 5, 8, 9, 10, 20, 25, 33, 41, 49, 56, 73, 85, 96, 133, 146, 148] (.seq (.seq (.reg [2, 5, 8, 9, 10, 20, 25, 33, 41, 49, 56, 73, 85, 96, 133, 146, 148] c51_r13) (.cond (.t 60) .skip (.exit 0))) (.block 1 (.seq (.reg [2, 5, 8, 9, 10, 20, 25, 33, 41, 49, 56, 73, 85, 96, 133, 146, 148] c51_r14) (.seq (.seq (.reg [2, 5, 8, 9, 10, 11, 12, 13, 20, 25, 33, 41, 49, 56, 65, 73, 85, 96, 133, 146, 148] c51_r15) (.cond (.t 69) (.seq (.reg [2, 5, 8, 12, 20, 25, 33, 41, 49, 56, 73, 96, 133, 146, 148] c51_r16) .ret) .skip)) (.seq (.reg [2, 5, 8, 9, 10, 11, 12, 20, 25, 33, 41, 49, 56, 65, 73, 85, 96, 133, 146, 148] c51_r17) (.seq (.reg [2, 5, 8, 9, 10, 12, 20, 25, 33, 41, 49, 56, 73, 85, 96, 133, 146, 148] c51_r18) (.reg [2, 5, 8, 9, 12, 20, 25, 33, 41, 49, 56, 73, 85, 96, 133, 146, 148] c51_r19))))))))) (.seq (.seq (.reg [2, 5, 8, 9, 10, 20, 25, 33, 41, 49, 56, 73, 85, 96, 133, 146, 148] c51_r20) (.cond (.t 91) (.seq (.reg [2, 5, 8, 10, 20, 25, 33, 41, 49, 56, 73, 96, 133, 146, 148] c51_r21) .ret) .skip)) (.seq (.seq (.reg [2, 5, 8, 9, 20, 25, 33, 41, 49, 56, 73, 85, 96, 133, 146, 148] c51_r22) (.block 2 (.loop [2, 5, 8, 9, 14, 20, 25, 33, 41, 49, 56, 73, 85, 96, 133, 146, 148] (.seq (.seq (.reg [2, 5, 8, 9, 14, 20, 25, 33, 41, 49, 56, 73, 85, 96, 133, 146, 148] c51_r23) (.cond (.t 102) .skip (.exit 2))) (.seq (.block 3 (.seq (.seq (.reg [2, 5, 8, 9, 14, 20, 25, 33, 41, 49, 56, 73, 85, 96, 133, 146, 148] c51_r25) (.block 4 (.loop [2, 5, 8, 9, 14, 15, 20, 25, 33, 41, 49, 56, 73, 85, 96, 133, 146, 148] (.seq (.seq (.reg [2, 5, 8, 9, 14, 15, 20, 25, 33, 41, 49, 56, 73, 85, 96, 133, 146, 148] c51_r26) (.cond (.t 106) .skip (.exit 4))) (.seq (.block 5 (.seq (.draw [2, 5, 8, 9, 14, 15, 20, 25, 33, 41, 49, 56, 73, 85, 96, 133, 146, 148] c51_r28) (.cond (.t 119) (.reg [2, 5, 8, 9, 14, 15, 20, 25, 33, 41, 49, 56, 73, 85, 96, 133, 146, 148] c51_r29) .skip))) (.reg [2, 5, 8, 9, 14, 15, 20, 25, 33, 41, 49, 56, 73, 85, 96, 133, 146, 148] c51_r27)))))) (.seq (.reg [2, 5, 8, 9, 14, 20, 25, 33, 41, 49, 56, 73, 85, 96, 133, 146, 148] c51_r30) (.cond (.t 132) (.seq (.draw [2, 5, 8, 9, 14, 20, 25, 33, 41, 49, 56, 73, 85, 96, 133, 146, 148] c51_r31) .ret) .skip)))) (.reg [2, 5, 8, 9, 14, 20, 25, 33, 41, 49, 56, 73, 85, 96, 133, 146, 148] c51_r24)))))) (.seq (.seq (.reg [2, 8, 25, 33, 41, 49, 56, 73, 96, 133, 146, 148] c51_r32) (.seq (.reg [2, 8, 16, 25, 33, 41, 49, 56, 73, 96, 133, 146, 148] c51_r33) (.cond (.t 145) (.seq (.reg [2, 8, 16, 25, 33, 41, 49, 56, 73, 96, 133, 146, 148] c51_r34) .ret) .skip))) (.seq (.reg [2, 8, 25, 33, 41, 49, 56, 73, 96, 133, 146, 148] c51_r35) .ret))))))))))))))
def d51 : FD := { nargs := 1, body := c51, res := [.cell 2 U27, .t 3, .t 4] }
-- slices.Contains[[]int,int]
def c52_r0 : List AI := [w 4 (.asg (.c .bool false))]
def c52_r1 : List AI := [w 5 (.mv (.t 0)),w 6 (.mv (.t 1)),w 7 (.call 79 [(.t 5), (.t 6)]),w 8 (.bin .geq (.t 7) (.c U2 0)),w 4 (.asg (.t 8))]
def c52 : AC := (.seq (.reg [0, 1] c52_r0) (.seq (.reg [0, 1] c52_r1) .ret))
def d52 : FD := { nargs := 2, body := c52, res := [.t 4] }
-- anceps/ancepsref11.order
def c57_r0 : List AI := [w 4 (.asg (.c U2 0))]
def c57_r1 : List AI := [w 5 (.mv (.t 0)),w 6 (.mv (.t 1)),w 7 (.bin .lss (.t 5) (.t 6))]
def c57_r2 : List AI := [w 4 (.asg (.c U2 (-1)))]
def c57_r3 : List AI := [w 8 (.mv (.t 0)),w 9 (.mv (.t 1)),w 10 (.bin .gtr (.t 8) (.t 9))]
def c57_r4 : List AI := [w 4 (.asg (.c U2 1))]
def c57_r5 : List AI := [w 4 (.asg (.c U2 0))]
def c57 : AC := (.seq (.reg [0, 1] c57_r0) (.seq (.seq (.reg [0, 1] c57_r1) (.cond (.t 7) (.seq (.reg [] c57_r2) .ret) .skip)) (.seq (.seq (.reg [0, 1] c57_r3) (.cond (.t 10) (.seq (.reg [] c57_r4) .ret) .skip)) (.seq (.reg [] c57_r5) .ret))))
def d57 : FD := { nargs := 2, body := c57, res := [.t 4] }
-- anceps/ancepsref11.Nucleus
def c71_r0 : List AI := [w 1 (.box U17 (.t 0)),w 2 (.asg (.c .bool false))]
def c71_r1 : List AI := [w 3 (.fieldAddr U17 [.l] (.t 1)),w 4 (.load U2 (.t 3)),w 5 (.bin .eql (.t 4) (.c U2 1)),w 6 (.mv (.t 5)),
  ⟨some 7, .fieldAddr U17 [.l] (.t 1), some (6, false)⟩,
  ⟨some 8, .load U2 (.t 7), some (6, false)⟩,
  ⟨some 9, .bin .eql (.t 8) (.c U2 2), some (6, false)⟩,
  w 10 (.pick (.t 6) (.c .bool true) (.t 9)),w 2 (.asg (.t 10))]
def c71 : AC := (.seq (.reg [0] c71_r0) (.seq (.reg [1] c71_r1) .ret))
def d71 : FD := { nargs := 1, body := c71, res := [.t 2] }
-- anceps/ancepsref11.letters
def c72_r0 : List AI := [w 0 (.asg (.c .str []))]
def c72_r1 : List AI := [w 0 (.asg (.c .str [32, 118, 100, 109, 108, 110, 115, 120, 103, 98]))]
def c72 : AC := (.seq (.reg [] c72_r0) (.seq (.reg [] c72_r1) .ret))
def d72 : FD := { nargs := 0, body := c72, res := [.t 0] }
-- anceps/ancepsref11.Valid
def c73_r0 : List AI := [w 1 (.box U17 (.t 0)),w 2 (.asg (.c U2 0))]
def c73_r1 : List AI := [w 5 (.fieldAddr U17 [.l] (.t 1)),w 6 (.load U2 (.t 5)),w 7 (.bin .lss (.t 6) (.c U2 1)),w 8 (.mv (.t 7)),
  ⟨some 9, .fieldAddr U17 [.l] (.t 1), some (8, false)⟩,
  ⟨some 10, .load U2 (.t 9), some (8, false)⟩,
  ⟨some 11, .bin .gtr (.t 10) (.c U2 9), some (8, false)⟩,
  w 12 (.pick (.t 8) (.c .bool true) (.t 11))]
def c73_r2 : List AI := [w 2 (.asg (.c U2 1))]
def c73_r3 : List AI := [w 13 (.fieldAddr U17 [.r, .l] (.t 1)),w 14 (.load U2 (.t 13)),w 15 (.bin .eql (.t 14) (.c U2 0)),w 3 (.asg (.t 15))]
def c73_r4 : List AI := [w 16 (.fieldAddr U17 [.l] (.t 1)),w 17 (.load U2 (.t 16)),w 18 (.bin .eql (.t 17) (.c U2 1))]
def c73_r5 : List AI := [w 19 (.fieldAddr U17 [.r, .l] (.t 1)),w 20 (.load U2 (.t 19)),w 21 (.bin .geq (.t 20) (.c U2 1)),w 22 (.mv (.t 21)),
  ⟨some 23, .fieldAddr U17 [.r, .l] (.t 1), some (22, true)⟩,
  ⟨some 24, .load U2 (.t 23), some (22, true)⟩,
  ⟨some 25, .bin .leq (.t 24) (.c U2 3), some (22, true)⟩,
  w 26 (.pick (.t 22) (.t 25) (.c .bool false)),w 3 (.asg (.t 26))]
def c73_r6 : List AI := [w 27 (.fieldAddr U17 [.l] (.t 1)),w 28 (.load U2 (.t 27)),w 29 (.bin .eql (.t 28) (.c U2 2))]
def c73_r7 : List AI := [w 30 (.fieldAddr U17 [.r, .l] (.t 1)),w 31 (.load U2 (.t 30)),w 32 (.bin .eql (.t 31) (.c U2 2)),w 3 (.asg (.t 32))]
def c73_r8 : List AI := [w 33 (.mv (.t 3)),w 34 (.un .not (.t 33))]
def c73_r9 : List AI := [w 2 (.asg (.c U2 6))]
def c73_r10 : List AI := [w 35 (.fieldAddr U17 [.r, .r, .l] (.t 1)),w 36 (.load .str (.t 35)),w 37 (.bin .eql (.t 36) (.c .str []))]
def c73_r11 : List AI := [w 2 (.asg (.c U2 7))]
def c73_r12 : List AI := [w 38 (.fieldAddr U17 [.r, .r, .l] (.t 1)),w 39 (.load .str (.t 38)),w 40 (.lenS (.t 39)),w 41 (.bin .gtr (.t 40) (.c U2 8))]
def c73_r13 : List AI := [w 2 (.asg (.c U2 3))]
def c73_r14 : List AI := [w 4 (.asg (.c U2 0))]
def c73_r15 : List AI := [w 42 (.mv (.t 4)),w 43 (.fieldAddr U17 [.r, .r, .l] (.t 1)),w 44 (.load .str (.t 43)),w 45 (.lenS (.t 44)),w 46 (.bin .lss (.t 42) (.t 45))]
def c73_r17 : List AI := [w 49 (.fieldAddr U17 [.r, .r, .l] (.t 1)),w 50 (.load .str (.t 49)),w 51 (.mv (.t 4)),w 52 (.indexS (.t 50) (.t 51)),w 53 (.call 88 [(.t 52)]),w 54 (.un .not (.t 53))]
def c73_r18 : List AI := [w 2 (.asg (.c U2 2))]
def c73_r16 : List AI := [w 47 (.mv (.t 4)),w 48 (.bin .add (.t 47) (.c U2 1)),w 4 (.asg (.t 48))]
def c73_r19 : List AI := [w 2 (.asg (.c U2 0))]
def c73 : AC := (.seq (.reg [0] c73_r0) (.seq (.seq (.reg [1] c73_r1) (.cond (.t 12) (.seq (.reg [] c73_r2) .ret) .skip)) (.seq (.reg [1] c73_r3) (.seq (.seq (.reg [1, 3] c73_r4) (.cond (.t 18) (.reg [1] c73_r5) .skip)) (.seq (.seq (.reg [1, 3] c73_r6) (.cond (.t 29) (.reg [1] c73_r7) .skip)) (.seq (.seq (.reg [1, 3] c73_r8) (.cond (.t 34) (.seq (.reg [] c73_r9) .ret) .skip)) (.seq (.seq (.reg [1] c73_r10) (.cond (.t 37) (.seq (.reg [] c73_r11) .ret) .skip)) (.seq (.seq (.reg [1] c73_r12) (.cond (.t 41) (.seq (.reg [] c73_r13) .ret) .skip)) (.seq (.seq (.reg [1] c73_r14) (.block 0 (.loop [1, 4] (.seq (.seq (.reg [1, 4] c73_r15) (.cond (.t 46) .skip (.exit 0))) (.seq (.block 1 (.seq (.reg [1, 4] c73_r17) (.cond (.t 54) (.seq (.reg [] c73_r18) .ret) .skip))) (.reg [1, 4] c73_r16)))))) (.seq (.reg [] c73_r19) .ret))))))))))
def d73 : FD := { nargs := 1, body := c73, res := [.t 2] }
-- anceps/ancepsref05.Tokens
def c74_r0 : List AI := [w 2 (.asg (.nil 105 U18)),w 3 (.asg (.c U2 0)),w 4 (.asg (.c U2 0))]
def c74_r1 : List AI := [w 11 (.mv (.t 0)),w 12 (.lenS (.t 11)),w 13 (.bin .gtr (.t 12) (.c U2 20000))]
def c74_r2 : List AI := [w 2 (.asg (.nil 105 U18)),w 3 (.asg (.c U2 0)),w 4 (.asg (.c U2 3))]
def c74_r3 : List AI := [w 5 (.asg (.nil 105 U18))]
def c74_r4 : List AI := [w 6 (.asg (.c U2 1))]
def c74_r5 : List AI := [w 7 (.asg (.c U2 0))]
def c74_r6 : List AI := [w 14 (.mv (.t 0)),w 15 (.mv (.t 7)),w 16 (.sliceS (.t 14) (some (.t 15)) none),w 17 (.call 89 [(.t 16)]),w 8 (.asg (.t 17))]
def c74_r7 : List AI := [w 18 (.mv (.t 6)),w 19 (.mv (.t 0)),w 20 (.mv (.t 7)),w 21 (.mv (.t 7)),w 22 (.mv (.t 8)),w 23 (.bin .add (.t 21) (.t 22)),w 24 (.sliceS (.t 19) (some (.t 20)) (some (.t 23))),w 25 (.call 90 [(.t 24)]),w 26 (.bin .add (.t 18) (.t 25)),w 6 (.asg (.t 26))]
def c74_r8 : List AI := [w 27 (.mv (.t 7)),w 28 (.mv (.t 8)),w 29 (.bin .add (.t 27) (.t 28)),w 7 (.asg (.t 29))]
def c74_r9 : List AI := [w 30 (.mv (.t 7)),w 31 (.mv (.t 0)),w 32 (.lenS (.t 31)),w 33 (.bin .eql (.t 30) (.t 32))]
def c74_r10 : List AI := [w 34 (.mv (.t 5)),w 2 (.asg (.t 34)),w 3 (.asg (.c U2 0)),w 4 (.asg (.c U2 0))]
def c74_r11 : List AI := [w 36 (.mv (.t 0)),w 37 (.mv (.t 7)),w 38 (.sliceS (.t 36) (some (.t 37)) none),w 39 (.call 91 [(.t 38)]),w 35 (.mv (.t 39)),w 40 (.extract 35 0),w 41 (.extract 35 1),w 42 (.extract 35 2),w 9 (.alloc U18 .no),
  ⟨none, .store U18 (.t 9) (.t 40), none⟩,
  w 8 (.asg (.t 41)),w 10 (.asg (.t 42))]
def c74_r12 : List AI := [w 43 (.mv (.t 10)),w 44 (.bin .neq (.t 43) (.c U2 0))]
def c74_r13 : List AI := [w 45 (.mv (.t 6)),w 46 (.mv (.t 10)),w 2 (.asg (.nil 105 U18)),w 3 (.asg (.t 45)),w 4 (.asg (.t 46))]
def c74_r14 : List AI := [w 47 (.mv (.t 6)),w 48 (.fieldAddr U18 [.r, .r, .l] (.t 9)),
  ⟨none, .store U2 (.t 48) (.t 47), none⟩]
def c74_r15 : List AI := [w 49 (.mv (.t 5)),w 50 (.load U18 (.t 9)),w 51 (.buildSlice 105 U18 [(.t 50)]),w 52 (.append 105 U18 4398046511104 (.t 49) (.t 51)),w 5 (.asg (.t 52))]
def c74_r16 : List AI := [w 53 (.mv (.t 7)),w 54 (.mv (.t 8)),w 55 (.bin .add (.t 53) (.t 54)),w 7 (.asg (.t 55))]
def c74 : AC := (.seq (.reg [0] c74_r0) (.seq (.seq (.reg [0] c74_r1) (.cond (.t 13) (.seq (.reg [] c74_r2) .ret) .skip)) (.seq (.reg [0] c74_r3) (.seq (.reg [0, 5, 52] c74_r4) (.seq (.reg [0, 5, 6, 52] c74_r5) (.block 0 (.loop [0, 5, 6, 7, 52] (.block 1 (.seq (.reg [0, 5, 6, 7, 52] c74_r6) (.seq (.reg [0, 5, 6, 7, 8, 52] c74_r7) (.seq (.reg [0, 5, 6, 7, 8, 52] c74_r8) (.seq (.seq (.reg [0, 5, 6, 7, 52] c74_r9) (.cond (.t 33) (.seq (.reg [5, 52] c74_r10) .ret) .skip)) (.seq (.reg [0, 5, 6, 7, 52] c74_r11) (.seq (.seq (.reg [0, 5, 6, 7, 8, 9, 10, 40, 52] c74_r12) (.cond (.t 44) (.seq (.reg [6, 10] c74_r13) .ret) .skip)) (.seq (.reg [0, 5, 6, 7, 8, 9, 40, 52] c74_r14) (.seq (.reg [0, 5, 6, 7, 8, 9, 40, 52] c74_r15) (.reg [0, 5, 6, 7, 8, 52] c74_r16)))))))))))))))))
def d74 : FD := { nargs := 1, body := c74, res := [.t 2, .t 3, .t 4] }
-- anceps/ancepsref17.is
def c75_r0 : List AI := [w 8 (.asg (.c .bool false))]
def c75_r1 : List AI := [w 9 (.mv (.t 1)),w 10 (.mv (.t 0)),w 11 (.lenL (.t 10)),w 12 (.bin .lss (.t 9) (.t 11)),w 13 (.mv (.t 12)),
  ⟨some 14, .mv (.t 0), some (13, true)⟩,
  ⟨some 15, .mv (.t 1), some (13, true)⟩,
  ⟨some 16, .indexAddr U18 (.t 14) (.t 15), some (13, true)⟩,
  ⟨some 17, .fieldAddr U18 [.l] (.t 16), some (13, true)⟩,
  ⟨some 18, .load U2 (.t 17), some (13, true)⟩,
  ⟨some 19, .mv (.t 2), some (13, true)⟩,
  ⟨some 20, .bin .eql (.t 18) (.t 19), some (13, true)⟩,
  w 21 (.pick (.t 13) (.t 20) (.c .bool false)),w 22 (.mv (.t 21)),
  ⟨some 23, .mv (.t 3), some (22, true)⟩,
  ⟨some 24, .bin .eql (.t 23) (.c .str []), some (22, true)⟩,
  ⟨some 25, .mv (.t 24), some (22, true)⟩,
  ⟨some 26, .mv (.t 0), some (25, false)⟩,
  ⟨some 27, .mv (.t 1), some (25, false)⟩,
  ⟨some 28, .indexAddr U18 (.t 26) (.t 27), some (25, false)⟩,
  ⟨some 29, .fieldAddr U18 [.r, .l] (.t 28), some (25, false)⟩,
  ⟨some 30, .load .str (.t 29), some (25, false)⟩,
  ⟨some 31, .mv (.t 3), some (25, false)⟩,
  ⟨some 32, .bin .eql (.t 30) (.t 31), some (25, false)⟩,
  ⟨some 33, .pick (.t 25) (.c .bool true) (.t 32), some (22, true)⟩,
  w 34 (.pick (.t 22) (.t 33) (.c .bool false)),w 8 (.asg (.t 34))]
def c75 : AC := (.seq (.reg [0, 1, 2, 3] c75_r0) (.seq (.reg [0, 1, 2, 3] c75_r1) .ret))
def d75 : FD := { nargs := 4, body := c75, res := [.t 8] }
-- anceps/ancepsref17.fails
def c76_r0 : List AI := [w 4 (.alloc U27 .no),w 5 (.asg (.c U2 0)),w 6 (.asg (.c U2 0))]
def c76_r1 : List AI := [w 7 (.mv (.t 1)),w 8 (.mv (.t 0)),w 9 (.lenL (.t 8)),w 10 (.bin .lss (.t 7) (.t 9))]
def c76_r2 : List DI := [{ ai := w 11 (.build U27 []), hide := [12, 13, 14, 15, 16], wr := [11], pre := [] },
  { ai := w 12 (.mv (.t 0)), hide := [4, 11, 13], wr := [12], pre := [] },
  { ai := w 13 (.mv (.t 1)), hide := [4, 11, 12], wr := [13], pre := [] },
  { ai := w 14 (.indexAddr U18 (.t 12) (.t 13)), hide := [4, 11], wr := [14], pre := [1, 2] },
  { ai := w 15 (.fieldAddr U18 [.r, .r, .l] (.t 14)), hide := [4, 11], wr := [15], pre := [1, 2, 3] },
  { ai := w 16 (.load U2 (.t 15)), hide := [4, 11], wr := [16], pre := [1, 2, 3, 4] },
  { ai := ⟨none, .store U27 (.t 4) (.t 11), none⟩, hide := [12, 13, 14, 15, 16], wr := [4], pre := [0] },
  { ai := w 5 (.asg (.t 16)), hide := [], wr := [5], pre := [0, 1, 2, 3, 4, 5, 6] },
  { ai := w 6 (.asg (.c U2 2)), hide := [], wr := [6], pre := [0, 1, 2, 3, 4, 5, 6, 7] }]
def c76_r3 : List AI := [w 17 (.mv (.t 0)),w 18 (.lenL (.t 17)),w 19 (.bin .gtr (.t 18) (.c U2 0))]
def c76_r4 : List DI := [{ ai := w 20 (.build U27 []), hide := [21, 22, 23, 24, 25, 26, 27], wr := [20], pre := [] },
  { ai := w 21 (.mv (.t 0)), hide := [4, 20, 22, 23, 24], wr := [21], pre := [] },
  { ai := w 22 (.mv (.t 0)), hide := [4, 20, 21], wr := [22], pre := [] },
  { ai := w 23 (.lenL (.t 22)), hide := [4, 20, 21], wr := [23], pre := [2] },
  { ai := w 24 (.bin .sub (.t 23) (.c U2 1)), hide := [4, 20, 21], wr := [24], pre := [2, 3] },
  { ai := w 25 (.indexAddr U18 (.t 21) (.t 24)), hide := [4, 20], wr := [25], pre := [1, 2, 3, 4] },
  { ai := w 26 (.fieldAddr U18 [.r, .r, .l] (.t 25)), hide := [4, 20], wr := [26], pre := [1, 2, 3, 4, 5] },
  { ai := w 27 (.load U2 (.t 26)), hide := [4, 20], wr := [27], pre := [1, 2, 3, 4, 5, 6] },
  { ai := ⟨none, .store U27 (.t 4) (.t 20), none⟩, hide := [21, 22, 23, 24, 25, 26, 27], wr := [4], pre := [0] },
  { ai := w 5 (.asg (.t 27)), hide := [], wr := [5], pre := [0, 1, 2, 3, 4, 5, 6, 7, 8] },
  { ai := w 6 (.asg (.c U2 2)), hide := [], wr := [6], pre := [0, 1, 2, 3, 4, 5, 6, 7, 8, 9] }]
def c76_r5 : List AI := [w 28 (.buildN U27 (.pair .no (.pair (.own true 67 .no) .no)) []),
  ⟨none, .store U27 (.t 4) (.t 28), none⟩,
  w 5 (.asg (.c U2 1)),w 6 (.asg (.c U2 2))]
def c76 : AC := (.seq (.reg [0, 1] c76_r0) (.seq (.seq (.reg [0, 1, 4, 11, 20, 28] c76_r1) (.cond (.t 10) (.seq (.draw [0, 1, 4, 11, 20, 28] c76_r2) .ret) .skip)) (.seq (.seq (.reg [0, 4, 11, 20, 28] c76_r3) (.cond (.t 19) (.seq (.draw [0, 4, 11, 20, 28] c76_r4) .ret) .skip)) (.seq (.reg [4, 11, 20, 28] c76_r5) .ret))))
def d76 : FD := { nargs := 2, body := c76, res := [.cell 4 U27, .t 5, .t 6] }
-- anceps/ancepsref17.parsed
def c77_r0 : List AI := [w 4 (.alloc U20 (.pair .no (.pair .no (.pair (.own true 9 .no) .no)))),w 5 (.asg (.c U2 0)),w 6 (.asg (.c .bool false))]
def c77_r1 : List AI := [w 7 (.alloc U20 (.pair .no (.pair .no (.pair (.own true 9 .no) .no))))]
def c77_r2 : List AI := [w 8 (.mv (.t 0)),w 9 (.mv (.t 1)),w 10 (.call 75 [(.t 8), (.t 9), (.c U2 1), (.c .str [])]),w 11 (.un .not (.t 10))]
def c77_r3 : List AI := [w 12 (.load U20 (.t 7)),w 13 (.mv (.t 1)),
  ⟨none, .store U20 (.t 4) (.t 12), none⟩,
  w 5 (.asg (.t 13)),w 6 (.asg (.c .bool false))]
def c77_r4 : List AI := [w 14 (.mv (.t 0)),w 15 (.mv (.t 1)),w 16 (.bin .add (.t 15) (.c U2 1)),w 17 (.call 75 [(.t 14), (.t 16), (.c U2 2), (.c .str [])]),w 18 (.un .not (.t 17))]
def c77_r5 : List AI := [w 19 (.load U20 (.t 7)),w 20 (.mv (.t 1)),w 21 (.bin .add (.t 20) (.c U2 1)),
  ⟨none, .store U20 (.t 4) (.t 19), none⟩,
  w 5 (.asg (.t 21)),w 6 (.asg (.c .bool false))]
def c77_r6 : List AI := [w 23 (.mv (.t 0)),w 24 (.mv (.t 1)),w 25 (.bin .add (.t 24) (.c U2 1)),w 26 (.indexAddr U18 (.t 23) (.t 25)),w 27 (.fieldAddr U18 [.r, .l] (.t 26)),w 28 (.load .str (.t 27)),w 29 (.call 92 [(.t 28)]),w 22 (.mv (.t 29)),w 30 (.extract 22 0),w 31 (.extract 22 1),w 32 (.fieldAddr U20 [.r, .l] (.t 7)),
  ⟨none, .store U2 (.t 32) (.t 30), none⟩]
def c77_r7 : List AI := [w 33 (.mv (.t 1)),w 34 (.bin .add (.t 33) (.c U2 2)),w 1 (.asg (.t 34))]
def c77_r8 : List AI := [w 35 (.mv (.t 0)),w 36 (.mv (.t 1)),w 37 (.call 75 [(.t 35), (.t 36), (.c U2 1), (.c .str [105, 110])])]
def c77_r9 : List AI := [w 38 (.mv (.t 0)),w 39 (.mv (.t 1)),w 40 (.bin .add (.t 39) (.c U2 1)),w 41 (.call 75 [(.t 38), (.t 40), (.c U2 3), (.c .str [])]),w 42 (.un .not (.t 41))]
def c77_r10 : List AI := [w 43 (.load U20 (.t 7)),w 44 (.mv (.t 1)),w 45 (.bin .add (.t 44) (.c U2 1)),
  ⟨none, .store U20 (.t 4) (.t 43), none⟩,
  w 5 (.asg (.t 45)),w 6 (.asg (.c .bool false))]
def c77_r11 : List DI := [{ ai := w 46 (.fieldAddr U20 [.r, .r, .l] (.t 7)), hide := [48, 49, 50, 51, 52, 53, 54], wr := [46], pre := [] },
  { ai := w 47 (.load U0 (.t 46)), hide := [48, 49, 50, 51, 52, 53, 54], wr := [47], pre := [0] },
  { ai := w 48 (.mv (.t 0)), hide := [46, 47, 49, 50], wr := [48], pre := [] },
  { ai := w 49 (.mv (.t 1)), hide := [46, 47, 48], wr := [49], pre := [] },
  { ai := w 50 (.bin .add (.t 49) (.c U2 1)), hide := [46, 47, 48], wr := [50], pre := [3] },
  { ai := w 51 (.indexAddr U18 (.t 48) (.t 50)), hide := [46, 47], wr := [51], pre := [2, 3, 4] },
  { ai := w 52 (.fieldAddr U18 [.r, .l] (.t 51)), hide := [46, 47], wr := [52], pre := [2, 3, 4, 5] },
  { ai := w 53 (.load .str (.t 52)), hide := [46, 47], wr := [53], pre := [2, 3, 4, 5, 6] },
  { ai := w 54 (.buildSlice 9 .str [(.t 53)]), hide := [46, 47], wr := [54], pre := [2, 3, 4, 5, 6, 7] },
  { ai := w 55 (.append 9 .str 8796093022208 (.t 47) (.t 54)), hide := [], wr := [55], pre := [0, 1, 2, 3, 4, 5, 6, 7, 8], piv := true },
  { ai := w 56 (.fieldAddr U20 [.r, .r, .l] (.t 7)), hide := [], wr := [56], pre := [0, 1, 2, 3, 4, 5, 6, 7, 8, 9] },
  { ai := ⟨none, .store U0 (.t 56) (.t 55), none⟩, hide := [], wr := [7, 56], pre := [0, 1, 2, 3, 4, 5, 6, 7, 8, 9, 10], piv := true }]
def c77_r12 : List AI := [w 57 (.mv (.t 1)),w 58 (.bin .add (.t 57) (.c U2 2)),w 1 (.asg (.t 58))]
def c77_r13 : List AI := [w 59 (.mv (.t 0)),w 60 (.mv (.t 1)),w 61 (.call 75 [(.t 59), (.t 60), (.c U2 4), (.c .str [44])]),w 62 (.un .not (.t 61))]
def c77_r14 : List AI := [w 63 (.mv (.t 0)),w 64 (.mv (.t 1)),w 65 (.call 75 [(.t 63), (.t 64), (.c U2 4), (.c .str [59])]),w 66 (.un .not (.t 65))]
def c77_r15 : List AI := [w 67 (.load U20 (.t 7)),w 68 (.mv (.t 1)),
  ⟨none, .store U20 (.t 4) (.t 67), none⟩,
  w 5 (.asg (.t 68)),w 6 (.asg (.c .bool false))]
def c77_r16 : List AI := [w 69 (.load U20 (.t 7)),w 70 (.mv (.t 1)),w 71 (.bin .add (.t 70) (.c U2 1)),
  ⟨none, .store U20 (.t 4) (.t 69), none⟩,
  w 5 (.asg (.t 71)),w 6 (.asg (.c .bool true))]
def c77 : AC := (.seq (.reg [0, 1] c77_r0) (.seq (.reg [0, 1, 4, 7, 12, 19, 43, 67, 69] c77_r1) (.seq (.seq (.reg [0, 1, 4, 7, 12, 19, 43, 67, 69] c77_r2) (.cond (.t 11) (.seq (.reg [1, 4, 7, 12, 19, 43, 67, 69] c77_r3) .ret) .skip)) (.seq (.seq (.reg [0, 1, 4, 7, 12, 19, 43, 67, 69] c77_r4) (.cond (.t 18) (.seq (.reg [1, 4, 7, 12, 19, 43, 67, 69] c77_r5) .ret) .skip)) (.seq (.reg [0, 1, 4, 7, 12, 19, 43, 67, 69] c77_r6) (.seq (.reg [0, 1, 4, 7, 12, 19, 43, 67, 69] c77_r7) (.seq (.seq (.reg [0, 1, 4, 7, 12, 19, 43, 67, 69] c77_r8) (.cond (.t 37) (.block 0 (.loop [0, 1, 4, 7, 12, 19, 43, 67, 69] (.block 1 (.seq (.seq (.reg [0, 1, 4, 7, 12, 19, 43, 67, 69] c77_r9) (.cond (.t 42) (.seq (.reg [1, 4, 7, 12, 19, 43, 67, 69] c77_r10) .ret) .skip)) (.seq (.draw [0, 1, 4, 7, 12, 19, 43, 67, 69] c77_r11) (.seq (.reg [0, 1, 4, 7, 12, 19, 43, 67, 69] c77_r12) (.seq (.reg [0, 1, 4, 7, 12, 19, 43, 67, 69] c77_r13) (.cond (.t 62) (.exit 0) .skip)))))))) .skip)) (.seq (.seq (.reg [0, 1, 4, 7, 12, 19, 43, 67, 69] c77_r14) (.cond (.t 66) (.seq (.reg [1, 4, 7, 12, 19, 43, 67, 69] c77_r15) .ret) .skip)) (.seq (.reg [1, 4, 7, 12, 19, 43, 67, 69] c77_r16) .ret)))))))))
def d77 : FD := { nargs := 2, body := c77, res := [.cell 4 U20, .t 5, .t 6] }
-- anceps/ancepsref16.Kind
def c78_r0 : List AI := [w 2 (.asg (.c .str []))]
def c78_r1 : List AI := [w 3 (.mv (.t 0)),w 4 (.bin .lss (.t 3) (.c U2 1)),w 5 (.mv (.t 4)),
  ⟨some 6, .mv (.t 0), some (5, false)⟩,
  ⟨some 7, .bin .gtr (.t 6) (.c U2 12), some (5, false)⟩,
  w 8 (.pick (.t 5) (.c .bool true) (.t 7))]
def c78_r2 : List AI := [w 2 (.asg (.c .str []))]
def c78_r3 : List AI := [w 9 (.buildSlice 9 .str [(.c .str [109, 117, 116, 101]), (.c .str [110, 101, 120, 116]), (.c .str [98, 114, 101, 118, 105, 115]), (.c .str [105, 110, 100, 105, 102, 102, 101, 114, 101, 110, 116]), (.c .str [108, 101, 110, 103, 116, 104, 101, 110]), (.c .str [115, 104, 111, 114, 116, 101, 110]), (.c .str [115, 121, 110, 105, 122, 101, 115, 105, 115]), (.c .str [101, 108, 105, 115, 105, 111, 110]), (.c .str [101, 99, 116, 104, 108, 105, 112, 115, 105, 115]), (.c .str [112, 114, 111, 100, 101, 108, 105, 115, 105, 111, 110]), (.c .str [104, 105, 97, 116, 117, 115]), (.c .str [99, 111, 114, 114, 101, 112, 116, 105, 111, 110])]),w 10 (.mv (.t 0)),w 11 (.bin .sub (.t 10) (.c U2 1)),w 12 (.indexAddr .str (.t 9) (.t 11)),w 13 (.load .str (.t 12)),w 2 (.asg (.t 13))]
def c78 : AC := (.seq (.reg [0] c78_r0) (.seq (.seq (.reg [0] c78_r1) (.cond (.t 8) (.seq (.reg [] c78_r2) .ret) .skip)) (.seq (.reg [0] c78_r3) .ret)))
def d78 : FD := { nargs := 1, body := c78, res := [.t 2] }
-- slices.Index[[]int,int]
def c79_r0 : List AI := [w 4 (.asg (.c U2 0))]
def c79_r1 : List AI := [w 6 (.mv (.t 0)),w 7 (.lenL (.t 6)),w 8 (.mv (.c U2 0))]
def c79_r2 : List AI := [w 9 (.bin .lss (.t 8) (.t 7))]
def c79_r3 : List AI := [w 10 (.mv (.t 8)),w 5 (.asg (.t 10))]
def c79_r4 : List AI := [w 11 (.mv (.t 1)),w 12 (.mv (.t 0)),w 13 (.mv (.t 5)),w 14 (.indexAddr U2 (.t 12) (.t 13)),w 15 (.load U2 (.t 14)),w 16 (.bin .eql (.t 11) (.t 15))]
def c79_r5 : List AI := [w 17 (.mv (.t 5)),w 4 (.asg (.t 17))]
def c79_r6 : List AI := [w 18 (.bin .add (.t 8) (.c U2 1)),w 8 (.mv (.t 18))]
def c79_r7 : List AI := [w 4 (.asg (.c U2 (-1)))]
def c79 : AC := (.seq (.reg [0, 1] c79_r0) (.seq (.seq (.reg [0, 1] c79_r1) (.block 0 (.loop [0, 1, 7, 8] (.seq (.reg [0, 1, 7, 8] c79_r2) (.seq (.cond (.t 9) .skip (.exit 0)) (.seq (.block 1 (.seq (.reg [0, 1, 7, 8] c79_r3) (.seq (.reg [0, 1, 5, 7, 8] c79_r4) (.cond (.t 16) (.seq (.reg [5] c79_r5) .ret) .skip)))) (.reg [0, 1, 7, 8] c79_r6))))))) (.seq (.reg [] c79_r7) .ret)))
def d79 : FD := { nargs := 2, body := c79, res := [.t 4] }
-- anceps/ancepsref11.letter
def c88_r0 : List AI := [w 2 (.asg (.c .bool false))]
def c88_r1 : List AI := [w 3 (.mv (.t 0)),w 4 (.bin .geq (.t 3) (.c U1 97)),w 5 (.mv (.t 4)),
  ⟨some 6, .mv (.t 0), some (5, true)⟩,
  ⟨some 7, .bin .leq (.t 6) (.c U1 122), some (5, true)⟩,
  w 8 (.pick (.t 5) (.t 7) (.c .bool false)),w 9 (.mv (.t 8)),
  ⟨some 10, .mv (.t 0), some (9, false)⟩,
  ⟨some 11, .bin .geq (.t 10) (.c U1 48), some (9, false)⟩,
  ⟨some 12, .mv (.t 11), some (9, false)⟩,
  ⟨some 13, .mv (.t 0), some (12, true)⟩,
  ⟨some 14, .bin .leq (.t 13) (.c U1 57), some (12, true)⟩,
  ⟨some 15, .pick (.t 12) (.t 14) (.c .bool false), some (9, false)⟩,
  w 16 (.pick (.t 9) (.c .bool true) (.t 15)),w 17 (.mv (.t 16)),
  ⟨some 18, .mv (.t 0), some (17, false)⟩,
  ⟨some 19, .bin .eql (.t 18) (.c U1 95), some (17, false)⟩,
  w 20 (.pick (.t 17) (.c .bool true) (.t 19)),w 21 (.mv (.t 20)),
  ⟨some 22, .mv (.t 0), some (21, false)⟩,
  ⟨some 23, .bin .eql (.t 22) (.c U1 94), some (21, false)⟩,
  w 24 (.pick (.t 21) (.c .bool true) (.t 23)),w 25 (.mv (.t 24)),
  ⟨some 26, .mv (.t 0), some (25, false)⟩,
  ⟨some 27, .bin .eql (.t 26) (.c U1 39), some (25, false)⟩,
  w 28 (.pick (.t 25) (.c .bool true) (.t 27)),w 2 (.asg (.t 28))]
def c88 : AC := (.seq (.reg [0] c88_r0) (.seq (.reg [0] c88_r1) .ret))
def d88 : FD := { nargs := 1, body := c88, res := [.t 2] }
-- anceps/ancepsref05.space
def c89_r0 : List AI := [w 2 (.asg (.c U2 0))]
def c89_r1 : List AI := [w 3 (.asg (.c U2 0))]
def c89_r2 : List AI := [w 4 (.mv (.t 3)),w 5 (.mv (.t 0)),w 6 (.lenS (.t 5)),w 7 (.bin .lss (.t 4) (.t 6))]
def c89_r3 : List AI := [w 8 (.mv (.t 0)),w 9 (.mv (.t 3)),w 10 (.indexS (.t 8) (.t 9))]
def c89_r5 : List AI := [w 13 (.bin .eql (.t 10) (.c U1 32)),w 12 (.asg (.t 13))]
def c89_r6 : List AI := [w 14 (.bin .eql (.t 10) (.c U1 9)),w 12 (.asg (.t 14))]
def c89_r7 : List AI := [w 15 (.bin .eql (.t 10) (.c U1 10)),w 12 (.asg (.t 15))]
def c89_r8 : List AI := [w 16 (.bin .eql (.t 10) (.c U1 13)),w 12 (.asg (.t 16))]
def c89_r9 : List AI := [w 17 (.mv (.t 3)),w 18 (.bin .add (.t 17) (.c U2 1)),w 3 (.asg (.t 18))]
def c89_r10 : List AI := [w 20 (.bin .eql (.t 10) (.c U1 35)),w 19 (.asg (.t 20))]
def c89_r11 : List AI := [w 21 (.mv (.t 3)),w 22 (.mv (.t 0)),w 23 (.lenS (.t 22)),w 24 (.bin .lss (.t 21) (.t 23)),w 25 (.mv (.t 24)),
  ⟨some 26, .mv (.t 0), some (25, true)⟩,
  ⟨some 27, .mv (.t 3), some (25, true)⟩,
  ⟨some 28, .indexS (.t 26) (.t 27), some (25, true)⟩,
  ⟨some 29, .bin .neq (.t 28) (.c U1 10), some (25, true)⟩,
  w 30 (.pick (.t 25) (.t 29) (.c .bool false))]
def c89_r12 : List AI := [w 31 (.mv (.t 3)),w 32 (.bin .add (.t 31) (.c U2 1)),w 3 (.asg (.t 32))]
def c89_r4 : List AI := [w 11 (.mv (.t 3)),w 2 (.asg (.t 11))]
def c89_r13 : List AI := [w 33 (.mv (.t 3)),w 2 (.asg (.t 33))]
def c89 : AC := (.seq (.reg [0] c89_r0) (.seq (.reg [0] c89_r1) (.seq (.block 0 (.loop [0, 3] (.seq (.seq (.reg [0, 3] c89_r2) (.cond (.t 7) .skip (.exit 0))) (.block 1 (.seq (.reg [0, 3] c89_r3) (.block 2 (.seq (.seq (.reg [0, 3, 10] c89_r5) (.cond (.t 12) .skip (.seq (.reg [0, 3, 10] c89_r6) (.cond (.t 12) .skip (.seq (.reg [0, 3, 10] c89_r7) (.cond (.t 12) .skip (.reg [0, 3, 10] c89_r8))))))) (.cond (.t 12) (.reg [0, 3] c89_r9) (.seq (.reg [0, 3, 10] c89_r10) (.cond (.t 19) (.block 3 (.loop [0, 3] (.seq (.seq (.reg [0, 3] c89_r11) (.cond (.t 30) .skip (.exit 3))) (.block 4 (.reg [0, 3] c89_r12))))) (.seq (.reg [3] c89_r4) .ret))))))))))) (.seq (.reg [3] c89_r13) .ret))))
def d89 : FD := { nargs := 1, body := c89, res := [.t 2] }
-- anceps/ancepsref05.feeds
def c90_r0 : List AI := [w 2 (.asg (.c U2 0))]
def c90_r1 : List AI := [w 3 (.asg (.c U2 0))]
def c90_r2 : List AI := [w 4 (.asg (.c U2 0))]
def c90_r3 : List AI := [w 5 (.mv (.t 4)),w 6 (.mv (.t 0)),w 7 (.lenS (.t 6)),w 8 (.bin .lss (.t 5) (.t 7))]
def c90_r5 : List AI := [w 11 (.mv (.t 0)),w 12 (.mv (.t 4)),w 13 (.indexS (.t 11) (.t 12)),w 14 (.bin .eql (.t 13) (.c U1 10))]
def c90_r6 : List AI := [w 15 (.mv (.t 3)),w 16 (.bin .add (.t 15) (.c U2 1)),w 3 (.asg (.t 16))]
def c90_r4 : List AI := [w 9 (.mv (.t 4)),w 10 (.bin .add (.t 9) (.c U2 1)),w 4 (.asg (.t 10))]
def c90_r7 : List AI := [w 17 (.mv (.t 3)),w 2 (.asg (.t 17))]
def c90 : AC := (.seq (.reg [0] c90_r0) (.seq (.reg [0] c90_r1) (.seq (.seq (.reg [0, 3] c90_r2) (.block 0 (.loop [0, 3, 4] (.seq (.seq (.reg [0, 3, 4] c90_r3) (.cond (.t 8) .skip (.exit 0))) (.seq (.block 1 (.seq (.reg [0, 3, 4] c90_r5) (.cond (.t 14) (.reg [0, 3, 4] c90_r6) .skip))) (.reg [0, 3, 4] c90_r4)))))) (.seq (.reg [3] c90_r7) .ret))))
def d90 : FD := { nargs := 1, body := c90, res := [.t 2] }
-- anceps/ancepsref05.next
def c91_r0 : List AI := [w 2 (.alloc U18 .no),w 3 (.asg (.c U2 0)),w 4 (.asg (.c U2 0))]
def c91_r1 : List AI := [w 7 (.mv (.t 0)),w 8 (.call 86 [(.t 7)]),w 5 (.asg (.t 8))]
def c91_r2 : List AI := [w 9 (.mv (.t 5)),w 10 (.bin .gtr (.t 9) (.c U2 0))]
def c91_r3 : List AI := [w 11 (.mv (.t 5)),w 12 (.bin .gtr (.t 11) (.c U2 20))]
def c91_r4 : List AI := [w 13 (.build U18 []),
  ⟨none, .store U18 (.t 2) (.t 13), none⟩,
  w 3 (.asg (.c U2 0)),w 4 (.asg (.c U2 3))]
def c91_r5 : List AI := [w 14 (.mv (.t 0)),w 15 (.mv (.t 5)),w 16 (.sliceS (.t 14) none (some (.t 15))),w 17 (.build U18 [([.l], (.c U2 1)), ([.r, .l], (.t 16))]),w 18 (.mv (.t 5)),
  ⟨none, .store U18 (.t 2) (.t 17), none⟩,
  w 3 (.asg (.t 18)),w 4 (.asg (.c U2 0))]
def c91_r6 : List AI := [w 19 (.mv (.t 0)),w 20 (.call 104 [(.t 19)]),w 6 (.asg (.t 20))]
def c91_r7 : List AI := [w 21 (.mv (.t 6)),w 22 (.bin .gtr (.t 21) (.c U2 0))]
def c91_r8 : List AI := [w 23 (.mv (.t 6)),w 24 (.bin .gtr (.t 23) (.c U2 6))]
def c91_r9 : List AI := [w 25 (.build U18 []),
  ⟨none, .store U18 (.t 2) (.t 25), none⟩,
  w 3 (.asg (.c U2 0)),w 4 (.asg (.c U2 3))]
def c91_r10 : List AI := [w 26 (.mv (.t 0)),w 27 (.indexS (.t 26) (.c U2 0)),w 28 (.bin .eql (.t 27) (.c U1 48)),w 29 (.mv (.t 28)),
  ⟨some 30, .mv (.t 6), some (29, true)⟩,
  ⟨some 31, .bin .gtr (.t 30) (.c U2 1), some (29, true)⟩,
  w 32 (.pick (.t 29) (.t 31) (.c .bool false))]
def c91_r11 : List AI := [w 33 (.build U18 []),
  ⟨none, .store U18 (.t 2) (.t 33), none⟩,
  w 3 (.asg (.c U2 0)),w 4 (.asg (.c U2 2))]
def c91_r12 : List AI := [w 34 (.mv (.t 0)),w 35 (.mv (.t 6)),w 36 (.sliceS (.t 34) none (some (.t 35))),w 37 (.build U18 [([.l], (.c U2 2)), ([.r, .l], (.t 36))]),w 38 (.mv (.t 6)),
  ⟨none, .store U18 (.t 2) (.t 37), none⟩,
  w 3 (.asg (.t 38)),w 4 (.asg (.c U2 0))]
def c91_r13 : List AI := [w 39 (.mv (.t 0)),w 40 (.indexS (.t 39) (.c U2 0)),w 41 (.bin .eql (.t 40) (.c U1 34))]
def c91_r14 : List AI := [w 42 (.mv (.t 0)),w 43 (.call 105 [(.t 42)]),w 44 (.extract 43 0),w 45 (.extract 43 1),w 46 (.extract 43 2),
  ⟨none, .store U18 (.t 2) (.t 44), none⟩,
  w 3 (.asg (.t 45)),w 4 (.asg (.t 46))]
def c91_r15 : List AI := [w 47 (.mv (.t 0)),w 48 (.indexS (.t 47) (.c U2 0)),w 49 (.call 106 [(.t 48)])]
def c91_r16 : List AI := [w 50 (.mv (.t 0)),w 51 (.sliceS (.t 50) none (some (.c U2 1))),w 52 (.build U18 [([.l], (.c U2 4)), ([.r, .l], (.t 51))]),
  ⟨none, .store U18 (.t 2) (.t 52), none⟩,
  w 3 (.asg (.c U2 1)),w 4 (.asg (.c U2 0))]
def c91_r17 : List AI := [w 53 (.build U18 []),
  ⟨none, .store U18 (.t 2) (.t 53), none⟩,
  w 3 (.asg (.c U2 0)),w 4 (.asg (.c U2 2))]
def c91 : AC := (.seq (.reg [0] c91_r0) (.seq (.seq (.reg [0, 2, 13, 17, 25, 33, 37, 44, 52, 53] c91_r1) (.seq (.reg [0, 2, 5, 13, 17, 25, 33, 37, 44, 52, 53] c91_r2) (.cond (.t 10) (.seq (.seq (.reg [0, 2, 5, 13, 17, 25, 33, 37, 44, 52, 53] c91_r3) (.cond (.t 12) (.seq (.reg [2, 13, 17, 25, 33, 37, 44, 52, 53] c91_r4) .ret) .skip)) (.seq (.reg [0, 2, 5, 13, 17, 25, 33, 37, 44, 52, 53] c91_r5) .ret)) .skip))) (.seq (.seq (.reg [0, 2, 13, 17, 25, 33, 37, 44, 52, 53] c91_r6) (.seq (.reg [0, 2, 6, 13, 17, 25, 33, 37, 44, 52, 53] c91_r7) (.cond (.t 22) (.seq (.seq (.reg [0, 2, 6, 13, 17, 25, 33, 37, 44, 52, 53] c91_r8) (.cond (.t 24) (.seq (.reg [2, 13, 17, 25, 33, 37, 44, 52, 53] c91_r9) .ret) .skip)) (.seq (.seq (.reg [0, 2, 6, 13, 17, 25, 33, 37, 44, 52, 53] c91_r10) (.cond (.t 32) (.seq (.reg [2, 13, 17, 25, 33, 37, 44, 52, 53] c91_r11) .ret) .skip)) (.seq (.reg [0, 2, 6, 13, 17, 25, 33, 37, 44, 52, 53] c91_r12) .ret))) .skip))) (.seq (.seq (.reg [0, 2, 13, 17, 25, 33, 37, 44, 52, 53] c91_r13) (.cond (.t 41) (.seq (.reg [0, 2, 13, 17, 25, 33, 37, 44, 52, 53] c91_r14) .ret) .skip)) (.seq (.seq (.reg [0, 2, 13, 17, 25, 33, 37, 44, 52, 53] c91_r15) (.cond (.t 49) (.seq (.reg [0, 2, 13, 17, 25, 33, 37, 44, 52, 53] c91_r16) .ret) .skip)) (.seq (.reg [2, 13, 17, 25, 33, 37, 44, 52, 53] c91_r17) .ret))))))
def d91 : FD := { nargs := 1, body := c91, res := [.cell 2 U18, .t 3, .t 4] }
-- anceps/ancepsref05.Number
def c92_r0 : List AI := [w 2 (.asg (.c U2 0)),w 3 (.asg (.c .bool false))]
def c92_r1 : List AI := [w 6 (.mv (.t 0)),w 7 (.bin .eql (.t 6) (.c .str [])),w 8 (.mv (.t 7)),
  ⟨some 9, .mv (.t 0), some (8, false)⟩,
  ⟨some 10, .lenS (.t 9), some (8, false)⟩,
  ⟨some 11, .bin .gtr (.t 10) (.c U2 6), some (8, false)⟩,
  w 12 (.pick (.t 8) (.c .bool true) (.t 11)),w 13 (.mv (.t 12)),
  ⟨some 14, .mv (.t 0), some (13, false)⟩,
  ⟨some 15, .call 104 [(.t 14)], some (13, false)⟩,
  ⟨some 16, .mv (.t 0), some (13, false)⟩,
  ⟨some 17, .lenS (.t 16), some (13, false)⟩,
  ⟨some 18, .bin .neq (.t 15) (.t 17), some (13, false)⟩,
  w 19 (.pick (.t 13) (.c .bool true) (.t 18)),w 20 (.mv (.t 19)),
  ⟨some 21, .mv (.t 0), some (20, false)⟩,
  ⟨some 22, .indexS (.t 21) (.c U2 0), some (20, false)⟩,
  ⟨some 23, .bin .eql (.t 22) (.c U1 48), some (20, false)⟩,
  ⟨some 24, .mv (.t 23), some (20, false)⟩,
  ⟨some 25, .mv (.t 0), some (24, true)⟩,
  ⟨some 26, .lenS (.t 25), some (24, true)⟩,
  ⟨some 27, .bin .gtr (.t 26) (.c U2 1), some (24, true)⟩,
  ⟨some 28, .pick (.t 24) (.t 27) (.c .bool false), some (20, false)⟩,
  w 29 (.pick (.t 20) (.c .bool true) (.t 28))]
def c92_r2 : List AI := [w 2 (.asg (.c U2 0)),w 3 (.asg (.c .bool false))]
def c92_r3 : List AI := [w 4 (.asg (.c U2 0))]
def c92_r4 : List AI := [w 5 (.asg (.c U2 0))]
def c92_r5 : List AI := [w 30 (.mv (.t 5)),w 31 (.mv (.t 0)),w 32 (.lenS (.t 31)),w 33 (.bin .lss (.t 30) (.t 32))]
def c92_r7 : List AI := [w 36 (.mv (.t 4)),w 37 (.bin .mul (.c U2 10) (.t 36)),w 38 (.mv (.t 0)),w 39 (.mv (.t 5)),w 40 (.indexS (.t 38) (.t 39)),w 41 (.bin .sub (.t 40) (.c U1 48)),w 42 (.convI .i64 (.t 41)),w 43 (.bin .add (.t 37) (.t 42)),w 4 (.asg (.t 43))]
def c92_r6 : List AI := [w 34 (.mv (.t 5)),w 35 (.bin .add (.t 34) (.c U2 1)),w 5 (.asg (.t 35))]
def c92_r8 : List AI := [w 44 (.mv (.t 4)),w 2 (.asg (.t 44)),w 3 (.asg (.c .bool true))]
def c92 : AC := (.seq (.reg [0] c92_r0) (.seq (.seq (.reg [0] c92_r1) (.cond (.t 29) (.seq (.reg [] c92_r2) .ret) .skip)) (.seq (.reg [0] c92_r3) (.seq (.seq (.reg [0, 4] c92_r4) (.block 0 (.loop [0, 4, 5] (.seq (.seq (.reg [0, 4, 5] c92_r5) (.cond (.t 33) .skip (.exit 0))) (.seq (.block 1 (.reg [0, 4, 5] c92_r7)) (.reg [0, 4, 5] c92_r6)))))) (.seq (.reg [4] c92_r8) .ret)))))
def d92 : FD := { nargs := 1, body := c92, res := [.t 2, .t 3] }
-- anceps/ancepsref05.digits
def c104_r0 : List AI := [w 2 (.asg (.c U2 0))]
def c104_r1 : List AI := [w 3 (.asg (.c U2 0))]
def c104_r2 : List AI := [w 4 (.mv (.t 3)),w 5 (.mv (.t 0)),w 6 (.lenS (.t 5)),w 7 (.bin .lss (.t 4) (.t 6)),w 8 (.mv (.t 7)),
  ⟨some 9, .mv (.t 0), some (8, true)⟩,
  ⟨some 10, .mv (.t 3), some (8, true)⟩,
  ⟨some 11, .indexS (.t 9) (.t 10), some (8, true)⟩,
  ⟨some 12, .call 102 [(.t 11)], some (8, true)⟩,
  w 13 (.pick (.t 8) (.t 12) (.c .bool false))]
def c104_r3 : List AI := [w 14 (.mv (.t 3)),w 15 (.bin .add (.t 14) (.c U2 1)),w 3 (.asg (.t 15))]
def c104_r4 : List AI := [w 16 (.mv (.t 3)),w 2 (.asg (.t 16))]
def c104 : AC := (.seq (.reg [0] c104_r0) (.seq (.reg [0] c104_r1) (.seq (.block 0 (.loop [0, 3] (.seq (.seq (.reg [0, 3] c104_r2) (.cond (.t 13) .skip (.exit 0))) (.block 1 (.reg [0, 3] c104_r3))))) (.seq (.reg [3] c104_r4) .ret))))
def d104 : FD := { nargs := 1, body := c104, res := [.t 2] }
-- anceps/ancepsref05.inQuotes
def c105_r0 : List AI := [w 2 (.alloc U18 .no),w 3 (.asg (.c U2 0)),w 4 (.asg (.c U2 0))]
def c105_r1 : List AI := [w 5 (.asg (.c U2 1))]
def c105_r2 : List AI := [w 6 (.mv (.t 5)),w 7 (.mv (.t 0)),w 8 (.lenS (.t 7)),w 9 (.bin .lss (.t 6) (.t 8)),w 10 (.mv (.t 9)),
  ⟨some 11, .mv (.t 0), some (10, true)⟩,
  ⟨some 12, .mv (.t 5), some (10, true)⟩,
  ⟨some 13, .indexS (.t 11) (.t 12), some (10, true)⟩,
  ⟨some 14, .call 112 [(.t 13)], some (10, true)⟩,
  w 15 (.pick (.t 10) (.t 14) (.c .bool false))]
def c105_r3 : List AI := [w 16 (.mv (.t 5)),w 17 (.bin .add (.t 16) (.c U2 1)),w 5 (.asg (.t 17))]
def c105_r4 : List AI := [w 18 (.mv (.t 5)),w 19 (.mv (.t 0)),w 20 (.lenS (.t 19)),w 21 (.bin .eql (.t 18) (.t 20)),w 22 (.mv (.t 21)),
  ⟨some 23, .mv (.t 0), some (22, false)⟩,
  ⟨some 24, .mv (.t 5), some (22, false)⟩,
  ⟨some 25, .indexS (.t 23) (.t 24), some (22, false)⟩,
  ⟨some 26, .bin .neq (.t 25) (.c U1 34), some (22, false)⟩,
  w 27 (.pick (.t 22) (.c .bool true) (.t 26))]
def c105_r5 : List AI := [w 28 (.build U18 []),
  ⟨none, .store U18 (.t 2) (.t 28), none⟩,
  w 3 (.asg (.c U2 0)),w 4 (.asg (.c U2 2))]
def c105_r6 : List AI := [w 29 (.mv (.t 5)),w 30 (.bin .sub (.t 29) (.c U2 1)),w 31 (.bin .gtr (.t 30) (.c U2 60))]
def c105_r7 : List AI := [w 32 (.build U18 []),
  ⟨none, .store U18 (.t 2) (.t 32), none⟩,
  w 3 (.asg (.c U2 0)),w 4 (.asg (.c U2 3))]
def c105_r8 : List AI := [w 33 (.mv (.t 0)),w 34 (.mv (.t 5)),w 35 (.sliceS (.t 33) (some (.c U2 1)) (some (.t 34))),w 36 (.build U18 [([.l], (.c U2 3)), ([.r, .l], (.t 35))]),w 37 (.mv (.t 5)),w 38 (.bin .add (.t 37) (.c U2 1)),
  ⟨none, .store U18 (.t 2) (.t 36), none⟩,
  w 3 (.asg (.t 38)),w 4 (.asg (.c U2 0))]
def c105 : AC := (.seq (.reg [0] c105_r0) (.seq (.reg [0, 2, 28, 32, 36] c105_r1) (.seq (.block 0 (.loop [0, 2, 5, 28, 32, 36] (.seq (.seq (.reg [0, 2, 5, 28, 32, 36] c105_r2) (.cond (.t 15) .skip (.exit 0))) (.block 1 (.reg [0, 2, 5, 28, 32, 36] c105_r3))))) (.seq (.seq (.reg [0, 2, 5, 28, 32, 36] c105_r4) (.cond (.t 27) (.seq (.reg [2, 28, 32, 36] c105_r5) .ret) .skip)) (.seq (.seq (.reg [0, 2, 5, 28, 32, 36] c105_r6) (.cond (.t 31) (.seq (.reg [2, 28, 32, 36] c105_r7) .ret) .skip)) (.seq (.reg [0, 2, 5, 28, 32, 36] c105_r8) .ret))))))
def d105 : FD := { nargs := 1, body := c105, res := [.cell 2 U18, .t 3, .t 4] }
-- anceps/ancepsref05.sign
def c106_r0 : List AI := [w 2 (.asg (.c .bool false))]
def c106_r1 : List AI := [w 3 (.asg (.c U2 0))]
def c106_r2 : List AI := [w 4 (.mv (.t 3)),w 5 (.bin .lss (.t 4) (.c U2 21))]
def c106_r4 : List AI := [w 8 (.mv (.t 3)),w 9 (.indexS (.c .str [123, 125, 40, 41, 91, 93, 47, 59, 58, 126, 64, 61, 94, 44, 46, 124, 43, 42, 60, 62, 45]) (.t 8)),w 10 (.mv (.t 0)),w 11 (.bin .eql (.t 9) (.t 10))]
def c106_r5 : List AI := [w 2 (.asg (.c .bool true))]
def c106_r3 : List AI := [w 6 (.mv (.t 3)),w 7 (.bin .add (.t 6) (.c U2 1)),w 3 (.asg (.t 7))]
def c106_r6 : List AI := [w 2 (.asg (.c .bool false))]
def c106 : AC := (.seq (.reg [0] c106_r0) (.seq (.seq (.reg [0] c106_r1) (.block 0 (.loop [0, 3] (.seq (.seq (.reg [0, 3] c106_r2) (.cond (.t 5) .skip (.exit 0))) (.seq (.block 1 (.seq (.reg [0, 3] c106_r4) (.cond (.t 11) (.seq (.reg [] c106_r5) .ret) .skip))) (.reg [0, 3] c106_r3)))))) (.seq (.reg [] c106_r6) .ret)))
def d106 : FD := { nargs := 1, body := c106, res := [.t 2] }
-- anceps/ancepsref05.quoted
def c112_r0 : List AI := [w 2 (.asg (.c .bool false))]
def c112_r1 : List AI := [w 3 (.mv (.t 0)),w 4 (.bin .geq (.t 3) (.c U1 32)),w 5 (.mv (.t 4)),
  ⟨some 6, .mv (.t 0), some (5, true)⟩,
  ⟨some 7, .bin .leq (.t 6) (.c U1 126), some (5, true)⟩,
  w 8 (.pick (.t 5) (.t 7) (.c .bool false)),w 9 (.mv (.t 8)),
  ⟨some 10, .mv (.t 0), some (9, true)⟩,
  ⟨some 11, .bin .neq (.t 10) (.c U1 34), some (9, true)⟩,
  w 12 (.pick (.t 9) (.t 11) (.c .bool false)),w 2 (.asg (.t 12))]
def c112 : AC := (.seq (.reg [0] c112_r0) (.seq (.reg [0] c112_r1) .ret))
def d112 : FD := { nargs := 1, body := c112, res := [.t 2] }
def table : Table := fun f => match f with
  | 5 => some d5
  | 6 => some d6
  | 8 => some d8
  | 13 => some d13
  | 14 => some d14
  | 16 => some d16
  | 18 => some d18
  | 20 => some d20
  | 21 => some d21
  | 22 => some d22
  | 23 => some d23
  | 24 => some d24
  | 25 => some d25
  | 26 => some d26
  | 27 => some d27
  | 30 => some d30
  | 31 => some d31
  | 32 => some d32
  | 33 => some d33
  | 34 => some d34
  | 35 => some d35
  | 36 => some d36
  | 37 => some d37
  | 38 => some d38
  | 44 => some d44
  | 45 => some d45
  | 46 => some d46
  | 47 => some d47
  | 48 => some d48
  | 49 => some d49
  | 50 => some d50
  | 51 => some d51
  | 52 => some d52
  | 53 => some d53
  | 57 => some d57
  | 58 => some d58
  | 59 => some d59
  | 60 => some d60
  | 61 => some d61
  | 62 => some d62
  | 63 => some d63
  | 64 => some d64
  | 65 => some d65
  | 66 => some d66
  | 69 => some d69
  | 70 => some d70
  | 71 => some d71
  | 72 => some d72
  | 73 => some d73
  | 74 => some d74
  | 75 => some d75
  | 76 => some d76
  | 77 => some d77
  | 78 => some d78
  | 79 => some d79
  | 80 => some d80
  | 81 => some d81
  | 82 => some d82
  | 83 => some d83
  | 84 => some d84
  | 85 => some d85
  | 86 => some d86
  | 87 => some d87
  | 88 => some d88
  | 89 => some d89
  | 90 => some d90
  | 91 => some d91
  | 92 => some d92
  | 93 => some d93
  | 94 => some d94
  | 95 => some d95
  | 96 => some d96
  | 97 => some d97
  | 98 => some d98
  | 99 => some d99
  | 100 => some d100
  | 101 => some d101
  | 102 => some d102
  | 103 => some d103
  | 104 => some d104
  | 105 => some d105
  | 106 => some d106
  | 107 => some d107
  | 108 => some d108
  | 109 => some d109
  | 110 => some d110
  | 111 => some d111
  | 112 => some d112
  | 113 => some d113
  | 114 => some d114
  | 118 => some d118
  | _ => none
end Go.Fw.L19
