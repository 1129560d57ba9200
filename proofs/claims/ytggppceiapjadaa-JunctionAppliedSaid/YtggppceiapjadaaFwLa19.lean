/- Printed by an own program for this claim: the machine's code of functions, or their typed forms with their equations; no conditions. -/
import Derived.Test.YtggppceiapjadaaFwB1
set_option linter.unusedVariables false
set_option linter.unusedSimpArgs false
namespace Go.Fw.L19
open Go Go.Fw
abbrev U0 : Ty := (.sl .str)
abbrev U1 : Ty := (.int .u8)
abbrev V0 : Type := (List Int)
abbrev U2 : Ty := (.int .i64)
abbrev U3 : Ty := (.int .i32)
abbrev V1 : Type := (List UInt8)
abbrev V2 : Type := (Int × Unit)
abbrev V3 : Type := (V0)
abbrev V4 : Type := (Int × Bool)
abbrev V5 : Type := (V1)
abbrev U4 : Ty := (.sl U1)
abbrev U5 : Ty := (.sl U2)
abbrev U6 : Ty := (.pair .str .unit)
abbrev V6 : Type := (List V1)
abbrev V7 : Type := (Int × V2)
abbrev V8 : Type := (V1 × Int)
abbrev V9 : Type := (V1 × Unit)
abbrev U7 : Ty := (.pair U0 .unit)
abbrev U8 : Ty := (.pair U1 .unit)
abbrev U9 : Ty := (.pair U3 .unit)
abbrev U10 : Ty := (.pair U2 .unit)
abbrev V10 : Type := (List V7)
abbrev V11 : Type := (V6 × Unit)
abbrev V12 : Type := (V2 → Option Bool)
abbrev V13 : Type := (Int × V9)
abbrev V14 : Type := (V10 × Int)
abbrev U11 : Ty := (.fn U8 .bool)
abbrev V15 : Type := (Int × V11)
abbrev U12 : Ty := (.fn U9 .bool)
abbrev V16 : Type := (Int × V13)
abbrev U13 : Ty := (.pair U2 U6)
abbrev U14 : Ty := (.pair .str U10)
abbrev V17 : Type := (V16)
abbrev U15 : Ty := (.pair U2 U7)
abbrev V18 : Type := (List V16)
abbrev V19 : Type := (Int × V15)
abbrev U16 : Ty := (.pair U2 U10)
abbrev V20 : Type := (V18)
abbrev U17 : Ty := (.sl U16)
abbrev V21 : Type := (List V19)
abbrev U18 : Ty := (.pair U2 U13)
abbrev U19 : Ty := (.pair U2 U14)
abbrev V22 : Type := (V21 × Unit)
abbrev V23 : Type := ((V16 × Unit) → Option Bool)
abbrev U20 : Ty := (.pair U2 U15)
abbrev U21 : Ty := (.sl U18)
abbrev U22 : Ty := (.sl U20)
abbrev U23 : Ty := (.pair U18 .unit)
abbrev V24 : Type := (V1 × V22)
abbrev U24 : Ty := (.pair U22 .unit)
abbrev U25 : Ty := (.fn U23 .bool)
abbrev U26 : Ty := (.pair .str U24)
abbrev V25 : Type := (V18 × V18 × Int)
abbrev V26 : Type := (V18 × V18 × V18 × Int)
abbrev w (d : Nat) (o : AOp) : AI := { dst := some d, op := o }
-- anceps/ancepsref01.Sum
def c33_r0 : List AI := [w 4 (.asg (.c U2 0))]
def c33_0 : AC := .out [0, 1] (.reg [0, 1] c33_r0)
def c33_r1 : List AI := [w 5 (.asg (.c U2 0))]
def c33_1 : AC := .out [0, 1, 5] (.reg [0, 1] c33_r1)
def c33_r2 : List AI := [w 6 (.asg (.c U2 0))]
def c33_2 : AC := .out [0, 1, 5, 6] (.reg [0, 1, 5] c33_r2)
def c33_r3 : List AI := [w 7 (.mv (.t 6)),w 8 (.mv (.t 0)),w 9 (.lenL (.t 8)),w 10 (.bin .lss (.t 7) (.t 9)),w 11 (.mv (.t 10)),
  ⟨some 12, .mv (.t 5), some (11, true)⟩,
  ⟨some 13, .mv (.t 1), some (11, true)⟩,
  ⟨some 14, .bin .leq (.t 12) (.t 13), some (11, true)⟩,
  w 15 (.pick (.t 11) (.t 14) (.c .bool false))]
def c33_3 : AC := .out [0, 1, 5, 6, 15] (.reg [0, 1, 5, 6] c33_r3)
def c33_4 : AC := .out [0, 1, 5, 6] (.cond (.t 15) .skip (.exit 0))
def c33_r5 : List AI := [w 18 (.mv (.t 5)),w 19 (.bin .add (.t 18) (.c U2 1)),w 20 (.mv (.t 0)),w 21 (.mv (.t 6)),w 22 (.indexAddr .str (.t 20) (.t 21)),w 23 (.load .str (.t 22)),w 24 (.lenS (.t 23)),w 25 (.bin .add (.t 19) (.t 24)),w 5 (.asg (.t 25))]
def c33_5 : AC := .out [0, 1, 5, 6] (.reg [0, 1, 5, 6] c33_r5)
def c33_6 : AC := .out [0, 1, 5, 6] (.block 1 c33_5)
def c33_r4 : List AI := [w 16 (.mv (.t 6)),w 17 (.bin .add (.t 16) (.c U2 1)),w 6 (.asg (.t 17))]
def c33_7 : AC := .out [0, 1, 5, 6] (.reg [0, 1, 5, 6] c33_r4)
def c33_8 : AC := (.seq (.seq c33_3 c33_4) (.seq c33_6 c33_7))
def c33_9 : AC := .out [5] (.loop [0, 1, 5, 6] c33_8)
def c33_10 : AC := .out [5] (.block 0 c33_9)
def c33_r6 : List AI := [w 26 (.mv (.t 5)),w 4 (.asg (.t 26))]
def c33_11 : AC := .out [4] (.reg [5] c33_r6)
def c33_12 : AC := (.seq c33_0 (.seq c33_1 (.seq (.seq c33_2 c33_10) (.seq c33_11 .ret))))
def c33 : AC := c33_12
def d33 : FD := { nargs := 2, body := c33, res := [.t 4] }
-- anceps/ancepsref17.Few
def c9_r0 : List AI := [w 1 (.box U26 (.t 0)),w 2 (.asg (.c .bool false))]
def c9_0 : AC := .out [1] (.reg [0] c9_r0)
def c9_r1 : List AI := [w 5 (.fieldAddr U26 [.l] (.t 1)),w 6 (.load .str (.t 5)),w 7 (.lenS (.t 6)),w 3 (.asg (.t 7))]
def c9_1 : AC := .out [1, 3] (.reg [1] c9_r1)
def c9_r2 : List AI := [w 4 (.asg (.c U2 0))]
def c9_2 : AC := .out [1, 3, 4] (.reg [1, 3] c9_r2)
def c9_r3 : List AI := [w 8 (.mv (.t 4)),w 9 (.fieldAddr U26 [.r, .l] (.t 1)),w 10 (.load U22 (.t 9)),w 11 (.lenL (.t 10)),w 12 (.bin .lss (.t 8) (.t 11)),w 13 (.mv (.t 12)),
  ⟨some 14, .mv (.t 4), some (13, true)⟩,
  ⟨some 15, .bin .lss (.t 14) (.c U2 50), some (13, true)⟩,
  w 16 (.pick (.t 13) (.t 15) (.c .bool false))]
def c9_3 : AC := .out [1, 3, 4, 16] (.reg [1, 3, 4] c9_r3)
def c9_4 : AC := .out [1, 3, 4] (.cond (.t 16) .skip (.exit 0))
def c9_r5 : List AI := [w 19 (.mv (.t 3)),w 20 (.fieldAddr U26 [.r, .l] (.t 1)),w 21 (.load U22 (.t 20)),w 22 (.mv (.t 4)),w 23 (.indexAddr U20 (.t 21) (.t 22)),w 24 (.fieldAddr U20 [.r, .r, .l] (.t 23)),w 25 (.load U0 (.t 24)),w 26 (.call 33 [(.t 25), (.c U2 1500)]),w 27 (.bin .add (.t 19) (.t 26)),w 3 (.asg (.t 27))]
def c9_5 : AC := .out [1, 3, 4] (.reg [1, 3, 4] c9_r5)
def c9_6 : AC := .out [1, 3, 4] (.block 1 c9_5)
def c9_r4 : List AI := [w 17 (.mv (.t 4)),w 18 (.bin .add (.t 17) (.c U2 1)),w 4 (.asg (.t 18))]
def c9_7 : AC := .out [1, 3, 4] (.reg [1, 3, 4] c9_r4)
def c9_8 : AC := (.seq (.seq c9_3 c9_4) (.seq c9_6 c9_7))
def c9_9 : AC := .out [1, 3] (.loop [1, 3, 4] c9_8)
def c9_10 : AC := .out [1, 3] (.block 0 c9_9)
def c9_r6 : List AI := [w 28 (.fieldAddr U26 [.r, .l] (.t 1)),w 29 (.load U22 (.t 28)),w 30 (.lenL (.t 29)),w 31 (.bin .leq (.t 30) (.c U2 40)),w 32 (.mv (.t 31)),
  ⟨some 33, .mv (.t 3), some (32, true)⟩,
  ⟨some 34, .bin .leq (.t 33) (.c U2 1500), some (32, true)⟩,
  w 35 (.pick (.t 32) (.t 34) (.c .bool false)),w 2 (.asg (.t 35))]
def c9_11 : AC := .out [2] (.reg [1, 3] c9_r6)
def c9_12 : AC := (.seq c9_0 (.seq c9_1 (.seq (.seq c9_2 c9_10) (.seq c9_11 .ret))))
def c9 : AC := c9_12
def d9 : FD := { nargs := 1, body := c9, res := [.t 2] }
-- anceps/ancepsref11.Made
def c34_r0 : List AI := [w 2 (.alloc U18 .no)]
def c34_0 : AC := .out [0, 2] (.reg [0] c34_r0)
def c34_r1 : List AI := [w 4 (.build U18 [([.l], (.c U2 1)), ([.r, .l], (.c U2 3)), ([.r, .r, .l], (.c .str [97]))]),w 5 (.build U18 [([.l], (.c U2 1)), ([.r, .l], (.c U2 1)), ([.r, .r, .l], (.c .str [101]))]),w 6 (.build U18 [([.l], (.c U2 1)), ([.r, .l], (.c U2 2)), ([.r, .r, .l], (.c .str [111]))]),w 7 (.build U18 [([.l], (.c U2 1)), ([.r, .l], (.c U2 3)), ([.r, .r, .l], (.c .str [105]))]),w 8 (.build U18 [([.l], (.c U2 2)), ([.r, .l], (.c U2 2)), ([.r, .r, .l], (.c .str [97, 101]))]),w 9 (.build U18 [([.l], (.c U2 3)), ([.r, .r, .l], (.c .str [116]))]),w 10 (.build U18 [([.l], (.c U2 3)), ([.r, .r, .l], (.c .str [98]))]),w 11 (.build U18 [([.l], (.c U2 4)), ([.r, .r, .l], (.c .str [114]))]),w 12 (.build U18 [([.l], (.c U2 4)), ([.r, .r, .l], (.c .str [108]))]),w 13 (.build U18 [([.l], (.c U2 5)), ([.r, .r, .l], (.c .str [109]))]),w 14 (.build U18 [([.l], (.c U2 5)), ([.r, .r, .l], (.c .str [110]))]),w 15 (.build U18 [([.l], (.c U2 6)), ([.r, .r, .l], (.c .str [115]))]),w 16 (.build U18 [([.l], (.c U2 7)), ([.r, .r, .l], (.c .str [120]))]),w 17 (.build U18 [([.l], (.c U2 8)), ([.r, .r, .l], (.c .str [118]))]),w 18 (.build U18 [([.l], (.c U2 9)), ([.r, .r, .l], (.c .str [104]))]),w 19 (.build U18 [([.l], (.c U2 1)), ([.r, .l], (.c U2 3)), ([.r, .r, .l], (.c .str [117]))]),w 20 (.buildSlice 55 U18 [(.t 4), (.t 5), (.t 6), (.t 7), (.t 8), (.t 9), (.t 10), (.t 11), (.t 12), (.t 13), (.t 14), (.t 15), (.t 16), (.t 17), (.t 18), (.t 19)]),w 3 (.asg (.t 20))]
def c34_1 : AC := .out [0, 2, 3] (.reg [0, 2] c34_r1)
def c34_r2 : List AI := [w 21 (.mv (.t 3)),w 22 (.mv (.t 0)),w 23 (.convI .i64 (.t 22)),w 24 (.mv (.t 3)),w 25 (.lenL (.t 24)),w 26 (.bin .rem (.t 23) (.t 25)),w 27 (.indexAddr U18 (.t 21) (.t 26)),w 28 (.load U18 (.t 27)),
  ⟨none, .store U18 (.t 2) (.t 28), none⟩]
def c34_2 : AC := .out [2] (.reg [0, 2, 3] c34_r2)
def c34_3 : AC := (.seq c34_0 (.seq c34_1 (.seq c34_2 .ret)))
def c34 : AC := c34_3
def d34 : FD := { nargs := 1, body := c34, res := [.cell 2 U18] }
-- anceps/ancepsref11.All
def c10_r0 : List AI := [w 2 (.asg (.nil 55 U18))]
def c10_0 : AC := .out [0] (.reg [0] c10_r0)
def c10_r1 : List AI := [w 3 (.asg (.nil 55 U18))]
def c10_1 : AC := .out [0, 3] (.reg [0] c10_r1)
def c10_r2 : List AI := [w 4 (.asg (.c U2 0))]
def c10_2 : AC := .out [0, 3, 4] (.reg [0, 3] c10_r2)
def c10_r3 : List AI := [w 5 (.mv (.t 4)),w 6 (.mv (.t 0)),w 7 (.lenL (.t 6)),w 8 (.bin .lss (.t 5) (.t 7))]
def c10_3 : AC := .out [0, 3, 4, 8] (.reg [0, 3, 4] c10_r3)
def c10_4 : AC := .out [0, 3, 4] (.cond (.t 8) .skip (.exit 0))
def c10_r5 : List AI := [w 11 (.mv (.t 3)),w 12 (.mv (.t 0)),w 13 (.mv (.t 4)),w 14 (.indexAddr U1 (.t 12) (.t 13)),w 15 (.load U1 (.t 14)),w 16 (.call 34 [(.t 15)]),w 17 (.buildSlice 55 U18 [(.t 16)]),w 18 (.append 55 U18 4398046511104 (.t 11) (.t 17)),w 3 (.asg (.t 18))]
def c10_5 : AC := .out [0, 3, 4] (.reg [0, 3, 4] c10_r5)
def c10_6 : AC := .out [0, 3, 4] (.block 1 c10_5)
def c10_r4 : List AI := [w 9 (.mv (.t 4)),w 10 (.bin .add (.t 9) (.c U2 1)),w 4 (.asg (.t 10))]
def c10_7 : AC := .out [0, 3, 4] (.reg [0, 3, 4] c10_r4)
def c10_8 : AC := (.seq (.seq c10_3 c10_4) (.seq c10_6 c10_7))
def c10_9 : AC := .out [3] (.loop [0, 3, 4] c10_8)
def c10_10 : AC := .out [3] (.block 0 c10_9)
def c10_r6 : List AI := [w 19 (.mv (.t 3)),w 2 (.asg (.t 19))]
def c10_11 : AC := .out [2, 3] (.reg [3] c10_r6)
def c10_12 : AC := (.seq c10_0 (.seq c10_1 (.seq (.seq c10_2 c10_10) (.seq c10_11 .ret))))
def c10 : AC := c10_12
def d10 : FD := { nargs := 1, body := c10, res := [.t 2] }
-- anceps/token.small
def c86_r0 : List AI := [w 2 (.asg (.c .bool false))]
def c86_0 : AC := .out [0] (.reg [0] c86_r0)
def c86_r1 : List AI := [w 3 (.mv (.t 0)),w 4 (.bin .geq (.t 3) (.c U1 97)),w 5 (.mv (.t 4)),
  ⟨some 6, .mv (.t 0), some (5, true)⟩,
  ⟨some 7, .bin .leq (.t 6) (.c U1 122), some (5, true)⟩,
  w 8 (.pick (.t 5) (.t 7) (.c .bool false)),w 2 (.asg (.t 8))]
def c86_1 : AC := .out [2] (.reg [0] c86_r1)
def c86_2 : AC := (.seq c86_0 (.seq c86_1 .ret))
def c86 : AC := c86_2
def d86 : FD := { nargs := 1, body := c86, res := [.t 2] }
-- anceps/token.digit
def c87_r0 : List AI := [w 2 (.asg (.c .bool false))]
def c87_0 : AC := .out [0] (.reg [0] c87_r0)
def c87_r1 : List AI := [w 3 (.mv (.t 0)),w 4 (.bin .geq (.t 3) (.c U1 48)),w 5 (.mv (.t 4)),
  ⟨some 6, .mv (.t 0), some (5, true)⟩,
  ⟨some 7, .bin .leq (.t 6) (.c U1 57), some (5, true)⟩,
  w 8 (.pick (.t 5) (.t 7) (.c .bool false)),w 2 (.asg (.t 8))]
def c87_1 : AC := .out [2] (.reg [0] c87_r1)
def c87_2 : AC := (.seq c87_0 (.seq c87_1 .ret))
def c87 : AC := c87_2
def d87 : FD := { nargs := 1, body := c87, res := [.t 2] }
-- anceps/token.name
def c72_r0 : List AI := [w 2 (.asg (.c U2 0))]
def c72_0 : AC := .out [0] (.reg [0] c72_r0)
def c72_r1 : List AI := [w 5 (.mv (.t 0)),w 6 (.bin .eql (.t 5) (.c .str [])),w 7 (.mv (.t 6)),
  ⟨some 8, .mv (.t 0), some (7, false)⟩,
  ⟨some 9, .indexS (.t 8) (.c U2 0), some (7, false)⟩,
  ⟨some 10, .call 86 [(.t 9)], some (7, false)⟩,
  ⟨some 11, .un .not (.t 10), some (7, false)⟩,
  w 12 (.pick (.t 7) (.c .bool true) (.t 11))]
def c72_1 : AC := .out [0, 12] (.reg [0] c72_r1)
def c72_r2 : List AI := [w 2 (.asg (.c U2 0))]
def c72_2 : AC := .out [2] (.reg [] c72_r2)
def c72_3 : AC := .out [0, 2] (.cond (.t 12) (.seq c72_2 .ret) .skip)
def c72_r3 : List AI := [w 3 (.asg (.c U2 1))]
def c72_4 : AC := .out [0, 3] (.reg [0] c72_r3)
def c72_r4 : List AI := [w 13 (.mv (.t 3)),w 14 (.mv (.t 0)),w 15 (.lenS (.t 14)),w 16 (.bin .lss (.t 13) (.t 15))]
def c72_5 : AC := .out [0, 3, 16] (.reg [0, 3] c72_r4)
def c72_6 : AC := .out [0, 3] (.cond (.t 16) .skip (.exit 0))
def c72_r5 : List AI := [w 17 (.mv (.t 0)),w 18 (.mv (.t 3)),w 19 (.indexS (.t 17) (.t 18)),w 4 (.asg (.t 19))]
def c72_7 : AC := .out [0, 3, 4] (.reg [0, 3] c72_r5)
def c72_r7 : List AI := [w 22 (.mv (.t 4)),w 23 (.call 86 [(.t 22)]),w 24 (.mv (.t 23)),
  ⟨some 25, .mv (.t 4), some (24, false)⟩,
  ⟨some 26, .call 87 [(.t 25)], some (24, false)⟩,
  w 27 (.pick (.t 24) (.c .bool true) (.t 26)),w 21 (.asg (.t 27))]
def c72_8 : AC := .out [0, 3, 4, 21] (.reg [0, 3, 4] c72_r7)
def c72_r8 : List AI := [w 28 (.mv (.t 3)),w 29 (.bin .add (.t 28) (.c U2 1)),w 3 (.asg (.t 29))]
def c72_9 : AC := .out [0, 3] (.reg [0, 3] c72_r8)
def c72_r9 : List AI := [w 31 (.mv (.t 4)),w 32 (.bin .eql (.t 31) (.c U1 45)),w 33 (.mv (.t 32)),
  ⟨some 34, .mv (.t 3), some (33, true)⟩,
  ⟨some 35, .bin .add (.t 34) (.c U2 1), some (33, true)⟩,
  ⟨some 36, .mv (.t 0), some (33, true)⟩,
  ⟨some 37, .lenS (.t 36), some (33, true)⟩,
  ⟨some 38, .bin .lss (.t 35) (.t 37), some (33, true)⟩,
  w 39 (.pick (.t 33) (.t 38) (.c .bool false)),w 40 (.mv (.t 39)),
  ⟨some 41, .mv (.t 0), some (40, true)⟩,
  ⟨some 42, .mv (.t 3), some (40, true)⟩,
  ⟨some 43, .bin .add (.t 42) (.c U2 1), some (40, true)⟩,
  ⟨some 44, .indexS (.t 41) (.t 43), some (40, true)⟩,
  ⟨some 45, .call 86 [(.t 44)], some (40, true)⟩,
  ⟨some 46, .mv (.t 45), some (40, true)⟩,
  ⟨some 47, .mv (.t 0), some (46, false)⟩,
  ⟨some 48, .mv (.t 3), some (46, false)⟩,
  ⟨some 49, .bin .add (.t 48) (.c U2 1), some (46, false)⟩,
  ⟨some 50, .indexS (.t 47) (.t 49), some (46, false)⟩,
  ⟨some 51, .call 87 [(.t 50)], some (46, false)⟩,
  ⟨some 52, .pick (.t 46) (.c .bool true) (.t 51), some (40, true)⟩,
  w 53 (.pick (.t 40) (.t 52) (.c .bool false)),w 30 (.asg (.t 53))]
def c72_10 : AC := .out [0, 3, 30] (.reg [0, 3, 4] c72_r9)
def c72_r10 : List AI := [w 54 (.mv (.t 3)),w 55 (.bin .add (.t 54) (.c U2 2)),w 3 (.asg (.t 55))]
def c72_11 : AC := .out [0, 3] (.reg [0, 3] c72_r10)
def c72_r6 : List AI := [w 20 (.mv (.t 3)),w 2 (.asg (.t 20))]
def c72_12 : AC := .out [2] (.reg [3] c72_r6)
def c72_13 : AC := .out [0, 2, 3] (.cond (.t 30) c72_11 (.seq c72_12 .ret))
def c72_14 : AC := .out [0, 2, 3] (.cond (.t 21) c72_9 (.seq c72_10 c72_13))
def c72_15 : AC := .out [0, 2, 3] (.block 2 (.seq c72_8 c72_14))
def c72_16 : AC := .out [0, 2, 3] (.block 1 (.seq c72_7 c72_15))
def c72_17 : AC := (.seq (.seq c72_5 c72_6) c72_16)
def c72_18 : AC := .out [2, 3] (.loop [0, 3] c72_17)
def c72_19 : AC := .out [2, 3] (.block 0 c72_18)
def c72_r11 : List AI := [w 56 (.mv (.t 3)),w 2 (.asg (.t 56))]
def c72_20 : AC := .out [2] (.reg [3] c72_r11)
def c72_21 : AC := (.seq c72_0 (.seq (.seq c72_1 c72_3) (.seq c72_4 (.seq c72_19 (.seq c72_20 .ret)))))
def c72 : AC := c72_21
def d72 : FD := { nargs := 1, body := c72, res := [.t 2] }
-- anceps/token.IsName
def c53_r0 : List AI := [w 2 (.asg (.c .bool false))]
def c53_0 : AC := .out [0] (.reg [0] c53_r0)
def c53_r1 : List AI := [w 3 (.mv (.t 0)),w 4 (.bin .neq (.t 3) (.c .str [])),w 5 (.mv (.t 4)),
  ⟨some 6, .mv (.t 0), some (5, true)⟩,
  ⟨some 7, .lenS (.t 6), some (5, true)⟩,
  ⟨some 8, .bin .leq (.t 7) (.c U2 20), some (5, true)⟩,
  w 9 (.pick (.t 5) (.t 8) (.c .bool false)),w 10 (.mv (.t 9)),
  ⟨some 11, .mv (.t 0), some (10, true)⟩,
  ⟨some 12, .call 72 [(.t 11)], some (10, true)⟩,
  ⟨some 13, .mv (.t 0), some (10, true)⟩,
  ⟨some 14, .lenS (.t 13), some (10, true)⟩,
  ⟨some 15, .bin .eql (.t 12) (.t 14), some (10, true)⟩,
  w 16 (.pick (.t 10) (.t 15) (.c .bool false)),w 2 (.asg (.t 16))]
def c53_1 : AC := .out [2] (.reg [0] c53_r1)
def c53_2 : AC := (.seq c53_0 (.seq c53_1 .ret))
def c53 : AC := c53_2
def d53 : FD := { nargs := 1, body := c53, res := [.t 2] }
-- strings.IndexByte
def c104_r0 : List AI := [w 4 (.asg (.c U2 0))]
def c104_0 : AC := .out [0, 1] (.reg [0, 1] c104_r0)
def c104_r1 : List AI := [w 5 (.mv (.t 0)),w 6 (.mv (.t 1)),w 7 (.call 109 [(.t 5), (.t 6)]),w 4 (.asg (.t 7))]
def c104_1 : AC := .out [4] (.reg [0, 1] c104_r1)
def c104_2 : AC := (.seq c104_0 (.seq c104_1 .ret))
def c104 : AC := c104_2
def d104 : FD := { nargs := 2, body := c104, res := [.t 4] }
-- anceps/text.letter
def c99_r0 : List AI := [w 2 (.asg (.c .bool false))]
def c99_0 : AC := .out [0] (.reg [0] c99_r0)
def c99_r1 : List AI := [w 3 (.mv (.t 0)),w 4 (.bin .geq (.t 3) (.c U1 32)),w 5 (.mv (.t 4)),
  ⟨some 6, .mv (.t 0), some (5, true)⟩,
  ⟨some 7, .bin .leq (.t 6) (.c U1 126), some (5, true)⟩,
  w 8 (.pick (.t 5) (.t 7) (.c .bool false)),w 9 (.mv (.t 8)),
  ⟨some 10, .mv (.t 0), some (9, true)⟩,
  ⟨some 11, .call 104 [(.c .str [32, 46, 44, 59, 58, 33, 63, 34, 45, 91, 93, 60, 62, 123, 125]), (.t 10)], some (9, true)⟩,
  ⟨some 12, .bin .lss (.t 11) (.c U2 0), some (9, true)⟩,
  w 13 (.pick (.t 9) (.t 12) (.c .bool false)),w 2 (.asg (.t 13))]
def c99_1 : AC := .out [2] (.reg [0] c99_r1)
def c99_2 : AC := (.seq c99_0 (.seq c99_1 .ret))
def c99 : AC := c99_2
def d99 : FD := { nargs := 1, body := c99, res := [.t 2] }
-- anceps/text.Join$1
def c98_r0 : List AI := [w 2 (.asg (.c .bool false))]
def c98_0 : AC := .out [0] (.reg [0] c98_r0)
def c98_r1 : List AI := [w 3 (.mv (.t 0)),w 4 (.call 99 [(.t 3)]),w 5 (.un .not (.t 4)),w 2 (.asg (.t 5))]
def c98_1 : AC := .out [2] (.reg [0] c98_r1)
def c98_2 : AC := (.seq c98_0 (.seq c98_1 .ret))
def c98 : AC := c98_2
def d98 : FD := { nargs := 1, body := c98, res := [.t 2] }
-- slices.IndexFunc[[]byte,byte]
def c103_r0 : List AI := [w 4 (.asg (.c U2 0))]
def c103_0 : AC := .out [0, 1] (.reg [0, 1] c103_r0)
def c103_r1 : List AI := [w 6 (.mv (.t 0)),w 7 (.lenL (.t 6)),w 8 (.mv (.c U2 0))]
def c103_1 : AC := .out [0, 1, 7, 8] (.reg [0, 1] c103_r1)
def c103_r2 : List AI := [w 9 (.bin .lss (.t 8) (.t 7))]
def c103_2 : AC := .out [0, 1, 7, 8, 9] (.reg [0, 1, 7, 8] c103_r2)
def c103_3 : AC := .out [0, 1, 7, 8] (.cond (.t 9) .skip (.exit 0))
def c103_r3 : List AI := [w 10 (.mv (.t 8)),w 5 (.asg (.t 10))]
def c103_4 : AC := .out [0, 1, 5, 7, 8] (.reg [0, 1, 7, 8] c103_r3)
def c103_r4 : List AI := [w 11 (.mv (.t 1)),w 12 (.mv (.t 0)),w 13 (.mv (.t 5)),w 14 (.indexAddr U1 (.t 12) (.t 13)),w 15 (.load U1 (.t 14)),w 16 (.callv (.t 11) [(.t 15)])]
def c103_5 : AC := .out [0, 1, 5, 7, 8, 16] (.reg [0, 1, 5, 7, 8] c103_r4)
def c103_r5 : List AI := [w 17 (.mv (.t 5)),w 4 (.asg (.t 17))]
def c103_6 : AC := .out [4] (.reg [5] c103_r5)
def c103_7 : AC := .out [0, 1, 4, 7, 8] (.cond (.t 16) (.seq c103_6 .ret) .skip)
def c103_8 : AC := .out [0, 1, 4, 7, 8] (.block 1 (.seq c103_4 (.seq c103_5 c103_7)))
def c103_r6 : List AI := [w 18 (.bin .add (.t 8) (.c U2 1)),w 8 (.mv (.t 18))]
def c103_9 : AC := .out [0, 1, 7, 8] (.reg [0, 1, 7, 8] c103_r6)
def c103_10 : AC := (.seq c103_2 (.seq c103_3 (.seq c103_8 c103_9)))
def c103_11 : AC := .out [4] (.loop [0, 1, 7, 8] c103_10)
def c103_12 : AC := .out [4] (.block 0 c103_11)
def c103_r7 : List AI := [w 4 (.asg (.c U2 (-1)))]
def c103_13 : AC := .out [4] (.reg [] c103_r7)
def c103_14 : AC := (.seq c103_0 (.seq (.seq c103_1 c103_12) (.seq c103_13 .ret)))
def c103 : AC := c103_14
def d103 : FD := { nargs := 2, body := c103, res := [.t 4] }
-- slices.ContainsFunc[[]byte,byte]
def c97_r0 : List AI := [w 4 (.asg (.c .bool false))]
def c97_0 : AC := .out [0, 1] (.reg [0, 1] c97_r0)
def c97_r1 : List AI := [w 5 (.mv (.t 0)),w 6 (.mv (.t 1)),w 7 (.call 103 [(.t 5), (.t 6)]),w 8 (.bin .geq (.t 7) (.c U2 0)),w 4 (.asg (.t 8))]
def c97_1 : AC := .out [4] (.reg [0, 1] c97_r1)
def c97_2 : AC := (.seq c97_0 (.seq c97_1 .ret))
def c97 : AC := c97_2
def d97 : FD := { nargs := 2, body := c97, res := [.t 4] }
-- strings.Join
def c100_r0 : List AI := [w 4 (.asg (.c .str []))]
def c100_0 : AC := .out [0, 1] (.reg [0, 1] c100_r0)
def c100_r1 : List AI := [w 11 (.mv (.t 0)),w 12 (.lenL (.t 11))]
def c100_1 : AC := .out [0, 1, 12] (.reg [0, 1] c100_r1)
def c100_r2 : List AI := [w 14 (.bin .eql (.t 12) (.c U2 0)),w 13 (.asg (.t 14))]
def c100_2 : AC := .out [0, 1, 12, 13] (.reg [0, 1, 12] c100_r2)
def c100_r3 : List AI := [w 4 (.asg (.c .str []))]
def c100_3 : AC := .out [4] (.reg [] c100_r3)
def c100_r4 : List AI := [w 16 (.bin .eql (.t 12) (.c U2 1)),w 15 (.asg (.t 16))]
def c100_4 : AC := .out [0, 1, 15] (.reg [0, 1, 12] c100_r4)
def c100_r5 : List AI := [w 17 (.mv (.t 0)),w 18 (.indexAddr .str (.t 17) (.c U2 0)),w 19 (.load .str (.t 18)),w 4 (.asg (.t 19))]
def c100_5 : AC := .out [4] (.reg [0] c100_r5)
def c100_6 : AC := .out [0, 1, 4] (.cond (.t 15) (.seq c100_5 .ret) .skip)
def c100_7 : AC := .out [0, 1, 4] (.cond (.t 13) (.seq c100_3 .ret) (.seq c100_4 c100_6))
def c100_8 : AC := .out [0, 1, 4] (.block 0 (.seq c100_2 c100_7))
def c100_r6 : List AI := [w 5 (.asg (.c U2 0))]
def c100_9 : AC := .out [0, 1, 5] (.reg [0, 1] c100_r6)
def c100_r7 : List AI := [w 20 (.mv (.t 1)),w 21 (.lenS (.t 20)),w 22 (.bin .gtr (.t 21) (.c U2 0))]
def c100_10 : AC := .out [0, 1, 5, 22] (.reg [0, 1, 5] c100_r7)
def c100_r8 : List AI := [w 23 (.mv (.t 1)),w 24 (.lenS (.t 23)),w 25 (.mv (.t 0)),w 26 (.lenL (.t 25)),w 27 (.bin .sub (.t 26) (.c U2 1)),w 28 (.bin .quo (.c U2 9223372036854775807) (.t 27)),w 29 (.bin .geq (.t 24) (.t 28))]
def c100_11 : AC := .out [0, 1, 5, 29] (.reg [0, 1, 5] c100_r8)
def c100_r9 : List AI := [w 30 (.bad),
  ⟨none, .bad, none⟩]
def c100_12 : AC := .out [] (.reg [0, 1, 5] c100_r9)
def c100_13 : AC := .out [0, 1, 5] (.cond (.t 29) c100_12 .skip)
def c100_r10 : List AI := [w 31 (.mv (.t 5)),w 32 (.mv (.t 1)),w 33 (.lenS (.t 32)),w 34 (.mv (.t 0)),w 35 (.lenL (.t 34)),w 36 (.bin .sub (.t 35) (.c U2 1)),w 37 (.bin .mul (.t 33) (.t 36)),w 38 (.bin .add (.t 31) (.t 37)),w 5 (.asg (.t 38))]
def c100_14 : AC := .out [0, 1, 5] (.reg [0, 1, 5] c100_r10)
def c100_15 : AC := .out [0, 1, 5] (.cond (.t 22) (.seq (.seq c100_11 c100_13) c100_14) .skip)
def c100_16 : AC := (.seq c100_10 c100_15)
def c100_r11 : List AI := [w 39 (.mv (.t 0)),w 40 (.lenL (.t 39)),w 41 (.mv (.c U2 0))]
def c100_17 : AC := .out [0, 1, 5, 39, 40, 41] (.reg [0, 1, 5] c100_r11)
def c100_r12 : List AI := [w 42 (.bin .lss (.t 41) (.t 40))]
def c100_18 : AC := .out [0, 1, 5, 39, 40, 41, 42] (.reg [0, 1, 5, 39, 40, 41] c100_r12)
def c100_19 : AC := .out [0, 1, 5, 39, 40, 41] (.cond (.t 42) .skip (.exit 1))
def c100_r13 : List AI := [w 43 (.indexAddr .str (.t 39) (.t 41)),w 44 (.load .str (.t 43)),w 7 (.asg (.t 44))]
def c100_20 : AC := .out [0, 1, 5, 7, 39, 40, 41] (.reg [0, 1, 5, 39, 40, 41] c100_r13)
def c100_r14 : List AI := [w 45 (.mv (.t 7)),w 46 (.lenS (.t 45)),w 47 (.mv (.t 5)),w 48 (.bin .sub (.c U2 9223372036854775807) (.t 47)),w 49 (.bin .gtr (.t 46) (.t 48))]
def c100_21 : AC := .out [0, 1, 5, 7, 39, 40, 41, 49] (.reg [0, 1, 5, 7, 39, 40, 41] c100_r14)
def c100_r15 : List AI := [w 50 (.bad),
  ⟨none, .bad, none⟩]
def c100_22 : AC := .out [] (.reg [0, 1, 5, 7, 39, 40, 41] c100_r15)
def c100_23 : AC := .out [0, 1, 5, 7, 39, 40, 41] (.cond (.t 49) c100_22 .skip)
def c100_r16 : List AI := [w 51 (.mv (.t 5)),w 52 (.mv (.t 7)),w 53 (.lenS (.t 52)),w 54 (.bin .add (.t 51) (.t 53)),w 5 (.asg (.t 54))]
def c100_24 : AC := .out [0, 1, 5, 39, 40, 41] (.reg [0, 1, 5, 7, 39, 40, 41] c100_r16)
def c100_25 : AC := .out [0, 1, 5, 39, 40, 41] (.block 2 (.seq c100_20 (.seq (.seq c100_21 c100_23) c100_24)))
def c100_r17 : List AI := [w 55 (.bin .add (.t 41) (.c U2 1)),w 41 (.mv (.t 55))]
def c100_26 : AC := .out [0, 1, 5, 39, 40, 41] (.reg [0, 1, 5, 39, 40, 41] c100_r17)
def c100_27 : AC := (.seq c100_18 (.seq c100_19 (.seq c100_25 c100_26)))
def c100_28 : AC := .out [0, 1, 5] (.loop [0, 1, 5, 39, 40, 41] c100_27)
def c100_29 : AC := .out [0, 1, 5] (.block 1 c100_28)
def c100_r18 : List AI := [w 8 (.bad)]
def c100_30 : AC := .out [] (.reg [0, 1, 5] c100_r18)
def c100_r19 : List AI := [w 56 (.mv (.t 5)),w 57 (.call 105 [(.t 8), (.t 56)])]
def c100_31 : AC := .out [] (.reg [] c100_r19)
def c100_r20 : List AI := [w 58 (.mv (.t 0)),w 59 (.indexAddr .str (.t 58) (.c U2 0)),w 60 (.load .str (.t 59)),w 61 (.call 106 [(.t 8), (.t 60)])]
def c100_32 : AC := .out [] (.reg [] c100_r20)
def c100_r21 : List AI := [w 62 (.mv (.t 0)),w 63 (.sliceL .str (.t 62) (some (.c U2 1)) none none),w 64 (.lenL (.t 63)),w 65 (.mv (.c U2 0))]
def c100_33 : AC := .out [] (.reg [] c100_r21)
def c100_r22 : List AI := [w 66 (.bin .lss (.t 65) (.t 64))]
def c100_34 : AC := .out [] (.reg [] c100_r22)
def c100_35 : AC := .out [] (.cond (.t 66) .skip (.exit 3))
def c100_r23 : List AI := [w 67 (.indexAddr .str (.t 63) (.t 65)),w 68 (.load .str (.t 67)),w 10 (.asg (.t 68))]
def c100_36 : AC := .out [] (.reg [] c100_r23)
def c100_r24 : List AI := [w 69 (.mv (.t 1)),w 70 (.call 106 [(.t 8), (.t 69)])]
def c100_37 : AC := .out [] (.reg [] c100_r24)
def c100_r25 : List AI := [w 71 (.mv (.t 10)),w 72 (.call 106 [(.t 8), (.t 71)])]
def c100_38 : AC := .out [] (.reg [] c100_r25)
def c100_39 : AC := .out [] (.block 4 (.seq c100_36 (.seq c100_37 c100_38)))
def c100_r26 : List AI := [w 73 (.bin .add (.t 65) (.c U2 1)),w 65 (.mv (.t 73))]
def c100_40 : AC := .out [] (.reg [] c100_r26)
def c100_41 : AC := (.seq c100_34 (.seq c100_35 (.seq c100_39 c100_40)))
def c100_42 : AC := .out [] (.loop [] c100_41)
def c100_43 : AC := .out [] (.block 3 c100_42)
def c100_r27 : List AI := [w 74 (.call 107 [(.t 8)]),w 4 (.asg (.t 74))]
def c100_44 : AC := .out [] (.reg [] c100_r27)
def c100_45 : AC := (.seq c100_0 (.seq (.seq c100_1 c100_8) (.seq c100_9 (.seq c100_16 (.seq (.seq c100_17 c100_29) (.seq c100_30 (.seq c100_31 (.seq c100_32 (.seq (.seq c100_33 c100_43) (.seq c100_44 .ret))))))))))
def c100 : AC := c100_45
def d100 : FD := { nargs := 2, body := c100, res := [.t 4] }
-- anceps/text.Join
def c88_r0 : List AI := [w 2 (.asg (.c .str [])),w 3 (.asg (.c U2 0))]
def c88_0 : AC := .out [0] (.reg [0] c88_r0)
def c88_r1 : List AI := [w 7 (.mv (.t 0)),w 8 (.lenL (.t 7)),w 9 (.mv (.c U2 0))]
def c88_1 : AC := .out [0, 7, 8, 9] (.reg [0] c88_r1)
def c88_r2 : List AI := [w 10 (.bin .lss (.t 9) (.t 8))]
def c88_2 : AC := .out [0, 7, 8, 9, 10] (.reg [0, 7, 8, 9] c88_r2)
def c88_3 : AC := .out [0, 7, 8, 9] (.cond (.t 10) .skip (.exit 0))
def c88_r3 : List AI := [w 11 (.indexAddr .str (.t 7) (.t 9)),w 12 (.load .str (.t 11)),w 5 (.asg (.t 12))]
def c88_4 : AC := .out [0, 5, 7, 8, 9] (.reg [0, 7, 8, 9] c88_r3)
def c88_r4 : List AI := [w 13 (.mv (.t 5)),w 14 (.bin .eql (.t 13) (.c .str []))]
def c88_5 : AC := .out [0, 5, 7, 8, 9, 14] (.reg [0, 5, 7, 8, 9] c88_r4)
def c88_r5 : List AI := [w 2 (.asg (.c .str [])),w 3 (.asg (.c U2 7))]
def c88_6 : AC := .out [2, 3] (.reg [] c88_r5)
def c88_7 : AC := .out [0, 2, 3, 5, 7, 8, 9] (.cond (.t 14) (.seq c88_6 .ret) .skip)
def c88_r6 : List AI := [w 15 (.mv (.t 5)),w 16 (.toSl (.t 15)),w 17 (.call 97 [(.t 16), (.fn 98 U8 .bool)])]
def c88_8 : AC := .out [0, 7, 8, 9, 17] (.reg [0, 5, 7, 8, 9] c88_r6)
def c88_r7 : List AI := [w 2 (.asg (.c .str [])),w 3 (.asg (.c U2 2))]
def c88_9 : AC := .out [2, 3] (.reg [] c88_r7)
def c88_10 : AC := .out [0, 2, 3, 7, 8, 9] (.cond (.t 17) (.seq c88_9 .ret) .skip)
def c88_11 : AC := .out [0, 2, 3, 7, 8, 9] (.block 1 (.seq c88_4 (.seq (.seq c88_5 c88_7) (.seq c88_8 c88_10))))
def c88_r8 : List AI := [w 18 (.bin .add (.t 9) (.c U2 1)),w 9 (.mv (.t 18))]
def c88_12 : AC := .out [0, 7, 8, 9] (.reg [0, 7, 8, 9] c88_r8)
def c88_13 : AC := (.seq c88_2 (.seq c88_3 (.seq c88_11 c88_12)))
def c88_14 : AC := .out [0, 2, 3] (.loop [0, 7, 8, 9] c88_13)
def c88_15 : AC := .out [0, 2, 3] (.block 0 c88_14)
def c88_r9 : List AI := [w 19 (.mv (.t 0)),w 20 (.call 100 [(.t 19), (.c .str [32])]),w 6 (.asg (.t 20))]
def c88_16 : AC := .out [6] (.reg [0] c88_r9)
def c88_r10 : List AI := [w 21 (.mv (.t 6)),w 22 (.lenS (.t 21)),w 23 (.bin .gtr (.t 22) (.c U2 120))]
def c88_17 : AC := .out [6, 23] (.reg [6] c88_r10)
def c88_r11 : List AI := [w 2 (.asg (.c .str [])),w 3 (.asg (.c U2 3))]
def c88_18 : AC := .out [2, 3] (.reg [] c88_r11)
def c88_19 : AC := .out [2, 3, 6] (.cond (.t 23) (.seq c88_18 .ret) .skip)
def c88_r12 : List AI := [w 24 (.mv (.t 6)),w 2 (.asg (.t 24)),w 3 (.asg (.c U2 0))]
def c88_20 : AC := .out [2, 3] (.reg [6] c88_r12)
def c88_21 : AC := (.seq c88_0 (.seq (.seq c88_1 c88_15) (.seq c88_16 (.seq (.seq c88_17 c88_19) (.seq c88_20 .ret)))))
def c88 : AC := c88_21
def d88 : FD := { nargs := 1, body := c88, res := [.t 2, .t 3] }
-- anceps/text.Fold
def c56_r0 : List AI := [w 2 (.asg (.c .str []))]
def c56_0 : AC := .out [0] (.reg [0] c56_r0)
def c56_r1 : List AI := [w 6 (.mv (.t 0)),w 7 (.toSl (.t 6)),w 3 (.asg (.t 7))]
def c56_1 : AC := .out [3] (.reg [0] c56_r1)
def c56_r2 : List AI := [w 8 (.mv (.t 3)),w 9 (.lenL (.t 8)),w 10 (.mv (.c U2 0))]
def c56_2 : AC := .out [3, 8, 9, 10] (.reg [3] c56_r2)
def c56_r3 : List AI := [w 11 (.bin .lss (.t 10) (.t 9))]
def c56_3 : AC := .out [3, 8, 9, 10, 11] (.reg [3, 8, 9, 10] c56_r3)
def c56_4 : AC := .out [3, 8, 9, 10] (.cond (.t 11) .skip (.exit 0))
def c56_r4 : List AI := [w 12 (.mv (.t 10)),w 13 (.indexAddr U1 (.t 8) (.t 10)),w 14 (.load U1 (.t 13)),w 4 (.asg (.t 12)),w 5 (.asg (.t 14))]
def c56_5 : AC := .out [3, 4, 5, 8, 9, 10] (.reg [3, 8, 9, 10] c56_r4)
def c56_r5 : List AI := [w 15 (.mv (.t 5)),w 16 (.bin .geq (.t 15) (.c U1 65)),w 17 (.mv (.t 16)),
  ⟨some 18, .mv (.t 5), some (17, true)⟩,
  ⟨some 19, .bin .leq (.t 18) (.c U1 90), some (17, true)⟩,
  w 20 (.pick (.t 17) (.t 19) (.c .bool false))]
def c56_6 : AC := .out [3, 4, 5, 8, 9, 10, 20] (.reg [3, 4, 5, 8, 9, 10] c56_r5)
def c56_r6 : List AI := [w 21 (.mv (.t 3)),w 22 (.mv (.t 4)),w 23 (.mv (.t 5)),w 24 (.bin .sub (.t 23) (.c U1 65)),w 25 (.bin .add (.t 24) (.c U1 97)),w 26 (.indexAddr U1 (.t 21) (.t 22)),
  ⟨none, .store U1 (.t 26) (.t 25), none⟩]
def c56_7 : AC := .out [3, 8, 9, 10] (.reg [3, 4, 5, 8, 9, 10] c56_r6)
def c56_8 : AC := .out [3, 8, 9, 10] (.cond (.t 20) c56_7 .skip)
def c56_9 : AC := .out [3, 8, 9, 10] (.block 1 (.seq c56_5 (.seq c56_6 c56_8)))
def c56_r7 : List AI := [w 27 (.bin .add (.t 10) (.c U2 1)),w 10 (.mv (.t 27))]
def c56_10 : AC := .out [3, 8, 9, 10] (.reg [3, 8, 9, 10] c56_r7)
def c56_11 : AC := (.seq c56_3 (.seq c56_4 (.seq c56_9 c56_10)))
def c56_12 : AC := .out [3] (.loop [3, 8, 9, 10] c56_11)
def c56_13 : AC := .out [3] (.block 0 c56_12)
def c56_r8 : List AI := [w 28 (.mv (.t 3)),w 29 (.toStr (.t 28)),w 2 (.asg (.t 29))]
def c56_14 : AC := .out [2] (.reg [3] c56_r8)
def c56_15 : AC := (.seq c56_0 (.seq c56_1 (.seq (.seq c56_2 c56_13) (.seq c56_14 .ret))))
def c56 : AC := c56_15
def d56 : FD := { nargs := 1, body := c56, res := [.t 2] }
-- anceps/licence.word
def c73_r0 : List AI := [w 2 (.asg (.c U2 0))]
def c73_0 : AC := .out [0] (.reg [0] c73_r0)
def c73_r1 : List AI := [w 5 (.mv (.t 0)),w 6 (.lenS (.t 5)),w 7 (.bin .gtr (.t 6) (.c U2 16))]
def c73_1 : AC := .out [0, 7] (.reg [0] c73_r1)
def c73_r2 : List AI := [w 2 (.asg (.c U2 3))]
def c73_2 : AC := .out [2] (.reg [] c73_r2)
def c73_3 : AC := .out [0, 2] (.cond (.t 7) (.seq c73_2 .ret) .skip)
def c73_r3 : List AI := [w 9 (.mv (.t 0)),w 10 (.buildSlice 9 .str [(.t 9)]),w 11 (.call 88 [(.t 10)]),w 8 (.mv (.t 11)),w 12 (.extract 8 0),w 13 (.extract 8 1),w 3 (.asg (.t 12)),w 4 (.asg (.t 13))]
def c73_4 : AC := .out [0, 4] (.reg [0] c73_r3)
def c73_r4 : List AI := [w 14 (.mv (.t 4)),w 15 (.bin .neq (.t 14) (.c U2 0)),w 16 (.mv (.t 15)),
  ⟨some 17, .mv (.t 0), some (16, false)⟩,
  ⟨some 18, .call 56 [(.t 17)], some (16, false)⟩,
  ⟨some 19, .mv (.t 0), some (16, false)⟩,
  ⟨some 20, .bin .neq (.t 18) (.t 19), some (16, false)⟩,
  w 21 (.pick (.t 16) (.c .bool true) (.t 20))]
def c73_5 : AC := .out [21] (.reg [0, 4] c73_r4)
def c73_r5 : List AI := [w 2 (.asg (.c U2 2))]
def c73_6 : AC := .out [2] (.reg [] c73_r5)
def c73_7 : AC := .out [2] (.cond (.t 21) (.seq c73_6 .ret) .skip)
def c73_r6 : List AI := [w 2 (.asg (.c U2 0))]
def c73_8 : AC := .out [2] (.reg [] c73_r6)
def c73_9 : AC := (.seq c73_0 (.seq (.seq c73_1 c73_3) (.seq (.seq c73_4 (.seq c73_5 c73_7)) (.seq c73_8 .ret))))
def c73 : AC := c73_9
def d73 : FD := { nargs := 1, body := c73, res := [.t 2] }
-- slices.Index[[]string,string]
def c89_r0 : List AI := [w 4 (.asg (.c U2 0))]
def c89_0 : AC := .out [0, 1] (.reg [0, 1] c89_r0)
def c89_r1 : List AI := [w 6 (.mv (.t 0)),w 7 (.lenL (.t 6)),w 8 (.mv (.c U2 0))]
def c89_1 : AC := .out [0, 1, 7, 8] (.reg [0, 1] c89_r1)
def c89_r2 : List AI := [w 9 (.bin .lss (.t 8) (.t 7))]
def c89_2 : AC := .out [0, 1, 7, 8, 9] (.reg [0, 1, 7, 8] c89_r2)
def c89_3 : AC := .out [0, 1, 7, 8] (.cond (.t 9) .skip (.exit 0))
def c89_r3 : List AI := [w 10 (.mv (.t 8)),w 5 (.asg (.t 10))]
def c89_4 : AC := .out [0, 1, 5, 7, 8] (.reg [0, 1, 7, 8] c89_r3)
def c89_r4 : List AI := [w 11 (.mv (.t 1)),w 12 (.mv (.t 0)),w 13 (.mv (.t 5)),w 14 (.indexAddr .str (.t 12) (.t 13)),w 15 (.load .str (.t 14)),w 16 (.bin .eql (.t 11) (.t 15))]
def c89_5 : AC := .out [0, 1, 5, 7, 8, 16] (.reg [0, 1, 5, 7, 8] c89_r4)
def c89_r5 : List AI := [w 17 (.mv (.t 5)),w 4 (.asg (.t 17))]
def c89_6 : AC := .out [4] (.reg [5] c89_r5)
def c89_7 : AC := .out [0, 1, 4, 7, 8] (.cond (.t 16) (.seq c89_6 .ret) .skip)
def c89_8 : AC := .out [0, 1, 4, 7, 8] (.block 1 (.seq c89_4 (.seq c89_5 c89_7)))
def c89_r6 : List AI := [w 18 (.bin .add (.t 8) (.c U2 1)),w 8 (.mv (.t 18))]
def c89_9 : AC := .out [0, 1, 7, 8] (.reg [0, 1, 7, 8] c89_r6)
def c89_10 : AC := (.seq c89_2 (.seq c89_3 (.seq c89_8 c89_9)))
def c89_11 : AC := .out [4] (.loop [0, 1, 7, 8] c89_10)
def c89_12 : AC := .out [4] (.block 0 c89_11)
def c89_r7 : List AI := [w 4 (.asg (.c U2 (-1)))]
def c89_13 : AC := .out [4] (.reg [] c89_r7)
def c89_14 : AC := (.seq c89_0 (.seq (.seq c89_1 c89_12) (.seq c89_13 .ret)))
def c89 : AC := c89_14
def d89 : FD := { nargs := 2, body := c89, res := [.t 4] }
-- slices.Contains[[]string,string]
def c74_r0 : List AI := [w 4 (.asg (.c .bool false))]
def c74_0 : AC := .out [0, 1] (.reg [0, 1] c74_r0)
def c74_r1 : List AI := [w 5 (.mv (.t 0)),w 6 (.mv (.t 1)),w 7 (.call 89 [(.t 5), (.t 6)]),w 8 (.bin .geq (.t 7) (.c U2 0)),w 4 (.asg (.t 8))]
def c74_1 : AC := .out [4] (.reg [0, 1] c74_r1)
def c74_2 : AC := (.seq c74_0 (.seq c74_1 .ret))
def c74 : AC := c74_2
def d74 : FD := { nargs := 2, body := c74, res := [.t 4] }
-- anceps/licence.rule
def c54_r0 : List AI := [w 1 (.box U20 (.t 0)),w 2 (.asg (.c U2 0))]
def c54_0 : AC := .out [1] (.reg [0] c54_r0)
def c54_r1 : List AI := [w 7 (.fieldAddr U20 [.l] (.t 1)),w 8 (.load U2 (.t 7)),w 9 (.bin .lss (.t 8) (.c U2 1)),w 10 (.mv (.t 9)),
  ⟨some 11, .fieldAddr U20 [.l] (.t 1), some (10, false)⟩,
  ⟨some 12, .load U2 (.t 11), some (10, false)⟩,
  ⟨some 13, .bin .gtr (.t 12) (.c U2 12), some (10, false)⟩,
  w 14 (.pick (.t 10) (.c .bool true) (.t 13)),w 15 (.mv (.t 14)),
  ⟨some 16, .fieldAddr U20 [.r, .l] (.t 1), some (15, false)⟩,
  ⟨some 17, .load U2 (.t 16), some (15, false)⟩,
  ⟨some 18, .bin .lss (.t 17) (.c U2 0), some (15, false)⟩,
  w 19 (.pick (.t 15) (.c .bool true) (.t 18)),w 20 (.mv (.t 19)),
  ⟨some 21, .fieldAddr U20 [.r, .l] (.t 1), some (20, false)⟩,
  ⟨some 22, .load U2 (.t 21), some (20, false)⟩,
  ⟨some 23, .bin .gtr (.t 22) (.c U2 999), some (20, false)⟩,
  w 24 (.pick (.t 20) (.c .bool true) (.t 23)),w 6 (.asg (.t 24))]
def c54_1 : AC := .out [1, 6] (.reg [1] c54_r1)
def c54_r2 : List AI := [w 2 (.asg (.c U2 6))]
def c54_2 : AC := .out [2] (.reg [] c54_r2)
def c54_r3 : List AI := [w 26 (.fieldAddr U20 [.r, .r, .l] (.t 1)),w 27 (.load U0 (.t 26)),w 28 (.lenL (.t 27)),w 29 (.bin .gtr (.t 28) (.c U2 20)),w 25 (.asg (.t 29))]
def c54_3 : AC := .out [1, 25] (.reg [1] c54_r3)
def c54_r4 : List AI := [w 2 (.asg (.c U2 3))]
def c54_4 : AC := .out [2] (.reg [] c54_r4)
def c54_5 : AC := .out [1, 2] (.cond (.t 25) (.seq c54_4 .ret) .skip)
def c54_6 : AC := .out [1, 2] (.cond (.t 6) (.seq c54_2 .ret) (.seq c54_3 c54_5))
def c54_7 : AC := .out [1, 2] (.block 0 (.seq c54_1 c54_6))
def c54_r5 : List AI := [w 30 (.fieldAddr U20 [.r, .r, .l] (.t 1)),w 31 (.load U0 (.t 30)),w 32 (.lenL (.t 31)),w 33 (.mv (.c U2 0))]
def c54_8 : AC := .out [1, 31, 32, 33] (.reg [1] c54_r5)
def c54_r6 : List AI := [w 34 (.bin .lss (.t 33) (.t 32))]
def c54_9 : AC := .out [1, 31, 32, 33, 34] (.reg [1, 31, 32, 33] c54_r6)
def c54_10 : AC := .out [1, 31, 32, 33] (.cond (.t 34) .skip (.exit 1))
def c54_r7 : List AI := [w 35 (.mv (.t 33)),w 36 (.indexAddr .str (.t 31) (.t 33)),w 37 (.load .str (.t 36)),w 3 (.asg (.t 35)),w 4 (.asg (.t 37))]
def c54_11 : AC := .out [1, 3, 4, 31, 32, 33] (.reg [1, 31, 32, 33] c54_r7)
def c54_r8 : List AI := [w 38 (.mv (.t 4)),w 39 (.call 73 [(.t 38)]),w 5 (.asg (.t 39))]
def c54_12 : AC := .out [1, 3, 4, 5, 31, 32, 33] (.reg [1, 3, 4, 31, 32, 33] c54_r8)
def c54_r9 : List AI := [w 40 (.mv (.t 5)),w 41 (.bin .neq (.t 40) (.c U2 0))]
def c54_13 : AC := .out [1, 3, 4, 5, 31, 32, 33, 41] (.reg [1, 3, 4, 5, 31, 32, 33] c54_r9)
def c54_r10 : List AI := [w 42 (.mv (.t 5)),w 2 (.asg (.t 42))]
def c54_14 : AC := .out [2] (.reg [5] c54_r10)
def c54_15 : AC := .out [1, 2, 3, 4, 31, 32, 33] (.cond (.t 41) (.seq c54_14 .ret) .skip)
def c54_r11 : List AI := [w 43 (.fieldAddr U20 [.r, .r, .l] (.t 1)),w 44 (.load U0 (.t 43)),w 45 (.mv (.t 3)),w 46 (.sliceL .str (.t 44) none (some (.t 45)) none),w 47 (.mv (.t 4)),w 48 (.call 74 [(.t 46), (.t 47)])]
def c54_16 : AC := .out [1, 31, 32, 33, 48] (.reg [1, 3, 4, 31, 32, 33] c54_r11)
def c54_r12 : List AI := [w 2 (.asg (.c U2 5))]
def c54_17 : AC := .out [2] (.reg [] c54_r12)
def c54_18 : AC := .out [1, 2, 31, 32, 33] (.cond (.t 48) (.seq c54_17 .ret) .skip)
def c54_19 : AC := .out [1, 2, 31, 32, 33] (.block 2 (.seq c54_11 (.seq (.seq c54_12 (.seq c54_13 c54_15)) (.seq c54_16 c54_18))))
def c54_r13 : List AI := [w 49 (.bin .add (.t 33) (.c U2 1)),w 33 (.mv (.t 49))]
def c54_20 : AC := .out [1, 31, 32, 33] (.reg [1, 31, 32, 33] c54_r13)
def c54_21 : AC := (.seq c54_9 (.seq c54_10 (.seq c54_19 c54_20)))
def c54_22 : AC := .out [2] (.loop [1, 31, 32, 33] c54_21)
def c54_23 : AC := .out [2] (.block 1 c54_22)
def c54_r14 : List AI := [w 2 (.asg (.c U2 0))]
def c54_24 : AC := .out [2] (.reg [] c54_r14)
def c54_25 : AC := (.seq c54_0 (.seq c54_7 (.seq (.seq c54_8 c54_23) (.seq c54_24 .ret))))
def c54 : AC := c54_25
def d54 : FD := { nargs := 1, body := c54, res := [.t 2] }
-- anceps/licence.Valid
def c35_r0 : List AI := [w 1 (.box U26 (.t 0)),w 2 (.asg (.c U2 0))]
def c35_0 : AC := .out [1] (.reg [0] c35_r0)
def c35_r1 : List AI := [w 7 (.fieldAddr U26 [.l] (.t 1)),w 8 (.load .str (.t 7)),w 9 (.call 53 [(.t 8)]),w 10 (.un .not (.t 9)),w 6 (.asg (.t 10))]
def c35_1 : AC := .out [1, 6] (.reg [1] c35_r1)
def c35_r2 : List AI := [w 2 (.asg (.c U2 2))]
def c35_2 : AC := .out [2] (.reg [] c35_r2)
def c35_r3 : List AI := [w 12 (.fieldAddr U26 [.r, .l] (.t 1)),w 13 (.load U22 (.t 12)),w 14 (.lenL (.t 13)),w 15 (.bin .gtr (.t 14) (.c U2 30)),w 11 (.asg (.t 15))]
def c35_3 : AC := .out [1, 11] (.reg [1] c35_r3)
def c35_r4 : List AI := [w 2 (.asg (.c U2 3))]
def c35_4 : AC := .out [2] (.reg [] c35_r4)
def c35_5 : AC := .out [1, 2] (.cond (.t 11) (.seq c35_4 .ret) .skip)
def c35_6 : AC := .out [1, 2] (.cond (.t 6) (.seq c35_2 .ret) (.seq c35_3 c35_5))
def c35_7 : AC := .out [1, 2] (.block 0 (.seq c35_1 c35_6))
def c35_r5 : List AI := [w 16 (.fieldAddr U26 [.r, .l] (.t 1)),w 17 (.load U22 (.t 16)),w 18 (.lenL (.t 17)),w 19 (.mv (.c U2 0))]
def c35_8 : AC := .out [17, 18, 19] (.reg [1] c35_r5)
def c35_r6 : List AI := [w 20 (.bin .lss (.t 19) (.t 18))]
def c35_9 : AC := .out [17, 18, 19, 20] (.reg [17, 18, 19] c35_r6)
def c35_10 : AC := .out [17, 18, 19] (.cond (.t 20) .skip (.exit 1))
def c35_r7 : List AI := [w 21 (.indexAddr U20 (.t 17) (.t 19)),w 22 (.load U20 (.t 21)),w 4 (.alloc U20 (.pair .no (.pair .no (.pair (.own true 9 .no) .no)))),
  ⟨none, .store U20 (.t 4) (.t 22), none⟩]
def c35_11 : AC := .out [4, 17, 18, 19] (.reg [17, 18, 19] c35_r7)
def c35_r8 : List AI := [w 23 (.load U20 (.t 4)),w 24 (.call 54 [(.t 23)]),w 5 (.asg (.t 24))]
def c35_12 : AC := .out [5, 17, 18, 19] (.reg [4, 17, 18, 19] c35_r8)
def c35_r9 : List AI := [w 25 (.mv (.t 5)),w 26 (.bin .neq (.t 25) (.c U2 0))]
def c35_13 : AC := .out [5, 17, 18, 19, 26] (.reg [5, 17, 18, 19] c35_r9)
def c35_r10 : List AI := [w 27 (.mv (.t 5)),w 2 (.asg (.t 27))]
def c35_14 : AC := .out [2] (.reg [5] c35_r10)
def c35_15 : AC := .out [2, 17, 18, 19] (.cond (.t 26) (.seq c35_14 .ret) .skip)
def c35_16 : AC := .out [2, 17, 18, 19] (.block 2 (.seq c35_11 (.seq c35_12 (.seq c35_13 c35_15))))
def c35_r11 : List AI := [w 28 (.bin .add (.t 19) (.c U2 1)),w 19 (.mv (.t 28))]
def c35_17 : AC := .out [17, 18, 19] (.reg [17, 18, 19] c35_r11)
def c35_18 : AC := (.seq c35_9 (.seq c35_10 (.seq c35_16 c35_17)))
def c35_19 : AC := .out [2] (.loop [17, 18, 19] c35_18)
def c35_20 : AC := .out [2] (.block 1 c35_19)
def c35_r12 : List AI := [w 2 (.asg (.c U2 0))]
def c35_21 : AC := .out [2] (.reg [] c35_r12)
def c35_22 : AC := (.seq c35_0 (.seq c35_7 (.seq (.seq c35_8 c35_20) (.seq c35_21 .ret))))
def c35 : AC := c35_22
def d35 : FD := { nargs := 1, body := c35, res := [.t 2] }
-- anceps/sound.quantity
def c90_r0 : List AI := [w 1 (.box U18 (.t 0)),w 2 (.asg (.c .bool false))]
def c90_0 : AC := .out [1] (.reg [0] c90_r0)
def c90_r1 : List AI := [w 3 (.fieldAddr U18 [.l] (.t 1)),w 4 (.load U2 (.t 3))]
def c90_1 : AC := .out [1, 4] (.reg [1] c90_r1)
def c90_r2 : List AI := [w 6 (.bin .eql (.t 4) (.c U2 1)),w 5 (.asg (.t 6))]
def c90_2 : AC := .out [1, 4, 5] (.reg [1, 4] c90_r2)
def c90_r3 : List AI := [w 7 (.fieldAddr U18 [.r, .l] (.t 1)),w 8 (.load U2 (.t 7)),w 9 (.bin .geq (.t 8) (.c U2 1)),w 10 (.mv (.t 9)),
  ⟨some 11, .fieldAddr U18 [.r, .l] (.t 1), some (10, true)⟩,
  ⟨some 12, .load U2 (.t 11), some (10, true)⟩,
  ⟨some 13, .bin .leq (.t 12) (.c U2 3), some (10, true)⟩,
  w 14 (.pick (.t 10) (.t 13) (.c .bool false)),w 2 (.asg (.t 14))]
def c90_3 : AC := .out [2] (.reg [1] c90_r3)
def c90_r4 : List AI := [w 16 (.bin .eql (.t 4) (.c U2 2)),w 15 (.asg (.t 16))]
def c90_4 : AC := .out [1, 15] (.reg [1, 4] c90_r4)
def c90_r5 : List AI := [w 17 (.fieldAddr U18 [.r, .l] (.t 1)),w 18 (.load U2 (.t 17)),w 19 (.bin .eql (.t 18) (.c U2 2)),w 2 (.asg (.t 19))]
def c90_5 : AC := .out [2] (.reg [1] c90_r5)
def c90_6 : AC := .out [1, 2] (.cond (.t 15) (.seq c90_5 .ret) .skip)
def c90_7 : AC := .out [1, 2] (.cond (.t 5) (.seq c90_3 .ret) (.seq c90_4 c90_6))
def c90_8 : AC := .out [1, 2] (.block 0 (.seq c90_2 c90_7))
def c90_r6 : List AI := [w 20 (.fieldAddr U18 [.r, .l] (.t 1)),w 21 (.load U2 (.t 20)),w 22 (.bin .eql (.t 21) (.c U2 0)),w 2 (.asg (.t 22))]
def c90_9 : AC := .out [2] (.reg [1] c90_r6)
def c90_10 : AC := (.seq c90_0 (.seq (.seq c90_1 c90_8) (.seq c90_9 .ret)))
def c90 : AC := c90_10
def d90 : FD := { nargs := 1, body := c90, res := [.t 2] }
-- anceps/sound.written
def c93_r0 : List AI := [w 2 (.asg (.c .bool false))]
def c93_0 : AC := .out [0] (.reg [0] c93_r0)
def c93_r1 : List AI := [w 3 (.mv (.t 0)),w 4 (.bin .geq (.t 3) (.c U3 97)),w 5 (.mv (.t 4)),
  ⟨some 6, .mv (.t 0), some (5, true)⟩,
  ⟨some 7, .bin .leq (.t 6) (.c U3 122), some (5, true)⟩,
  w 8 (.pick (.t 5) (.t 7) (.c .bool false)),w 9 (.mv (.t 8)),
  ⟨some 10, .mv (.t 0), some (9, false)⟩,
  ⟨some 11, .bin .geq (.t 10) (.c U3 48), some (9, false)⟩,
  ⟨some 12, .mv (.t 11), some (9, false)⟩,
  ⟨some 13, .mv (.t 0), some (12, true)⟩,
  ⟨some 14, .bin .leq (.t 13) (.c U3 57), some (12, true)⟩,
  ⟨some 15, .pick (.t 12) (.t 14) (.c .bool false), some (9, false)⟩,
  w 16 (.pick (.t 9) (.c .bool true) (.t 15)),w 17 (.mv (.t 16)),
  ⟨some 18, .mv (.t 0), some (17, false)⟩,
  ⟨some 19, .bin .eql (.t 18) (.c U3 95), some (17, false)⟩,
  w 20 (.pick (.t 17) (.c .bool true) (.t 19)),w 21 (.mv (.t 20)),
  ⟨some 22, .mv (.t 0), some (21, false)⟩,
  ⟨some 23, .bin .eql (.t 22) (.c U3 94), some (21, false)⟩,
  w 24 (.pick (.t 21) (.c .bool true) (.t 23)),w 25 (.mv (.t 24)),
  ⟨some 26, .mv (.t 0), some (25, false)⟩,
  ⟨some 27, .bin .eql (.t 26) (.c U3 39), some (25, false)⟩,
  w 28 (.pick (.t 25) (.c .bool true) (.t 27)),w 2 (.asg (.t 28))]
def c93_1 : AC := .out [2] (.reg [0] c93_r1)
def c93_2 : AC := (.seq c93_0 (.seq c93_1 .ret))
def c93 : AC := c93_2
def d93 : FD := { nargs := 1, body := c93, res := [.t 2] }
-- anceps/sound.Valid$1
def c92_r0 : List AI := [w 2 (.asg (.c .bool false))]
def c92_0 : AC := .out [0] (.reg [0] c92_r0)
def c92_r1 : List AI := [w 3 (.mv (.t 0)),w 4 (.call 93 [(.t 3)]),w 5 (.un .not (.t 4)),w 2 (.asg (.t 5))]
def c92_1 : AC := .out [2] (.reg [0] c92_r1)
def c92_2 : AC := (.seq c92_0 (.seq c92_1 .ret))
def c92 : AC := c92_2
def d92 : FD := { nargs := 1, body := c92, res := [.t 2] }
-- strings.indexFunc
def c108_r0 : List AI := [w 6 (.asg (.c U2 0))]
def c108_0 : AC := .out [0, 1, 2] (.reg [0, 1, 2] c108_r0)
def c108_r1 : List AI := [w 9 (.mv (.t 0)),w 10 (.rng (.t 9))]
def c108_1 : AC := .out [1, 2, 10] (.reg [0, 1, 2] c108_r1)
def c108_r2 : List AI := [w 11 (.nxt 10),w 12 (.extract 11 0)]
def c108_2 : AC := .out [1, 2, 10, 11, 12] (.reg [1, 2, 10] c108_r2)
def c108_3 : AC := .out [1, 2, 10, 11] (.cond (.t 12) .skip (.exit 0))
def c108_r3 : List AI := [w 13 (.extract 11 1),w 14 (.extract 11 2),w 7 (.asg (.t 13)),w 8 (.asg (.t 14))]
def c108_4 : AC := .out [1, 2, 7, 8, 10] (.reg [1, 2, 10, 11] c108_r3)
def c108_r4 : List AI := [w 15 (.mv (.t 1)),w 16 (.mv (.t 8)),w 17 (.callv (.t 15) [(.t 16)]),w 18 (.mv (.t 2)),w 19 (.eqT false .bool (.t 17) (.t 18))]
def c108_5 : AC := .out [1, 2, 7, 10, 19] (.reg [1, 2, 7, 8, 10] c108_r4)
def c108_r5 : List AI := [w 20 (.mv (.t 7)),w 6 (.asg (.t 20))]
def c108_6 : AC := .out [6] (.reg [7] c108_r5)
def c108_7 : AC := .out [1, 2, 6, 10] (.cond (.t 19) (.seq c108_6 .ret) .skip)
def c108_8 : AC := .out [1, 2, 6, 10] (.block 1 (.seq c108_4 (.seq c108_5 c108_7)))
def c108_9 : AC := (.seq c108_2 (.seq c108_3 c108_8))
def c108_10 : AC := .out [6] (.loop [1, 2, 10] c108_9)
def c108_11 : AC := .out [6] (.block 0 c108_10)
def c108_r6 : List AI := [w 6 (.asg (.c U2 (-1)))]
def c108_12 : AC := .out [6] (.reg [] c108_r6)
def c108_13 : AC := (.seq c108_0 (.seq (.seq c108_1 c108_11) (.seq c108_12 .ret)))
def c108 : AC := c108_13
def d108 : FD := { nargs := 3, body := c108, res := [.t 6] }
-- strings.IndexFunc
def c101_r0 : List AI := [w 4 (.asg (.c U2 0))]
def c101_0 : AC := .out [0, 1] (.reg [0, 1] c101_r0)
def c101_r1 : List AI := [w 5 (.mv (.t 0)),w 6 (.mv (.t 1)),w 7 (.call 108 [(.t 5), (.t 6), (.c .bool true)]),w 4 (.asg (.t 7))]
def c101_1 : AC := .out [4] (.reg [0, 1] c101_r1)
def c101_2 : AC := (.seq c101_0 (.seq c101_1 .ret))
def c101 : AC := c101_2
def d101 : FD := { nargs := 2, body := c101, res := [.t 4] }
-- strings.ContainsFunc
def c91_r0 : List AI := [w 4 (.asg (.c .bool false))]
def c91_0 : AC := .out [0, 1] (.reg [0, 1] c91_r0)
def c91_r1 : List AI := [w 5 (.mv (.t 0)),w 6 (.mv (.t 1)),w 7 (.call 101 [(.t 5), (.t 6)]),w 8 (.bin .geq (.t 7) (.c U2 0)),w 4 (.asg (.t 8))]
def c91_1 : AC := .out [4] (.reg [0, 1] c91_r1)
def c91_2 : AC := (.seq c91_0 (.seq c91_1 .ret))
def c91 : AC := c91_2
def d91 : FD := { nargs := 2, body := c91, res := [.t 4] }
-- anceps/sound.Valid
def c75_r0 : List AI := [w 1 (.box U18 (.t 0)),w 2 (.asg (.c U2 0))]
def c75_0 : AC := .out [1] (.reg [0] c75_r0)
def c75_r1 : List AI := [w 4 (.fieldAddr U18 [.l] (.t 1)),w 5 (.load U2 (.t 4)),w 6 (.bin .lss (.t 5) (.c U2 1)),w 7 (.mv (.t 6)),
  ⟨some 8, .fieldAddr U18 [.l] (.t 1), some (7, false)⟩,
  ⟨some 9, .load U2 (.t 8), some (7, false)⟩,
  ⟨some 10, .bin .gtr (.t 9) (.c U2 9), some (7, false)⟩,
  w 11 (.pick (.t 7) (.c .bool true) (.t 10)),w 3 (.asg (.t 11))]
def c75_1 : AC := .out [1, 3] (.reg [1] c75_r1)
def c75_r2 : List AI := [w 2 (.asg (.c U2 1))]
def c75_2 : AC := .out [2] (.reg [] c75_r2)
def c75_r3 : List AI := [w 13 (.load U18 (.t 1)),w 14 (.call 90 [(.t 13)]),w 15 (.un .not (.t 14)),w 12 (.asg (.t 15))]
def c75_3 : AC := .out [1, 12] (.reg [1] c75_r3)
def c75_r4 : List AI := [w 2 (.asg (.c U2 6))]
def c75_4 : AC := .out [2] (.reg [] c75_r4)
def c75_r5 : List AI := [w 17 (.fieldAddr U18 [.r, .r, .l] (.t 1)),w 18 (.load .str (.t 17)),w 19 (.bin .eql (.t 18) (.c .str [])),w 16 (.asg (.t 19))]
def c75_5 : AC := .out [1, 16] (.reg [1] c75_r5)
def c75_r6 : List AI := [w 2 (.asg (.c U2 7))]
def c75_6 : AC := .out [2] (.reg [] c75_r6)
def c75_r7 : List AI := [w 21 (.fieldAddr U18 [.r, .r, .l] (.t 1)),w 22 (.load .str (.t 21)),w 23 (.lenS (.t 22)),w 24 (.bin .gtr (.t 23) (.c U2 8)),w 20 (.asg (.t 24))]
def c75_7 : AC := .out [1, 20] (.reg [1] c75_r7)
def c75_r8 : List AI := [w 2 (.asg (.c U2 3))]
def c75_8 : AC := .out [2] (.reg [] c75_r8)
def c75_r9 : List AI := [w 26 (.fieldAddr U18 [.r, .r, .l] (.t 1)),w 27 (.load .str (.t 26)),w 28 (.call 91 [(.t 27), (.fn 92 U9 .bool)]),w 25 (.asg (.t 28))]
def c75_9 : AC := .out [25] (.reg [1] c75_r9)
def c75_r10 : List AI := [w 2 (.asg (.c U2 2))]
def c75_10 : AC := .out [2] (.reg [] c75_r10)
def c75_11 : AC := .out [2] (.cond (.t 25) (.seq c75_10 .ret) .skip)
def c75_12 : AC := .out [2] (.cond (.t 20) (.seq c75_8 .ret) (.seq c75_9 c75_11))
def c75_13 : AC := .out [2] (.cond (.t 16) (.seq c75_6 .ret) (.seq c75_7 c75_12))
def c75_14 : AC := .out [2] (.cond (.t 12) (.seq c75_4 .ret) (.seq c75_5 c75_13))
def c75_15 : AC := .out [2] (.cond (.t 3) (.seq c75_2 .ret) (.seq c75_3 c75_14))
def c75_16 : AC := .out [2] (.block 0 (.seq c75_1 c75_15))
def c75_r11 : List AI := [w 2 (.asg (.c U2 0))]
def c75_17 : AC := .out [2] (.reg [] c75_r11)
def c75_18 : AC := (.seq c75_0 (.seq c75_16 (.seq c75_17 .ret)))
def c75 : AC := c75_18
def d75 : FD := { nargs := 1, body := c75, res := [.t 2] }
-- anceps/junction.valid
def c55_r0 : List AI := [w 2 (.asg (.c U2 0))]
def c55_0 : AC := .out [0] (.reg [0] c55_r0)
def c55_r1 : List AI := [w 6 (.mv (.t 0)),w 7 (.lenL (.t 6)),w 8 (.bin .gtr (.t 7) (.c U2 200))]
def c55_1 : AC := .out [0, 8] (.reg [0] c55_r1)
def c55_r2 : List AI := [w 2 (.asg (.c U2 3))]
def c55_2 : AC := .out [2] (.reg [] c55_r2)
def c55_3 : AC := .out [0, 2] (.cond (.t 8) (.seq c55_2 .ret) .skip)
def c55_r3 : List AI := [w 9 (.mv (.t 0)),w 10 (.lenL (.t 9)),w 11 (.mv (.c U2 0))]
def c55_4 : AC := .out [9, 10, 11] (.reg [0] c55_r3)
def c55_r4 : List AI := [w 12 (.bin .lss (.t 11) (.t 10))]
def c55_5 : AC := .out [9, 10, 11, 12] (.reg [9, 10, 11] c55_r4)
def c55_6 : AC := .out [9, 10, 11] (.cond (.t 12) .skip (.exit 0))
def c55_r5 : List AI := [w 13 (.indexAddr U18 (.t 9) (.t 11)),w 14 (.load U18 (.t 13)),w 4 (.alloc U18 .no),
  ⟨none, .store U18 (.t 4) (.t 14), none⟩]
def c55_7 : AC := .out [4, 9, 10, 11] (.reg [9, 10, 11] c55_r5)
def c55_r6 : List AI := [w 15 (.load U18 (.t 4)),w 16 (.call 75 [(.t 15)]),w 5 (.asg (.t 16))]
def c55_8 : AC := .out [5, 9, 10, 11] (.reg [4, 9, 10, 11] c55_r6)
def c55_r7 : List AI := [w 17 (.mv (.t 5)),w 18 (.bin .neq (.t 17) (.c U2 0))]
def c55_9 : AC := .out [5, 9, 10, 11, 18] (.reg [5, 9, 10, 11] c55_r7)
def c55_r8 : List AI := [w 19 (.mv (.t 5)),w 2 (.asg (.t 19))]
def c55_10 : AC := .out [2] (.reg [5] c55_r8)
def c55_11 : AC := .out [2, 9, 10, 11] (.cond (.t 18) (.seq c55_10 .ret) .skip)
def c55_12 : AC := .out [2, 9, 10, 11] (.block 1 (.seq c55_7 (.seq c55_8 (.seq c55_9 c55_11))))
def c55_r9 : List AI := [w 20 (.bin .add (.t 11) (.c U2 1)),w 11 (.mv (.t 20))]
def c55_13 : AC := .out [9, 10, 11] (.reg [9, 10, 11] c55_r9)
def c55_14 : AC := (.seq c55_5 (.seq c55_6 (.seq c55_12 c55_13)))
def c55_15 : AC := .out [2] (.loop [9, 10, 11] c55_14)
def c55_16 : AC := .out [2] (.block 0 c55_15)
def c55_r10 : List AI := [w 2 (.asg (.c U2 0))]
def c55_17 : AC := .out [2] (.reg [] c55_r10)
def c55_18 : AC := (.seq c55_0 (.seq (.seq c55_1 c55_3) (.seq (.seq c55_4 c55_16) (.seq c55_17 .ret))))
def c55 : AC := c55_18
def d55 : FD := { nargs := 1, body := c55, res := [.t 2] }
-- anceps/junction.both
def c36_r0 : List AI := [w 4 (.asg (.c U2 0))]
def c36_0 : AC := .out [0, 1] (.reg [0, 1] c36_r0)
def c36_r1 : List AI := [w 6 (.mv (.t 0)),w 7 (.call 55 [(.t 6)]),w 5 (.asg (.t 7))]
def c36_1 : AC := .out [1, 5] (.reg [0, 1] c36_r1)
def c36_r2 : List AI := [w 8 (.mv (.t 5)),w 9 (.bin .neq (.t 8) (.c U2 0))]
def c36_2 : AC := .out [1, 5, 9] (.reg [1, 5] c36_r2)
def c36_r3 : List AI := [w 10 (.mv (.t 5)),w 4 (.asg (.t 10))]
def c36_3 : AC := .out [4] (.reg [5] c36_r3)
def c36_4 : AC := .out [1, 4] (.cond (.t 9) (.seq c36_3 .ret) .skip)
def c36_r4 : List AI := [w 11 (.mv (.t 1)),w 12 (.call 55 [(.t 11)]),w 4 (.asg (.t 12))]
def c36_5 : AC := .out [4] (.reg [1] c36_r4)
def c36_6 : AC := (.seq c36_0 (.seq (.seq c36_1 (.seq c36_2 c36_4)) (.seq c36_5 .ret)))
def c36 : AC := c36_6
def d36 : FD := { nargs := 2, body := c36, res := [.t 4] }
-- anceps/sound.Nucleus
def c43_r0 : List AI := [w 1 (.box U18 (.t 0)),w 2 (.asg (.c .bool false))]
def c43_0 : AC := .out [1] (.reg [0] c43_r0)
def c43_r1 : List AI := [w 3 (.fieldAddr U18 [.l] (.t 1)),w 4 (.load U2 (.t 3)),w 5 (.bin .eql (.t 4) (.c U2 1)),w 6 (.mv (.t 5)),
  ⟨some 7, .fieldAddr U18 [.l] (.t 1), some (6, false)⟩,
  ⟨some 8, .load U2 (.t 7), some (6, false)⟩,
  ⟨some 9, .bin .eql (.t 8) (.c U2 2), some (6, false)⟩,
  w 10 (.pick (.t 6) (.c .bool true) (.t 9)),w 2 (.asg (.t 10))]
def c43_1 : AC := .out [2] (.reg [1] c43_r1)
def c43_2 : AC := (.seq c43_0 (.seq c43_1 .ret))
def c43 : AC := c43_2
def d43 : FD := { nargs := 1, body := c43, res := [.t 2] }
-- anceps/junction.Ends
def c14_r0 : List AI := [w 2 (.asg (.c U2 0))]
def c14_0 : AC := .out [0] (.reg [0] c14_r0)
def c14_r1 : List AI := [w 4 (.mv (.t 0)),w 5 (.lenL (.t 4)),w 3 (.asg (.t 5))]
def c14_1 : AC := .out [0, 3] (.reg [0] c14_r1)
def c14_r2 : List AI := [w 7 (.mv (.t 3)),w 8 (.bin .gtr (.t 7) (.c U2 0)),w 9 (.mv (.t 8)),
  ⟨some 10, .mv (.t 0), some (9, true)⟩,
  ⟨some 11, .mv (.t 3), some (9, true)⟩,
  ⟨some 12, .bin .sub (.t 11) (.c U2 1), some (9, true)⟩,
  ⟨some 13, .indexAddr U18 (.t 10) (.t 12), some (9, true)⟩,
  ⟨some 14, .load U18 (.t 13), some (9, true)⟩,
  ⟨some 15, .call 43 [(.t 14)], some (9, true)⟩,
  w 16 (.pick (.t 9) (.t 15) (.c .bool false)),w 6 (.asg (.t 16))]
def c14_2 : AC := .out [0, 3, 6] (.reg [0, 3] c14_r2)
def c14_r3 : List AI := [w 2 (.asg (.c U2 1))]
def c14_3 : AC := .out [2] (.reg [] c14_r3)
def c14_r4 : List AI := [w 18 (.mv (.t 3)),w 19 (.bin .gtr (.t 18) (.c U2 1)),w 20 (.mv (.t 19)),
  ⟨some 21, .mv (.t 0), some (20, true)⟩,
  ⟨some 22, .mv (.t 3), some (20, true)⟩,
  ⟨some 23, .bin .sub (.t 22) (.c U2 2), some (20, true)⟩,
  ⟨some 24, .indexAddr U18 (.t 21) (.t 23), some (20, true)⟩,
  ⟨some 25, .load U18 (.t 24), some (20, true)⟩,
  ⟨some 26, .call 43 [(.t 25)], some (20, true)⟩,
  w 27 (.pick (.t 20) (.t 26) (.c .bool false)),w 28 (.mv (.t 27)),
  ⟨some 29, .mv (.t 0), some (28, true)⟩,
  ⟨some 30, .mv (.t 3), some (28, true)⟩,
  ⟨some 31, .bin .sub (.t 30) (.c U2 1), some (28, true)⟩,
  ⟨some 32, .indexAddr U18 (.t 29) (.t 31), some (28, true)⟩,
  ⟨some 33, .fieldAddr U18 [.l] (.t 32), some (28, true)⟩,
  ⟨some 34, .load U2 (.t 33), some (28, true)⟩,
  ⟨some 35, .bin .eql (.t 34) (.c U2 5), some (28, true)⟩,
  w 36 (.pick (.t 28) (.t 35) (.c .bool false)),w 37 (.mv (.t 36)),
  ⟨some 38, .mv (.t 0), some (37, true)⟩,
  ⟨some 39, .mv (.t 3), some (37, true)⟩,
  ⟨some 40, .bin .sub (.t 39) (.c U2 1), some (37, true)⟩,
  ⟨some 41, .indexAddr U18 (.t 38) (.t 40), some (37, true)⟩,
  ⟨some 42, .fieldAddr U18 [.r, .r, .l] (.t 41), some (37, true)⟩,
  ⟨some 43, .load .str (.t 42), some (37, true)⟩,
  ⟨some 44, .bin .eql (.t 43) (.c .str [109]), some (37, true)⟩,
  w 45 (.pick (.t 37) (.t 44) (.c .bool false)),w 17 (.asg (.t 45))]
def c14_4 : AC := .out [17] (.reg [0, 3] c14_r4)
def c14_r5 : List AI := [w 2 (.asg (.c U2 2))]
def c14_5 : AC := .out [2] (.reg [] c14_r5)
def c14_6 : AC := .out [2] (.cond (.t 17) (.seq c14_5 .ret) .skip)
def c14_7 : AC := .out [2] (.cond (.t 6) (.seq c14_3 .ret) (.seq c14_4 c14_6))
def c14_8 : AC := .out [2] (.block 0 (.seq c14_2 c14_7))
def c14_r6 : List AI := [w 2 (.asg (.c U2 0))]
def c14_9 : AC := .out [2] (.reg [] c14_r6)
def c14_10 : AC := (.seq c14_0 (.seq c14_1 (.seq c14_8 (.seq c14_9 .ret))))
def c14 : AC := c14_10
def d14 : FD := { nargs := 1, body := c14, res := [.t 2] }
-- anceps/junction.first$1
def c62_r0 : List AI := [w 1 (.box U18 (.t 0)),w 2 (.asg (.c .bool false))]
def c62_0 : AC := .out [1] (.reg [0] c62_r0)
def c62_r1 : List AI := [w 3 (.fieldAddr U18 [.l] (.t 1)),w 4 (.load U2 (.t 3)),w 5 (.bin .neq (.t 4) (.c U2 9)),w 2 (.asg (.t 5))]
def c62_1 : AC := .out [2] (.reg [1] c62_r1)
def c62_2 : AC := (.seq c62_0 (.seq c62_1 .ret))
def c62 : AC := c62_2
def d62 : FD := { nargs := 1, body := c62, res := [.t 2] }
-- slices.IndexFunc[[]anceps/api.Sound,anceps/api.Sound]
def c61_r0 : List AI := [w 4 (.asg (.c U2 0))]
def c61_0 : AC := .out [0, 1] (.reg [0, 1] c61_r0)
def c61_r1 : List AI := [w 6 (.mv (.t 0)),w 7 (.lenL (.t 6)),w 8 (.mv (.c U2 0))]
def c61_1 : AC := .out [0, 1, 7, 8] (.reg [0, 1] c61_r1)
def c61_r2 : List AI := [w 9 (.bin .lss (.t 8) (.t 7))]
def c61_2 : AC := .out [0, 1, 7, 8, 9] (.reg [0, 1, 7, 8] c61_r2)
def c61_3 : AC := .out [0, 1, 7, 8] (.cond (.t 9) .skip (.exit 0))
def c61_r3 : List AI := [w 10 (.mv (.t 8)),w 5 (.asg (.t 10))]
def c61_4 : AC := .out [0, 1, 5, 7, 8] (.reg [0, 1, 7, 8] c61_r3)
def c61_r4 : List AI := [w 11 (.mv (.t 1)),w 12 (.mv (.t 0)),w 13 (.mv (.t 5)),w 14 (.indexAddr U18 (.t 12) (.t 13)),w 15 (.load U18 (.t 14)),w 16 (.callv (.t 11) [(.t 15)])]
def c61_5 : AC := .out [0, 1, 5, 7, 8, 16] (.reg [0, 1, 5, 7, 8] c61_r4)
def c61_r5 : List AI := [w 17 (.mv (.t 5)),w 4 (.asg (.t 17))]
def c61_6 : AC := .out [4] (.reg [5] c61_r5)
def c61_7 : AC := .out [0, 1, 4, 7, 8] (.cond (.t 16) (.seq c61_6 .ret) .skip)
def c61_8 : AC := .out [0, 1, 4, 7, 8] (.block 1 (.seq c61_4 (.seq c61_5 c61_7)))
def c61_r6 : List AI := [w 18 (.bin .add (.t 8) (.c U2 1)),w 8 (.mv (.t 18))]
def c61_9 : AC := .out [0, 1, 7, 8] (.reg [0, 1, 7, 8] c61_r6)
def c61_10 : AC := (.seq c61_2 (.seq c61_3 (.seq c61_8 c61_9)))
def c61_11 : AC := .out [4] (.loop [0, 1, 7, 8] c61_10)
def c61_12 : AC := .out [4] (.block 0 c61_11)
def c61_r7 : List AI := [w 4 (.asg (.c U2 (-1)))]
def c61_13 : AC := .out [4] (.reg [] c61_r7)
def c61_14 : AC := (.seq c61_0 (.seq (.seq c61_1 c61_12) (.seq c61_13 .ret)))
def c61 : AC := c61_14
def d61 : FD := { nargs := 2, body := c61, res := [.t 4] }
-- anceps/junction.first
def c42_r0 : List AI := [w 2 (.asg (.c U2 0))]
def c42_0 : AC := .out [0] (.reg [0] c42_r0)
def c42_r1 : List AI := [w 4 (.mv (.t 0)),w 5 (.call 61 [(.t 4), (.fn 62 U23 .bool)]),w 3 (.asg (.t 5))]
def c42_1 : AC := .out [0, 3] (.reg [0] c42_r1)
def c42_r2 : List AI := [w 6 (.mv (.t 3)),w 7 (.bin .lss (.t 6) (.c U2 0))]
def c42_2 : AC := .out [0, 3, 7] (.reg [0, 3] c42_r2)
def c42_r3 : List AI := [w 8 (.mv (.t 0)),w 9 (.lenL (.t 8)),w 2 (.asg (.t 9))]
def c42_3 : AC := .out [2] (.reg [0] c42_r3)
def c42_4 : AC := .out [2, 3] (.cond (.t 7) (.seq c42_3 .ret) .skip)
def c42_r4 : List AI := [w 10 (.mv (.t 3)),w 2 (.asg (.t 10))]
def c42_5 : AC := .out [2] (.reg [3] c42_r4)
def c42_6 : AC := (.seq c42_0 (.seq c42_1 (.seq (.seq c42_2 c42_4) (.seq c42_5 .ret))))
def c42 : AC := c42_6
def d42 : FD := { nargs := 1, body := c42, res := [.t 2] }
-- anceps/junction.Begins
def c13_r0 : List AI := [w 2 (.asg (.c .bool false))]
def c13_0 : AC := .out [0] (.reg [0] c13_r0)
def c13_r1 : List AI := [w 4 (.mv (.t 0)),w 5 (.call 42 [(.t 4)]),w 3 (.asg (.t 5))]
def c13_1 : AC := .out [0, 3] (.reg [0] c13_r1)
def c13_r2 : List AI := [w 6 (.mv (.t 3)),w 7 (.mv (.t 0)),w 8 (.lenL (.t 7)),w 9 (.bin .lss (.t 6) (.t 8)),w 10 (.mv (.t 9)),
  ⟨some 11, .mv (.t 0), some (10, true)⟩,
  ⟨some 12, .mv (.t 3), some (10, true)⟩,
  ⟨some 13, .indexAddr U18 (.t 11) (.t 12), some (10, true)⟩,
  ⟨some 14, .load U18 (.t 13), some (10, true)⟩,
  ⟨some 15, .call 43 [(.t 14)], some (10, true)⟩,
  w 16 (.pick (.t 10) (.t 15) (.c .bool false)),w 2 (.asg (.t 16))]
def c13_2 : AC := .out [2] (.reg [0, 3] c13_r2)
def c13_3 : AC := (.seq c13_0 (.seq c13_1 (.seq c13_2 .ret)))
def c13 : AC := c13_3
def d13 : FD := { nargs := 1, body := c13, res := [.t 2] }
-- anceps/junction.possible
def c37_r0 : List AI := [w 4 (.asg (.nil 3 U2))]
def c37_0 : AC := .out [0, 1] (.reg [0, 1] c37_r0)
def c37_r1 : List AI := [w 6 (.mv (.t 0)),w 7 (.call 14 [(.t 6)]),w 5 (.asg (.t 7))]
def c37_1 : AC := .out [0, 1, 5] (.reg [0, 1] c37_r1)
def c37_r2 : List AI := [w 9 (.mv (.t 5)),w 10 (.bin .eql (.t 9) (.c U2 0)),w 11 (.mv (.t 10)),
  ⟨some 12, .mv (.t 1), some (11, false)⟩,
  ⟨some 13, .call 13 [(.t 12)], some (11, false)⟩,
  ⟨some 14, .un .not (.t 13), some (11, false)⟩,
  w 15 (.pick (.t 11) (.c .bool true) (.t 14)),w 8 (.asg (.t 15))]
def c37_2 : AC := .out [0, 5, 8] (.reg [0, 1, 5] c37_r2)
def c37_r3 : List AI := [w 16 (.buildSlice 3 U2 [(.c U2 0)]),w 4 (.asg (.t 16))]
def c37_3 : AC := .out [4] (.reg [] c37_r3)
def c37_r4 : List AI := [w 18 (.mv (.t 5)),w 19 (.bin .eql (.t 18) (.c U2 2)),w 17 (.asg (.t 19))]
def c37_4 : AC := .out [0, 17] (.reg [0, 5] c37_r4)
def c37_r5 : List AI := [w 20 (.buildSlice 3 U2 [(.c U2 1), (.c U2 3)]),w 4 (.asg (.t 20))]
def c37_5 : AC := .out [4] (.reg [] c37_r5)
def c37_r6 : List AI := [w 22 (.mv (.t 0)),w 23 (.mv (.t 0)),w 24 (.lenL (.t 23)),w 25 (.bin .sub (.t 24) (.c U2 1)),w 26 (.indexAddr U18 (.t 22) (.t 25)),w 27 (.fieldAddr U18 [.r, .l] (.t 26)),w 28 (.load U2 (.t 27)),w 29 (.bin .eql (.t 28) (.c U2 1)),w 21 (.asg (.t 29))]
def c37_6 : AC := .out [21] (.reg [0] c37_r6)
def c37_r7 : List AI := [w 30 (.buildSlice 3 U2 [(.c U2 1), (.c U2 2), (.c U2 3)]),w 4 (.asg (.t 30))]
def c37_7 : AC := .out [4] (.reg [] c37_r7)
def c37_8 : AC := .out [4] (.cond (.t 21) (.seq c37_7 .ret) .skip)
def c37_9 : AC := .out [4] (.cond (.t 17) (.seq c37_5 .ret) (.seq c37_6 c37_8))
def c37_10 : AC := .out [4] (.cond (.t 8) (.seq c37_3 .ret) (.seq c37_4 c37_9))
def c37_11 : AC := .out [4] (.block 0 (.seq c37_2 c37_10))
def c37_r8 : List AI := [w 31 (.buildSlice 3 U2 [(.c U2 1), (.c U2 2), (.c U2 3), (.c U2 4)]),w 4 (.asg (.t 31))]
def c37_12 : AC := .out [4] (.reg [] c37_r8)
def c37_13 : AC := (.seq c37_0 (.seq c37_1 (.seq c37_11 (.seq c37_12 .ret))))
def c37 : AC := c37_13
def d37 : FD := { nargs := 2, body := c37, res := [.t 4] }
-- anceps/junction.needed
def c39_r0 : List AI := [w 4 (.asg (.c U2 0))]
def c39_0 : AC := .out [0, 1] (.reg [0, 1] c39_r0)
def c39_r1 : List AI := [w 5 (.mv (.t 0))]
def c39_1 : AC := .out [1, 5] (.reg [0, 1] c39_r1)
def c39_r2 : List AI := [w 7 (.bin .eql (.t 5) (.c U2 2)),w 6 (.asg (.t 7))]
def c39_2 : AC := .out [1, 5, 6] (.reg [1, 5] c39_r2)
def c39_r3 : List AI := [w 4 (.asg (.c U2 10))]
def c39_3 : AC := .out [4] (.reg [] c39_r3)
def c39_r4 : List AI := [w 9 (.bin .eql (.t 5) (.c U2 3)),w 8 (.asg (.t 9))]
def c39_4 : AC := .out [1, 5, 8] (.reg [1, 5] c39_r4)
def c39_r5 : List AI := [w 4 (.asg (.c U2 11))]
def c39_5 : AC := .out [4] (.reg [] c39_r5)
def c39_r6 : List AI := [w 11 (.bin .eql (.t 5) (.c U2 4)),w 10 (.asg (.t 11))]
def c39_6 : AC := .out [1, 10] (.reg [1, 5] c39_r6)
def c39_r7 : List AI := [w 4 (.asg (.c U2 12))]
def c39_7 : AC := .out [4] (.reg [] c39_r7)
def c39_8 : AC := .out [1, 4] (.cond (.t 10) (.seq c39_7 .ret) .skip)
def c39_9 : AC := .out [1, 4] (.cond (.t 8) (.seq c39_5 .ret) (.seq c39_6 c39_8))
def c39_10 : AC := .out [1, 4] (.cond (.t 6) (.seq c39_3 .ret) (.seq c39_4 c39_9))
def c39_11 : AC := .out [1, 4] (.block 0 (.seq c39_2 c39_10))
def c39_r8 : List AI := [w 12 (.mv (.t 1)),w 13 (.bin .eql (.t 12) (.c U2 2))]
def c39_12 : AC := .out [13] (.reg [1] c39_r8)
def c39_r9 : List AI := [w 4 (.asg (.c U2 9))]
def c39_13 : AC := .out [4] (.reg [] c39_r9)
def c39_14 : AC := .out [4] (.cond (.t 13) (.seq c39_13 .ret) .skip)
def c39_r10 : List AI := [w 4 (.asg (.c U2 8))]
def c39_15 : AC := .out [4] (.reg [] c39_r10)
def c39_16 : AC := (.seq c39_0 (.seq (.seq c39_1 c39_11) (.seq (.seq c39_12 c39_14) (.seq c39_15 .ret))))
def c39 : AC := c39_16
def d39 : FD := { nargs := 2, body := c39, res := [.t 4] }
-- anceps/licence.applies
def c57_r0 : List AI := [w 2 (.box U20 (.t 0)),w 4 (.asg (.c .bool false))]
def c57_0 : AC := .out [1, 2] (.reg [0, 1] c57_r0)
def c57_r1 : List AI := [w 5 (.fieldAddr U20 [.r, .r, .l] (.t 2)),w 6 (.load U0 (.t 5)),w 7 (.lenL (.t 6)),w 8 (.bin .eql (.t 7) (.c U2 0)),w 9 (.mv (.t 8)),
  ⟨some 10, .fieldAddr U20 [.r, .r, .l] (.t 2), some (9, false)⟩,
  ⟨some 11, .load U0 (.t 10), some (9, false)⟩,
  ⟨some 12, .mv (.t 1), some (9, false)⟩,
  ⟨some 13, .call 74 [(.t 11), (.t 12)], some (9, false)⟩,
  w 14 (.pick (.t 9) (.c .bool true) (.t 13)),w 4 (.asg (.t 14))]
def c57_1 : AC := .out [4] (.reg [1, 2] c57_r1)
def c57_2 : AC := (.seq c57_0 (.seq c57_1 .ret))
def c57 : AC := c57_2
def d57 : FD := { nargs := 2, body := c57, res := [.t 4] }
-- anceps/licence.Cost
def c38_r0 : List AI := [w 3 (.box U26 (.t 0)),w 6 (.asg (.c U2 0)),w 7 (.asg (.c .bool false))]
def c38_0 : AC := .out [1, 2, 3] (.reg [0, 1, 2] c38_r0)
def c38_r1 : List AI := [w 12 (.mv (.t 2)),w 13 (.call 56 [(.t 12)]),w 2 (.asg (.t 13))]
def c38_1 : AC := .out [1, 2, 3] (.reg [1, 2, 3] c38_r1)
def c38_r2 : List AI := [w 8 (.asg (.c U2 0)),w 9 (.asg (.c .bool false))]
def c38_2 : AC := .out [1, 2, 3, 8, 9] (.reg [1, 2, 3] c38_r2)
def c38_r3 : List AI := [w 14 (.fieldAddr U26 [.r, .l] (.t 3)),w 15 (.load U22 (.t 14)),w 16 (.lenL (.t 15)),w 17 (.mv (.c U2 0))]
def c38_3 : AC := .out [1, 2, 8, 9, 15, 16, 17] (.reg [1, 2, 3, 8, 9] c38_r3)
def c38_r4 : List AI := [w 18 (.bin .lss (.t 17) (.t 16))]
def c38_4 : AC := .out [1, 2, 8, 9, 15, 16, 17, 18] (.reg [1, 2, 8, 9, 15, 16, 17] c38_r4)
def c38_5 : AC := .out [1, 2, 8, 9, 15, 16, 17] (.cond (.t 18) .skip (.exit 0))
def c38_r5 : List AI := [w 19 (.indexAddr U20 (.t 15) (.t 17)),w 20 (.load U20 (.t 19)),w 11 (.alloc U20 (.pair .no (.pair .no (.pair (.own true 9 .no) .no)))),
  ⟨none, .store U20 (.t 11) (.t 20), none⟩]
def c38_6 : AC := .out [1, 2, 8, 9, 11, 15, 16, 17] (.reg [1, 2, 8, 9, 15, 16, 17] c38_r5)
def c38_r6 : List AI := [w 21 (.fieldAddr U20 [.l] (.t 11)),w 22 (.load U2 (.t 21)),w 23 (.mv (.t 1)),w 24 (.bin .eql (.t 22) (.t 23)),w 25 (.mv (.t 24)),
  ⟨some 26, .load U20 (.t 11), some (25, true)⟩,
  ⟨some 27, .mv (.t 2), some (25, true)⟩,
  ⟨some 28, .call 57 [(.t 26), (.t 27)], some (25, true)⟩,
  w 29 (.pick (.t 25) (.t 28) (.c .bool false)),w 30 (.mv (.t 29)),
  ⟨some 31, .mv (.t 9), some (30, true)⟩,
  ⟨some 32, .un .not (.t 31), some (30, true)⟩,
  ⟨some 33, .mv (.t 32), some (30, true)⟩,
  ⟨some 34, .fieldAddr U20 [.r, .l] (.t 11), some (33, false)⟩,
  ⟨some 35, .load U2 (.t 34), some (33, false)⟩,
  ⟨some 36, .mv (.t 8), some (33, false)⟩,
  ⟨some 37, .bin .lss (.t 35) (.t 36), some (33, false)⟩,
  ⟨some 38, .pick (.t 33) (.c .bool true) (.t 37), some (30, true)⟩,
  w 39 (.pick (.t 30) (.t 38) (.c .bool false))]
def c38_7 : AC := .out [1, 2, 8, 9, 11, 15, 16, 17, 39] (.reg [1, 2, 8, 9, 11, 15, 16, 17] c38_r6)
def c38_r7 : List AI := [w 40 (.fieldAddr U20 [.r, .l] (.t 11)),w 41 (.load U2 (.t 40)),w 8 (.asg (.t 41)),w 9 (.asg (.c .bool true))]
def c38_8 : AC := .out [1, 2, 8, 9, 15, 16, 17] (.reg [1, 2, 11, 15, 16, 17] c38_r7)
def c38_9 : AC := .out [1, 2, 8, 9, 15, 16, 17] (.cond (.t 39) c38_8 .skip)
def c38_10 : AC := .out [1, 2, 8, 9, 15, 16, 17] (.block 1 (.seq c38_6 (.seq c38_7 c38_9)))
def c38_r8 : List AI := [w 42 (.bin .add (.t 17) (.c U2 1)),w 17 (.mv (.t 42))]
def c38_11 : AC := .out [1, 2, 8, 9, 15, 16, 17] (.reg [1, 2, 8, 9, 15, 16, 17] c38_r8)
def c38_12 : AC := (.seq c38_4 (.seq c38_5 (.seq c38_10 c38_11)))
def c38_13 : AC := .out [8, 9] (.loop [1, 2, 8, 9, 15, 16, 17] c38_12)
def c38_14 : AC := .out [8, 9] (.block 0 c38_13)
def c38_r9 : List AI := [w 43 (.mv (.t 8)),w 44 (.mv (.t 9)),w 6 (.asg (.t 43)),w 7 (.asg (.t 44))]
def c38_15 : AC := .out [6, 7] (.reg [8, 9] c38_r9)
def c38_16 : AC := (.seq c38_0 (.seq c38_1 (.seq c38_2 (.seq (.seq c38_3 c38_14) (.seq c38_15 .ret)))))
def c38 : AC := c38_16
def d38 : FD := { nargs := 3, body := c38, res := [.t 6, .t 7] }
-- anceps/junction.Joints
def c11_r0 : List AI := [w 5 (.box U26 (.t 0)),w 10 (.asg (.nil 39 U16)),w 11 (.asg (.c U2 0))]
def c11_0 : AC := .out [1, 2, 3, 4, 5] (.reg [0, 1, 2, 3, 4] c11_r0)
def c11_r1 : List AI := [w 20 (.load U26 (.t 5)),w 21 (.call 35 [(.t 20)]),w 12 (.asg (.t 21))]
def c11_1 : AC := .out [1, 2, 3, 4, 5, 12] (.reg [1, 2, 3, 4, 5] c11_r1)
def c11_r2 : List AI := [w 22 (.mv (.t 12)),w 23 (.bin .neq (.t 22) (.c U2 0))]
def c11_2 : AC := .out [1, 2, 3, 4, 5, 12, 23] (.reg [1, 2, 3, 4, 5, 12] c11_r2)
def c11_r3 : List AI := [w 24 (.mv (.t 12)),w 10 (.asg (.nil 39 U16)),w 11 (.asg (.t 24))]
def c11_3 : AC := .out [10, 11] (.reg [12] c11_r3)
def c11_4 : AC := .out [1, 2, 3, 4, 5, 10, 11] (.cond (.t 23) (.seq c11_3 .ret) .skip)
def c11_r4 : List AI := [w 25 (.mv (.t 3)),w 26 (.mv (.t 4)),w 27 (.call 36 [(.t 25), (.t 26)]),w 13 (.asg (.t 27))]
def c11_5 : AC := .out [1, 2, 3, 4, 5, 13] (.reg [1, 2, 3, 4, 5] c11_r4)
def c11_r5 : List AI := [w 28 (.mv (.t 13)),w 29 (.bin .neq (.t 28) (.c U2 0))]
def c11_6 : AC := .out [1, 2, 3, 4, 5, 13, 29] (.reg [1, 2, 3, 4, 5, 13] c11_r5)
def c11_r6 : List AI := [w 30 (.mv (.t 13)),w 10 (.asg (.nil 39 U16)),w 11 (.asg (.t 30))]
def c11_7 : AC := .out [10, 11] (.reg [13] c11_r6)
def c11_8 : AC := .out [1, 2, 3, 4, 5, 10, 11] (.cond (.t 29) (.seq c11_7 .ret) .skip)
def c11_r7 : List AI := [w 14 (.asg (.nil 39 U16))]
def c11_9 : AC := .out [1, 2, 3, 4, 5, 14] (.reg [1, 2, 3, 4, 5] c11_r7)
def c11_r8 : List AI := [w 31 (.mv (.t 3)),w 32 (.mv (.t 4)),w 33 (.call 37 [(.t 31), (.t 32)]),w 34 (.lenL (.t 33)),w 35 (.mv (.c U2 0))]
def c11_10 : AC := .out [1, 2, 3, 5, 14, 33, 34, 35] (.reg [1, 2, 3, 4, 5, 14] c11_r8)
def c11_r9 : List AI := [w 36 (.bin .lss (.t 35) (.t 34))]
def c11_11 : AC := .out [1, 2, 3, 5, 14, 33, 34, 35, 36] (.reg [1, 2, 3, 5, 14, 33, 34, 35] c11_r9)
def c11_12 : AC := .out [1, 2, 3, 5, 14, 33, 34, 35] (.cond (.t 36) .skip (.exit 0))
def c11_r10 : List AI := [w 37 (.indexAddr U2 (.t 33) (.t 35)),w 38 (.load U2 (.t 37)),w 16 (.asg (.t 38))]
def c11_13 : AC := .out [1, 2, 3, 5, 14, 16, 33, 34, 35] (.reg [1, 2, 3, 5, 14, 33, 34, 35] c11_r10)
def c11_r11 : List AI := [w 39 (.mv (.t 16)),w 40 (.bin .eql (.t 39) (.c U2 0))]
def c11_14 : AC := .out [1, 2, 3, 5, 14, 16, 33, 34, 35, 40] (.reg [1, 2, 3, 5, 14, 16, 33, 34, 35] c11_r11)
def c11_r12 : List AI := [w 41 (.mv (.t 14)),w 42 (.mv (.t 16)),w 43 (.build U16 [([.l], (.t 42))]),w 44 (.buildSlice 39 U16 [(.t 43)]),w 45 (.append 39 U16 8796093022208 (.t 41) (.t 44)),w 14 (.asg (.t 45))]
def c11_15 : AC := .out [1, 2, 3, 5, 14, 33, 34, 35] (.reg [1, 2, 3, 5, 14, 16, 33, 34, 35] c11_r12)
def c11_16 : AC := .out [1, 2, 3, 5, 14, 16, 33, 34, 35] (.cond (.t 40) (.seq c11_15 (.exit 1)) .skip)
def c11_r13 : List AI := [w 46 (.mv (.t 1)),w 17 (.asg (.t 46))]
def c11_17 : AC := .out [1, 2, 3, 5, 14, 16, 17, 33, 34, 35] (.reg [1, 2, 3, 5, 14, 16, 33, 34, 35] c11_r13)
def c11_r14 : List AI := [w 47 (.mv (.t 16)),w 48 (.bin .eql (.t 47) (.c U2 2))]
def c11_18 : AC := .out [1, 2, 3, 5, 14, 16, 17, 33, 34, 35, 48] (.reg [1, 2, 3, 5, 14, 16, 17, 33, 34, 35] c11_r14)
def c11_r15 : List AI := [w 49 (.mv (.t 2)),w 17 (.asg (.t 49))]
def c11_19 : AC := .out [1, 2, 3, 5, 14, 16, 17, 33, 34, 35] (.reg [1, 2, 3, 5, 14, 16, 33, 34, 35] c11_r15)
def c11_20 : AC := .out [1, 2, 3, 5, 14, 16, 17, 33, 34, 35] (.cond (.t 48) c11_19 .skip)
def c11_21 : AC := (.seq c11_18 c11_20)
def c11_r16 : List DI := [{ ai := w 51 (.load U26 (.t 5)), hide := [52, 53, 54, 55, 56], wr := [51], pre := [] },
  { ai := w 52 (.mv (.t 16)), hide := [51, 53, 54, 56], wr := [52], pre := [] },
  { ai := w 53 (.mv (.t 3)), hide := [51, 52, 56], wr := [53], pre := [] },
  { ai := w 54 (.call 14 [(.t 53)]), hide := [51, 52, 56], wr := [54], pre := [2] },
  { ai := w 55 (.call 39 [(.t 52), (.t 54)]), hide := [51, 56], wr := [55], pre := [1, 2, 3] },
  { ai := w 56 (.mv (.t 17)), hide := [51, 52, 53, 54, 55], wr := [56], pre := [] },
  { ai := w 57 (.call 38 [(.t 51), (.t 55), (.t 56)]), hide := [], wr := [57], pre := [0, 1, 2, 3, 4, 5] },
  { ai := w 50 (.mv (.t 57)), hide := [], wr := [50], pre := [0, 1, 2, 3, 4, 5, 6], piv := true },
  { ai := w 58 (.extract 50 0), hide := [59], wr := [58], pre := [0, 1, 2, 3, 4, 5, 6, 7] },
  { ai := w 59 (.extract 50 1), hide := [18, 58], wr := [59], pre := [0, 1, 2, 3, 4, 5, 6, 7] },
  { ai := w 18 (.asg (.t 58)), hide := [59], wr := [18], pre := [0, 1, 2, 3, 4, 5, 6, 7, 8] },
  { ai := w 19 (.asg (.t 59)), hide := [], wr := [19], pre := [0, 1, 2, 3, 4, 5, 6, 7, 8, 9, 10] }]
def c11_22 : AC := .out [1, 2, 3, 5, 14, 16, 18, 19, 33, 34, 35] (.draw [1, 2, 3, 5, 14, 16, 17, 33, 34, 35] c11_r16)
def c11_r17 : List AI := [w 60 (.mv (.t 19))]
def c11_23 : AC := .out [1, 2, 3, 5, 14, 16, 18, 33, 34, 35, 60] (.reg [1, 2, 3, 5, 14, 16, 18, 19, 33, 34, 35] c11_r17)
def c11_r18 : List AI := [w 61 (.mv (.t 14)),w 62 (.mv (.t 16)),w 63 (.mv (.t 18)),w 64 (.build U16 [([.l], (.t 62)), ([.r, .l], (.t 63))]),w 65 (.buildSlice 39 U16 [(.t 64)]),w 66 (.append 39 U16 8796093022208 (.t 61) (.t 65)),w 14 (.asg (.t 66))]
def c11_24 : AC := .out [1, 2, 3, 5, 14, 33, 34, 35] (.reg [1, 2, 3, 5, 14, 16, 18, 33, 34, 35] c11_r18)
def c11_25 : AC := .out [1, 2, 3, 5, 14, 33, 34, 35] (.cond (.t 60) c11_24 .skip)
def c11_26 : AC := .out [1, 2, 3, 5, 14, 33, 34, 35] (.block 1 (.seq c11_13 (.seq (.seq c11_14 c11_16) (.seq c11_17 (.seq c11_21 (.seq c11_22 (.seq c11_23 c11_25)))))))
def c11_r19 : List AI := [w 67 (.bin .add (.t 35) (.c U2 1)),w 35 (.mv (.t 67))]
def c11_27 : AC := .out [1, 2, 3, 5, 14, 33, 34, 35] (.reg [1, 2, 3, 5, 14, 33, 34, 35] c11_r19)
def c11_28 : AC := (.seq c11_11 (.seq c11_12 (.seq c11_26 c11_27)))
def c11_29 : AC := .out [14] (.loop [1, 2, 3, 5, 14, 33, 34, 35] c11_28)
def c11_30 : AC := .out [14] (.block 0 c11_29)
def c11_r20 : List AI := [w 68 (.mv (.t 14)),w 10 (.asg (.t 68)),w 11 (.asg (.c U2 0))]
def c11_31 : AC := .out [10, 11, 14] (.reg [14] c11_r20)
def c11_32 : AC := (.seq c11_0 (.seq (.seq c11_1 (.seq c11_2 c11_4)) (.seq (.seq c11_5 (.seq c11_6 c11_8)) (.seq c11_9 (.seq (.seq c11_10 c11_30) (.seq c11_31 .ret))))))
def c11 : AC := c11_32
def d11 : FD := { nargs := 5, body := c11, res := [.t 10, .t 11] }
-- anceps/ancepsref05.small
def c76_r0 : List AI := [w 2 (.asg (.c .bool false))]
def c76_0 : AC := .out [0] (.reg [0] c76_r0)
def c76_r1 : List AI := [w 3 (.mv (.t 0)),w 4 (.bin .geq (.t 3) (.c U1 97)),w 5 (.mv (.t 4)),
  ⟨some 6, .mv (.t 0), some (5, true)⟩,
  ⟨some 7, .bin .leq (.t 6) (.c U1 122), some (5, true)⟩,
  w 8 (.pick (.t 5) (.t 7) (.c .bool false)),w 2 (.asg (.t 8))]
def c76_1 : AC := .out [2] (.reg [0] c76_r1)
def c76_2 : AC := (.seq c76_0 (.seq c76_1 .ret))
def c76 : AC := c76_2
def d76 : FD := { nargs := 1, body := c76, res := [.t 2] }
-- anceps/ancepsref05.digit
def c77_r0 : List AI := [w 2 (.asg (.c .bool false))]
def c77_0 : AC := .out [0] (.reg [0] c77_r0)
def c77_r1 : List AI := [w 3 (.mv (.t 0)),w 4 (.bin .geq (.t 3) (.c U1 48)),w 5 (.mv (.t 4)),
  ⟨some 6, .mv (.t 0), some (5, true)⟩,
  ⟨some 7, .bin .leq (.t 6) (.c U1 57), some (5, true)⟩,
  w 8 (.pick (.t 5) (.t 7) (.c .bool false)),w 2 (.asg (.t 8))]
def c77_1 : AC := .out [2] (.reg [0] c77_r1)
def c77_2 : AC := (.seq c77_0 (.seq c77_1 .ret))
def c77 : AC := c77_2
def d77 : FD := { nargs := 1, body := c77, res := [.t 2] }
-- anceps/ancepsref05.name
def c58_r0 : List AI := [w 2 (.asg (.c U2 0))]
def c58_0 : AC := .out [0] (.reg [0] c58_r0)
def c58_r1 : List AI := [w 4 (.mv (.t 0)),w 5 (.bin .eql (.t 4) (.c .str [])),w 6 (.mv (.t 5)),
  ⟨some 7, .mv (.t 0), some (6, false)⟩,
  ⟨some 8, .indexS (.t 7) (.c U2 0), some (6, false)⟩,
  ⟨some 9, .call 76 [(.t 8)], some (6, false)⟩,
  ⟨some 10, .un .not (.t 9), some (6, false)⟩,
  w 11 (.pick (.t 6) (.c .bool true) (.t 10))]
def c58_1 : AC := .out [0, 11] (.reg [0] c58_r1)
def c58_r2 : List AI := [w 2 (.asg (.c U2 0))]
def c58_2 : AC := .out [2] (.reg [] c58_r2)
def c58_3 : AC := .out [0, 2] (.cond (.t 11) (.seq c58_2 .ret) .skip)
def c58_r3 : List AI := [w 3 (.asg (.c U2 1))]
def c58_4 : AC := .out [0, 3] (.reg [0] c58_r3)
def c58_r4 : List AI := [w 12 (.mv (.t 3)),w 13 (.mv (.t 0)),w 14 (.lenS (.t 13)),w 15 (.bin .lss (.t 12) (.t 14))]
def c58_5 : AC := .out [0, 3, 15] (.reg [0, 3] c58_r4)
def c58_6 : AC := .out [0, 3] (.cond (.t 15) .skip (.exit 0))
def c58_r5 : List AI := [w 16 (.mv (.t 0)),w 17 (.mv (.t 3)),w 18 (.indexS (.t 16) (.t 17)),w 19 (.call 76 [(.t 18)]),w 20 (.mv (.t 19)),
  ⟨some 21, .mv (.t 0), some (20, false)⟩,
  ⟨some 22, .mv (.t 3), some (20, false)⟩,
  ⟨some 23, .indexS (.t 21) (.t 22), some (20, false)⟩,
  ⟨some 24, .call 77 [(.t 23)], some (20, false)⟩,
  w 25 (.pick (.t 20) (.c .bool true) (.t 24))]
def c58_7 : AC := .out [0, 3, 25] (.reg [0, 3] c58_r5)
def c58_r6 : List AI := [w 26 (.mv (.t 3)),w 27 (.bin .add (.t 26) (.c U2 1)),w 3 (.asg (.t 27))]
def c58_8 : AC := .out [0, 3] (.reg [0, 3] c58_r6)
def c58_9 : AC := .out [0, 3] (.cond (.t 25) (.seq c58_8 (.exit 1)) .skip)
def c58_r7 : List AI := [w 28 (.mv (.t 0)),w 29 (.mv (.t 3)),w 30 (.indexS (.t 28) (.t 29)),w 31 (.bin .neq (.t 30) (.c U1 45)),w 32 (.mv (.t 31)),
  ⟨some 33, .mv (.t 3), some (32, false)⟩,
  ⟨some 34, .bin .add (.t 33) (.c U2 1), some (32, false)⟩,
  ⟨some 35, .mv (.t 0), some (32, false)⟩,
  ⟨some 36, .lenS (.t 35), some (32, false)⟩,
  ⟨some 37, .bin .eql (.t 34) (.t 36), some (32, false)⟩,
  w 38 (.pick (.t 32) (.c .bool true) (.t 37)),w 39 (.mv (.t 38)),
  ⟨some 40, .mv (.t 0), some (39, false)⟩,
  ⟨some 41, .mv (.t 3), some (39, false)⟩,
  ⟨some 42, .bin .add (.t 41) (.c U2 1), some (39, false)⟩,
  ⟨some 43, .indexS (.t 40) (.t 42), some (39, false)⟩,
  ⟨some 44, .call 76 [(.t 43)], some (39, false)⟩,
  ⟨some 45, .un .not (.t 44), some (39, false)⟩,
  ⟨some 46, .mv (.t 45), some (39, false)⟩,
  ⟨some 47, .mv (.t 0), some (46, true)⟩,
  ⟨some 48, .mv (.t 3), some (46, true)⟩,
  ⟨some 49, .bin .add (.t 48) (.c U2 1), some (46, true)⟩,
  ⟨some 50, .indexS (.t 47) (.t 49), some (46, true)⟩,
  ⟨some 51, .call 77 [(.t 50)], some (46, true)⟩,
  ⟨some 52, .un .not (.t 51), some (46, true)⟩,
  ⟨some 53, .pick (.t 46) (.t 52) (.c .bool false), some (39, false)⟩,
  w 54 (.pick (.t 39) (.c .bool true) (.t 53))]
def c58_10 : AC := .out [0, 3, 54] (.reg [0, 3] c58_r7)
def c58_11 : AC := .out [0, 3] (.cond (.t 54) (.exit 0) .skip)
def c58_r8 : List AI := [w 55 (.mv (.t 3)),w 56 (.bin .add (.t 55) (.c U2 2)),w 3 (.asg (.t 56))]
def c58_12 : AC := .out [0, 3] (.reg [0, 3] c58_r8)
def c58_13 : AC := .out [0, 3] (.block 1 (.seq (.seq c58_7 c58_9) (.seq (.seq c58_10 c58_11) c58_12)))
def c58_14 : AC := (.seq (.seq c58_5 c58_6) c58_13)
def c58_15 : AC := .out [3] (.loop [0, 3] c58_14)
def c58_16 : AC := .out [3] (.block 0 c58_15)
def c58_r9 : List AI := [w 57 (.mv (.t 3)),w 2 (.asg (.t 57))]
def c58_17 : AC := .out [2] (.reg [3] c58_r9)
def c58_18 : AC := (.seq c58_0 (.seq (.seq c58_1 c58_3) (.seq c58_4 (.seq c58_16 (.seq c58_17 .ret)))))
def c58 : AC := c58_18
def d58 : FD := { nargs := 1, body := c58, res := [.t 2] }
-- anceps/ancepsref05.IsName
def c40_r0 : List AI := [w 2 (.asg (.c .bool false))]
def c40_0 : AC := .out [0] (.reg [0] c40_r0)
def c40_r1 : List AI := [w 3 (.mv (.t 0)),w 4 (.bin .neq (.t 3) (.c .str [])),w 5 (.mv (.t 4)),
  ⟨some 6, .mv (.t 0), some (5, true)⟩,
  ⟨some 7, .lenS (.t 6), some (5, true)⟩,
  ⟨some 8, .bin .leq (.t 7) (.c U2 20), some (5, true)⟩,
  w 9 (.pick (.t 5) (.t 8) (.c .bool false)),w 10 (.mv (.t 9)),
  ⟨some 11, .mv (.t 0), some (10, true)⟩,
  ⟨some 12, .call 58 [(.t 11)], some (10, true)⟩,
  ⟨some 13, .mv (.t 0), some (10, true)⟩,
  ⟨some 14, .lenS (.t 13), some (10, true)⟩,
  ⟨some 15, .bin .eql (.t 12) (.t 14), some (10, true)⟩,
  w 16 (.pick (.t 10) (.t 15) (.c .bool false)),w 2 (.asg (.t 16))]
def c40_1 : AC := .out [2] (.reg [0] c40_r1)
def c40_2 : AC := (.seq c40_0 (.seq c40_1 .ret))
def c40 : AC := c40_2
def d40 : FD := { nargs := 1, body := c40, res := [.t 2] }
-- anceps/ancepsref01.Fold
def c78_r0 : List AI := [w 2 (.asg (.c .str []))]
def c78_0 : AC := .out [0] (.reg [0] c78_r0)
def c78_r1 : List AI := [w 5 (.mv (.t 0)),w 6 (.lenS (.t 5)),w 7 (.mkSlice 5 U1 140737488355328 (.t 6) (.t 6)),w 3 (.asg (.t 7))]
def c78_1 : AC := .out [0, 3] (.reg [0] c78_r1)
def c78_r2 : List AI := [w 4 (.asg (.c U2 0))]
def c78_2 : AC := .out [0, 3, 4] (.reg [0, 3] c78_r2)
def c78_r3 : List AI := [w 8 (.mv (.t 4)),w 9 (.mv (.t 0)),w 10 (.lenS (.t 9)),w 11 (.bin .lss (.t 8) (.t 10))]
def c78_3 : AC := .out [0, 3, 4, 11] (.reg [0, 3, 4] c78_r3)
def c78_4 : AC := .out [0, 3, 4] (.cond (.t 11) .skip (.exit 0))
def c78_r5 : List AI := [w 14 (.mv (.t 3)),w 15 (.mv (.t 4)),w 16 (.mv (.t 0)),w 17 (.mv (.t 4)),w 18 (.indexS (.t 16) (.t 17)),w 19 (.indexAddr U1 (.t 14) (.t 15)),
  ⟨none, .store U1 (.t 19) (.t 18), none⟩]
def c78_5 : AC := .out [0, 3, 4] (.reg [0, 3, 4] c78_r5)
def c78_r6 : List AI := [w 20 (.mv (.t 0)),w 21 (.mv (.t 4)),w 22 (.indexS (.t 20) (.t 21)),w 23 (.bin .geq (.t 22) (.c U1 65)),w 24 (.mv (.t 23)),
  ⟨some 25, .mv (.t 0), some (24, true)⟩,
  ⟨some 26, .mv (.t 4), some (24, true)⟩,
  ⟨some 27, .indexS (.t 25) (.t 26), some (24, true)⟩,
  ⟨some 28, .bin .leq (.t 27) (.c U1 90), some (24, true)⟩,
  w 29 (.pick (.t 24) (.t 28) (.c .bool false))]
def c78_6 : AC := .out [0, 3, 4, 29] (.reg [0, 3, 4] c78_r6)
def c78_r7 : List AI := [w 30 (.mv (.t 3)),w 31 (.mv (.t 4)),w 32 (.mv (.t 0)),w 33 (.mv (.t 4)),w 34 (.indexS (.t 32) (.t 33)),w 35 (.bin .sub (.t 34) (.c U1 65)),w 36 (.bin .add (.t 35) (.c U1 97)),w 37 (.indexAddr U1 (.t 30) (.t 31)),
  ⟨none, .store U1 (.t 37) (.t 36), none⟩]
def c78_7 : AC := .out [0, 3, 4] (.reg [0, 3, 4] c78_r7)
def c78_8 : AC := .out [0, 3, 4] (.cond (.t 29) c78_7 .skip)
def c78_9 : AC := .out [0, 3, 4] (.block 1 (.seq c78_5 (.seq c78_6 c78_8)))
def c78_r4 : List AI := [w 12 (.mv (.t 4)),w 13 (.bin .add (.t 12) (.c U2 1)),w 4 (.asg (.t 13))]
def c78_10 : AC := .out [0, 3, 4] (.reg [0, 3, 4] c78_r4)
def c78_11 : AC := (.seq (.seq c78_3 c78_4) (.seq c78_9 c78_10))
def c78_12 : AC := .out [3] (.loop [0, 3, 4] c78_11)
def c78_13 : AC := .out [3] (.block 0 c78_12)
def c78_r8 : List AI := [w 38 (.mv (.t 3)),w 39 (.toStr (.t 38)),w 2 (.asg (.t 39))]
def c78_14 : AC := .out [2] (.reg [3] c78_r8)
def c78_15 : AC := (.seq c78_0 (.seq c78_1 (.seq (.seq c78_2 c78_13) (.seq c78_14 .ret))))
def c78 : AC := c78_15
def d78 : FD := { nargs := 1, body := c78, res := [.t 2] }
-- anceps/ancepsref01.Letter
def c79_r0 : List AI := [w 2 (.asg (.c .bool false))]
def c79_0 : AC := .out [0] (.reg [0] c79_r0)
def c79_r1 : List AI := [w 4 (.mv (.t 0)),w 5 (.bin .lss (.t 4) (.c U1 32)),w 6 (.mv (.t 5)),
  ⟨some 7, .mv (.t 0), some (6, false)⟩,
  ⟨some 8, .bin .gtr (.t 7) (.c U1 126), some (6, false)⟩,
  w 9 (.pick (.t 6) (.c .bool true) (.t 8))]
def c79_1 : AC := .out [0, 9] (.reg [0] c79_r1)
def c79_r2 : List AI := [w 2 (.asg (.c .bool false))]
def c79_2 : AC := .out [2] (.reg [] c79_r2)
def c79_3 : AC := .out [0, 2] (.cond (.t 9) (.seq c79_2 .ret) .skip)
def c79_r3 : List AI := [w 3 (.asg (.c U2 0))]
def c79_4 : AC := .out [0, 3] (.reg [0] c79_r3)
def c79_r4 : List AI := [w 10 (.mv (.t 3)),w 11 (.bin .lss (.t 10) (.c U2 15))]
def c79_5 : AC := .out [0, 3, 11] (.reg [0, 3] c79_r4)
def c79_6 : AC := .out [0, 3] (.cond (.t 11) .skip (.exit 0))
def c79_r6 : List AI := [w 14 (.mv (.t 3)),w 15 (.indexS (.c .str [32, 46, 44, 59, 58, 33, 63, 34, 45, 91, 93, 60, 62, 123, 125]) (.t 14)),w 16 (.mv (.t 0)),w 17 (.bin .eql (.t 15) (.t 16))]
def c79_7 : AC := .out [0, 3, 17] (.reg [0, 3] c79_r6)
def c79_r7 : List AI := [w 2 (.asg (.c .bool false))]
def c79_8 : AC := .out [2] (.reg [] c79_r7)
def c79_9 : AC := .out [0, 2, 3] (.cond (.t 17) (.seq c79_8 .ret) .skip)
def c79_10 : AC := .out [0, 2, 3] (.block 1 (.seq c79_7 c79_9))
def c79_r5 : List AI := [w 12 (.mv (.t 3)),w 13 (.bin .add (.t 12) (.c U2 1)),w 3 (.asg (.t 13))]
def c79_11 : AC := .out [0, 3] (.reg [0, 3] c79_r5)
def c79_12 : AC := (.seq (.seq c79_5 c79_6) (.seq c79_10 c79_11))
def c79_13 : AC := .out [2] (.loop [0, 3] c79_12)
def c79_14 : AC := .out [2] (.block 0 c79_13)
def c79_r8 : List AI := [w 2 (.asg (.c .bool true))]
def c79_15 : AC := .out [2] (.reg [] c79_r8)
def c79_16 : AC := (.seq c79_0 (.seq (.seq c79_1 c79_3) (.seq (.seq c79_4 c79_14) (.seq c79_15 .ret))))
def c79 : AC := c79_16
def d79 : FD := { nargs := 1, body := c79, res := [.t 2] }
-- anceps/ancepsref17.word
def c59_r0 : List AI := [w 2 (.asg (.c U2 0))]
def c59_0 : AC := .out [0] (.reg [0] c59_r0)
def c59_r1 : List AI := [w 4 (.mv (.t 0)),w 5 (.lenS (.t 4)),w 6 (.bin .gtr (.t 5) (.c U2 16))]
def c59_1 : AC := .out [0, 6] (.reg [0] c59_r1)
def c59_r2 : List AI := [w 2 (.asg (.c U2 3))]
def c59_2 : AC := .out [2] (.reg [] c59_r2)
def c59_3 : AC := .out [0, 2] (.cond (.t 6) (.seq c59_2 .ret) .skip)
def c59_r3 : List AI := [w 7 (.mv (.t 0)),w 8 (.bin .eql (.t 7) (.c .str [])),w 9 (.mv (.t 8)),
  ⟨some 10, .mv (.t 0), some (9, false)⟩,
  ⟨some 11, .call 78 [(.t 10)], some (9, false)⟩,
  ⟨some 12, .mv (.t 0), some (9, false)⟩,
  ⟨some 13, .bin .neq (.t 11) (.t 12), some (9, false)⟩,
  w 14 (.pick (.t 9) (.c .bool true) (.t 13))]
def c59_4 : AC := .out [0, 14] (.reg [0] c59_r3)
def c59_r4 : List AI := [w 2 (.asg (.c U2 2))]
def c59_5 : AC := .out [2] (.reg [] c59_r4)
def c59_6 : AC := .out [0, 2] (.cond (.t 14) (.seq c59_5 .ret) .skip)
def c59_r5 : List AI := [w 3 (.asg (.c U2 0))]
def c59_7 : AC := .out [0, 3] (.reg [0] c59_r5)
def c59_r6 : List AI := [w 15 (.mv (.t 3)),w 16 (.mv (.t 0)),w 17 (.lenS (.t 16)),w 18 (.bin .lss (.t 15) (.t 17))]
def c59_8 : AC := .out [0, 3, 18] (.reg [0, 3] c59_r6)
def c59_9 : AC := .out [0, 3] (.cond (.t 18) .skip (.exit 0))
def c59_r8 : List AI := [w 21 (.mv (.t 0)),w 22 (.mv (.t 3)),w 23 (.indexS (.t 21) (.t 22)),w 24 (.call 79 [(.t 23)]),w 25 (.un .not (.t 24))]
def c59_10 : AC := .out [0, 3, 25] (.reg [0, 3] c59_r8)
def c59_r9 : List AI := [w 2 (.asg (.c U2 2))]
def c59_11 : AC := .out [2] (.reg [] c59_r9)
def c59_12 : AC := .out [0, 2, 3] (.cond (.t 25) (.seq c59_11 .ret) .skip)
def c59_13 : AC := .out [0, 2, 3] (.block 1 (.seq c59_10 c59_12))
def c59_r7 : List AI := [w 19 (.mv (.t 3)),w 20 (.bin .add (.t 19) (.c U2 1)),w 3 (.asg (.t 20))]
def c59_14 : AC := .out [0, 3] (.reg [0, 3] c59_r7)
def c59_15 : AC := (.seq (.seq c59_8 c59_9) (.seq c59_13 c59_14))
def c59_16 : AC := .out [2] (.loop [0, 3] c59_15)
def c59_17 : AC := .out [2] (.block 0 c59_16)
def c59_r10 : List AI := [w 2 (.asg (.c U2 0))]
def c59_18 : AC := .out [2] (.reg [] c59_r10)
def c59_19 : AC := (.seq c59_0 (.seq (.seq c59_1 c59_3) (.seq (.seq c59_4 c59_6) (.seq (.seq c59_7 c59_17) (.seq c59_18 .ret)))))
def c59 : AC := c59_19
def d59 : FD := { nargs := 1, body := c59, res := [.t 2] }
-- anceps/ancepsref17.has
def c60_r0 : List AI := [w 4 (.asg (.c .bool false))]
def c60_0 : AC := .out [0, 1] (.reg [0, 1] c60_r0)
def c60_r1 : List AI := [w 5 (.asg (.c U2 0))]
def c60_1 : AC := .out [0, 1, 5] (.reg [0, 1] c60_r1)
def c60_r2 : List AI := [w 6 (.mv (.t 5)),w 7 (.mv (.t 0)),w 8 (.lenL (.t 7)),w 9 (.bin .lss (.t 6) (.t 8))]
def c60_2 : AC := .out [0, 1, 5, 9] (.reg [0, 1, 5] c60_r2)
def c60_3 : AC := .out [0, 1, 5] (.cond (.t 9) .skip (.exit 0))
def c60_r4 : List AI := [w 12 (.mv (.t 0)),w 13 (.mv (.t 5)),w 14 (.indexAddr .str (.t 12) (.t 13)),w 15 (.load .str (.t 14)),w 16 (.mv (.t 1)),w 17 (.bin .eql (.t 15) (.t 16))]
def c60_4 : AC := .out [0, 1, 5, 17] (.reg [0, 1, 5] c60_r4)
def c60_r5 : List AI := [w 4 (.asg (.c .bool true))]
def c60_5 : AC := .out [4] (.reg [] c60_r5)
def c60_6 : AC := .out [0, 1, 4, 5] (.cond (.t 17) (.seq c60_5 .ret) .skip)
def c60_7 : AC := .out [0, 1, 4, 5] (.block 1 (.seq c60_4 c60_6))
def c60_r3 : List AI := [w 10 (.mv (.t 5)),w 11 (.bin .add (.t 10) (.c U2 1)),w 5 (.asg (.t 11))]
def c60_8 : AC := .out [0, 1, 5] (.reg [0, 1, 5] c60_r3)
def c60_9 : AC := (.seq (.seq c60_2 c60_3) (.seq c60_7 c60_8))
def c60_10 : AC := .out [4] (.loop [0, 1, 5] c60_9)
def c60_11 : AC := .out [4] (.block 0 c60_10)
def c60_r6 : List AI := [w 4 (.asg (.c .bool false))]
def c60_12 : AC := .out [4] (.reg [] c60_r6)
def c60_13 : AC := (.seq c60_0 (.seq (.seq c60_1 c60_11) (.seq c60_12 .ret)))
def c60 : AC := c60_13
def d60 : FD := { nargs := 2, body := c60, res := [.t 4] }
-- anceps/ancepsref17.rule
def c41_r0 : List AI := [w 1 (.box U20 (.t 0)),w 2 (.asg (.c U2 0))]
def c41_0 : AC := .out [1] (.reg [0] c41_r0)
def c41_r1 : List AI := [w 5 (.fieldAddr U20 [.l] (.t 1)),w 6 (.load U2 (.t 5)),w 7 (.bin .lss (.t 6) (.c U2 1)),w 8 (.mv (.t 7)),
  ⟨some 9, .fieldAddr U20 [.l] (.t 1), some (8, false)⟩,
  ⟨some 10, .load U2 (.t 9), some (8, false)⟩,
  ⟨some 11, .bin .gtr (.t 10) (.c U2 12), some (8, false)⟩,
  w 12 (.pick (.t 8) (.c .bool true) (.t 11)),w 13 (.mv (.t 12)),
  ⟨some 14, .fieldAddr U20 [.r, .l] (.t 1), some (13, false)⟩,
  ⟨some 15, .load U2 (.t 14), some (13, false)⟩,
  ⟨some 16, .bin .lss (.t 15) (.c U2 0), some (13, false)⟩,
  w 17 (.pick (.t 13) (.c .bool true) (.t 16)),w 18 (.mv (.t 17)),
  ⟨some 19, .fieldAddr U20 [.r, .l] (.t 1), some (18, false)⟩,
  ⟨some 20, .load U2 (.t 19), some (18, false)⟩,
  ⟨some 21, .bin .gtr (.t 20) (.c U2 999), some (18, false)⟩,
  w 22 (.pick (.t 18) (.c .bool true) (.t 21))]
def c41_1 : AC := .out [1, 22] (.reg [1] c41_r1)
def c41_r2 : List AI := [w 2 (.asg (.c U2 6))]
def c41_2 : AC := .out [2] (.reg [] c41_r2)
def c41_3 : AC := .out [1, 2] (.cond (.t 22) (.seq c41_2 .ret) .skip)
def c41_r3 : List AI := [w 23 (.fieldAddr U20 [.r, .r, .l] (.t 1)),w 24 (.load U0 (.t 23)),w 25 (.lenL (.t 24)),w 26 (.bin .gtr (.t 25) (.c U2 20))]
def c41_4 : AC := .out [1, 26] (.reg [1] c41_r3)
def c41_r4 : List AI := [w 2 (.asg (.c U2 3))]
def c41_5 : AC := .out [2] (.reg [] c41_r4)
def c41_6 : AC := .out [1, 2] (.cond (.t 26) (.seq c41_5 .ret) .skip)
def c41_r5 : List AI := [w 3 (.asg (.c U2 0))]
def c41_7 : AC := .out [1, 3] (.reg [1] c41_r5)
def c41_r6 : List AI := [w 27 (.mv (.t 3)),w 28 (.fieldAddr U20 [.r, .r, .l] (.t 1)),w 29 (.load U0 (.t 28)),w 30 (.lenL (.t 29)),w 31 (.bin .lss (.t 27) (.t 30))]
def c41_8 : AC := .out [1, 3, 31] (.reg [1, 3] c41_r6)
def c41_9 : AC := .out [1, 3] (.cond (.t 31) .skip (.exit 0))
def c41_r8 : List AI := [w 34 (.fieldAddr U20 [.r, .r, .l] (.t 1)),w 35 (.load U0 (.t 34)),w 36 (.mv (.t 3)),w 37 (.indexAddr .str (.t 35) (.t 36)),w 38 (.load .str (.t 37)),w 39 (.call 59 [(.t 38)]),w 4 (.asg (.t 39))]
def c41_10 : AC := .out [1, 3, 4] (.reg [1, 3] c41_r8)
def c41_r9 : List AI := [w 40 (.mv (.t 4)),w 41 (.bin .neq (.t 40) (.c U2 0))]
def c41_11 : AC := .out [1, 3, 4, 41] (.reg [1, 3, 4] c41_r9)
def c41_r10 : List AI := [w 42 (.mv (.t 4)),w 2 (.asg (.t 42))]
def c41_12 : AC := .out [2] (.reg [4] c41_r10)
def c41_13 : AC := .out [1, 2, 3] (.cond (.t 41) (.seq c41_12 .ret) .skip)
def c41_r11 : List DI := [{ ai := w 43 (.fieldAddr U20 [.r, .r, .l] (.t 1)), hide := [45, 47, 48, 49, 50, 51], wr := [43], pre := [] },
  { ai := w 44 (.load U0 (.t 43)), hide := [45, 47, 48, 49, 50, 51], wr := [44], pre := [0] },
  { ai := w 45 (.mv (.t 3)), hide := [43, 44, 47, 48, 49, 50, 51], wr := [45], pre := [] },
  { ai := w 46 (.sliceL .str (.t 44) none (some (.t 45)) none), hide := [47, 48, 49, 50, 51], wr := [46], pre := [0, 1, 2] },
  { ai := w 47 (.fieldAddr U20 [.r, .r, .l] (.t 1)), hide := [43, 44, 45, 46, 49], wr := [47], pre := [] },
  { ai := w 48 (.load U0 (.t 47)), hide := [43, 44, 45, 46, 49], wr := [48], pre := [4] },
  { ai := w 49 (.mv (.t 3)), hide := [43, 44, 45, 46, 47, 48], wr := [49], pre := [] },
  { ai := w 50 (.indexAddr .str (.t 48) (.t 49)), hide := [43, 44, 45, 46], wr := [50], pre := [4, 5, 6] },
  { ai := w 51 (.load .str (.t 50)), hide := [43, 44, 45, 46], wr := [51], pre := [4, 5, 6, 7] },
  { ai := w 52 (.call 60 [(.t 46), (.t 51)]), hide := [], wr := [52], pre := [0, 1, 2, 3, 4, 5, 6, 7, 8] }]
def c41_14 : AC := .out [1, 3, 52] (.draw [1, 3] c41_r11)
def c41_r12 : List AI := [w 2 (.asg (.c U2 5))]
def c41_15 : AC := .out [2] (.reg [] c41_r12)
def c41_16 : AC := .out [1, 2, 3] (.cond (.t 52) (.seq c41_15 .ret) .skip)
def c41_17 : AC := .out [1, 2, 3] (.block 1 (.seq (.seq c41_10 (.seq c41_11 c41_13)) (.seq c41_14 c41_16)))
def c41_r7 : List AI := [w 32 (.mv (.t 3)),w 33 (.bin .add (.t 32) (.c U2 1)),w 3 (.asg (.t 33))]
def c41_18 : AC := .out [1, 3] (.reg [1, 3] c41_r7)
def c41_19 : AC := (.seq (.seq c41_8 c41_9) (.seq c41_17 c41_18))
def c41_20 : AC := .out [2] (.loop [1, 3] c41_19)
def c41_21 : AC := .out [2] (.block 0 c41_20)
def c41_r13 : List AI := [w 2 (.asg (.c U2 0))]
def c41_22 : AC := .out [2] (.reg [] c41_r13)
def c41_23 : AC := (.seq c41_0 (.seq (.seq c41_1 c41_3) (.seq (.seq c41_4 c41_6) (.seq (.seq c41_7 c41_21) (.seq c41_22 .ret)))))
def c41 : AC := c41_23
def d41 : FD := { nargs := 1, body := c41, res := [.t 2] }
-- anceps/ancepsref17.Valid
def c12_r0 : List AI := [w 1 (.box U26 (.t 0)),w 2 (.asg (.c U2 0))]
def c12_0 : AC := .out [1] (.reg [0] c12_r0)
def c12_r1 : List AI := [w 5 (.fieldAddr U26 [.l] (.t 1)),w 6 (.load .str (.t 5)),w 7 (.call 40 [(.t 6)]),w 8 (.un .not (.t 7))]
def c12_1 : AC := .out [1, 8] (.reg [1] c12_r1)
def c12_r2 : List AI := [w 2 (.asg (.c U2 2))]
def c12_2 : AC := .out [2] (.reg [] c12_r2)
def c12_3 : AC := .out [1, 2] (.cond (.t 8) (.seq c12_2 .ret) .skip)
def c12_r3 : List AI := [w 9 (.fieldAddr U26 [.r, .l] (.t 1)),w 10 (.load U22 (.t 9)),w 11 (.lenL (.t 10)),w 12 (.bin .gtr (.t 11) (.c U2 30))]
def c12_4 : AC := .out [1, 12] (.reg [1] c12_r3)
def c12_r4 : List AI := [w 2 (.asg (.c U2 3))]
def c12_5 : AC := .out [2] (.reg [] c12_r4)
def c12_6 : AC := .out [1, 2] (.cond (.t 12) (.seq c12_5 .ret) .skip)
def c12_r5 : List AI := [w 3 (.asg (.c U2 0))]
def c12_7 : AC := .out [1, 3] (.reg [1] c12_r5)
def c12_r6 : List AI := [w 13 (.mv (.t 3)),w 14 (.fieldAddr U26 [.r, .l] (.t 1)),w 15 (.load U22 (.t 14)),w 16 (.lenL (.t 15)),w 17 (.bin .lss (.t 13) (.t 16))]
def c12_8 : AC := .out [1, 3, 17] (.reg [1, 3] c12_r6)
def c12_9 : AC := .out [1, 3] (.cond (.t 17) .skip (.exit 0))
def c12_r8 : List AI := [w 20 (.fieldAddr U26 [.r, .l] (.t 1)),w 21 (.load U22 (.t 20)),w 22 (.mv (.t 3)),w 23 (.indexAddr U20 (.t 21) (.t 22)),w 24 (.load U20 (.t 23)),w 25 (.call 41 [(.t 24)]),w 4 (.asg (.t 25))]
def c12_10 : AC := .out [1, 3, 4] (.reg [1, 3] c12_r8)
def c12_r9 : List AI := [w 26 (.mv (.t 4)),w 27 (.bin .neq (.t 26) (.c U2 0))]
def c12_11 : AC := .out [1, 3, 4, 27] (.reg [1, 3, 4] c12_r9)
def c12_r10 : List AI := [w 28 (.mv (.t 4)),w 2 (.asg (.t 28))]
def c12_12 : AC := .out [2] (.reg [4] c12_r10)
def c12_13 : AC := .out [1, 2, 3] (.cond (.t 27) (.seq c12_12 .ret) .skip)
def c12_14 : AC := .out [1, 2, 3] (.block 1 (.seq c12_10 (.seq c12_11 c12_13)))
def c12_r7 : List AI := [w 18 (.mv (.t 3)),w 19 (.bin .add (.t 18) (.c U2 1)),w 3 (.asg (.t 19))]
def c12_15 : AC := .out [1, 3] (.reg [1, 3] c12_r7)
def c12_16 : AC := (.seq (.seq c12_8 c12_9) (.seq c12_14 c12_15))
def c12_17 : AC := .out [2] (.loop [1, 3] c12_16)
def c12_18 : AC := .out [2] (.block 0 c12_17)
def c12_r11 : List AI := [w 2 (.asg (.c U2 0))]
def c12_19 : AC := .out [2] (.reg [] c12_r11)
def c12_20 : AC := (.seq c12_0 (.seq (.seq c12_1 c12_3) (.seq (.seq c12_4 c12_6) (.seq (.seq c12_7 c12_18) (.seq c12_19 .ret)))))
def c12 : AC := c12_20
def d12 : FD := { nargs := 1, body := c12, res := [.t 2] }
-- anceps/ancepsref19.Same
def c15_r0 : List AI := [w 4 (.asg (.c .bool false))]
def c15_0 : AC := .out [0, 1] (.reg [0, 1] c15_r0)
def c15_r1 : List AI := [w 6 (.mv (.t 0)),w 7 (.lenL (.t 6)),w 8 (.mv (.t 1)),w 9 (.lenL (.t 8)),w 10 (.bin .neq (.t 7) (.t 9))]
def c15_1 : AC := .out [0, 1, 10] (.reg [0, 1] c15_r1)
def c15_r2 : List AI := [w 4 (.asg (.c .bool false))]
def c15_2 : AC := .out [4] (.reg [] c15_r2)
def c15_3 : AC := .out [0, 1, 4] (.cond (.t 10) (.seq c15_2 .ret) .skip)
def c15_r3 : List AI := [w 5 (.asg (.c U2 0))]
def c15_4 : AC := .out [0, 1, 5] (.reg [0, 1] c15_r3)
def c15_r4 : List AI := [w 11 (.mv (.t 5)),w 12 (.mv (.t 0)),w 13 (.lenL (.t 12)),w 14 (.bin .lss (.t 11) (.t 13))]
def c15_5 : AC := .out [0, 1, 5, 14] (.reg [0, 1, 5] c15_r4)
def c15_6 : AC := .out [0, 1, 5] (.cond (.t 14) .skip (.exit 0))
def c15_r6 : List DI := [{ ai := w 17 (.mv (.t 0)), hide := [18, 21, 22, 23, 24], wr := [17], pre := [] },
  { ai := w 18 (.mv (.t 5)), hide := [17, 21, 22, 23, 24], wr := [18], pre := [] },
  { ai := w 19 (.indexAddr U16 (.t 17) (.t 18)), hide := [21, 22, 23, 24], wr := [19], pre := [0, 1] },
  { ai := w 20 (.load U16 (.t 19)), hide := [21, 22, 23, 24], wr := [20], pre := [0, 1, 2] },
  { ai := w 21 (.mv (.t 1)), hide := [17, 18, 19, 20, 22], wr := [21], pre := [] },
  { ai := w 22 (.mv (.t 5)), hide := [17, 18, 19, 20, 21], wr := [22], pre := [] },
  { ai := w 23 (.indexAddr U16 (.t 21) (.t 22)), hide := [17, 18, 19, 20], wr := [23], pre := [4, 5] },
  { ai := w 24 (.load U16 (.t 23)), hide := [17, 18, 19, 20], wr := [24], pre := [4, 5, 6] },
  { ai := w 25 (.eqT true U16 (.t 20) (.t 24)), hide := [], wr := [25], pre := [0, 1, 2, 3, 4, 5, 6, 7] }]
def c15_7 : AC := .out [0, 1, 5, 25] (.draw [0, 1, 5] c15_r6)
def c15_r7 : List AI := [w 4 (.asg (.c .bool false))]
def c15_8 : AC := .out [4] (.reg [] c15_r7)
def c15_9 : AC := .out [0, 1, 4, 5] (.cond (.t 25) (.seq c15_8 .ret) .skip)
def c15_10 : AC := .out [0, 1, 4, 5] (.block 1 (.seq c15_7 c15_9))
def c15_r5 : List AI := [w 15 (.mv (.t 5)),w 16 (.bin .add (.t 15) (.c U2 1)),w 5 (.asg (.t 16))]
def c15_11 : AC := .out [0, 1, 5] (.reg [0, 1, 5] c15_r5)
def c15_12 : AC := (.seq (.seq c15_5 c15_6) (.seq c15_10 c15_11))
def c15_13 : AC := .out [4] (.loop [0, 1, 5] c15_12)
def c15_14 : AC := .out [4] (.block 0 c15_13)
def c15_r8 : List AI := [w 4 (.asg (.c .bool true))]
def c15_15 : AC := .out [4] (.reg [] c15_r8)
def c15_16 : AC := (.seq c15_0 (.seq (.seq c15_1 c15_3) (.seq (.seq c15_4 c15_14) (.seq c15_15 .ret))))
def c15 : AC := c15_16
def d15 : FD := { nargs := 2, body := c15, res := [.t 4] }
-- slices.Index[[]int,int]
def c80_r0 : List AI := [w 4 (.asg (.c U2 0))]
def c80_0 : AC := .out [0, 1] (.reg [0, 1] c80_r0)
def c80_r1 : List AI := [w 6 (.mv (.t 0)),w 7 (.lenL (.t 6)),w 8 (.mv (.c U2 0))]
def c80_1 : AC := .out [0, 1, 7, 8] (.reg [0, 1] c80_r1)
def c80_r2 : List AI := [w 9 (.bin .lss (.t 8) (.t 7))]
def c80_2 : AC := .out [0, 1, 7, 8, 9] (.reg [0, 1, 7, 8] c80_r2)
def c80_3 : AC := .out [0, 1, 7, 8] (.cond (.t 9) .skip (.exit 0))
def c80_r3 : List AI := [w 10 (.mv (.t 8)),w 5 (.asg (.t 10))]
def c80_4 : AC := .out [0, 1, 5, 7, 8] (.reg [0, 1, 7, 8] c80_r3)
def c80_r4 : List AI := [w 11 (.mv (.t 1)),w 12 (.mv (.t 0)),w 13 (.mv (.t 5)),w 14 (.indexAddr U2 (.t 12) (.t 13)),w 15 (.load U2 (.t 14)),w 16 (.bin .eql (.t 11) (.t 15))]
def c80_5 : AC := .out [0, 1, 5, 7, 8, 16] (.reg [0, 1, 5, 7, 8] c80_r4)
def c80_r5 : List AI := [w 17 (.mv (.t 5)),w 4 (.asg (.t 17))]
def c80_6 : AC := .out [4] (.reg [5] c80_r5)
def c80_7 : AC := .out [0, 1, 4, 7, 8] (.cond (.t 16) (.seq c80_6 .ret) .skip)
def c80_8 : AC := .out [0, 1, 4, 7, 8] (.block 1 (.seq c80_4 (.seq c80_5 c80_7)))
def c80_r6 : List AI := [w 18 (.bin .add (.t 8) (.c U2 1)),w 8 (.mv (.t 18))]
def c80_9 : AC := .out [0, 1, 7, 8] (.reg [0, 1, 7, 8] c80_r6)
def c80_10 : AC := (.seq c80_2 (.seq c80_3 (.seq c80_8 c80_9)))
def c80_11 : AC := .out [4] (.loop [0, 1, 7, 8] c80_10)
def c80_12 : AC := .out [4] (.block 0 c80_11)
def c80_r7 : List AI := [w 4 (.asg (.c U2 (-1)))]
def c80_13 : AC := .out [4] (.reg [] c80_r7)
def c80_14 : AC := (.seq c80_0 (.seq (.seq c80_1 c80_12) (.seq c80_13 .ret)))
def c80 : AC := c80_14
def d80 : FD := { nargs := 2, body := c80, res := [.t 4] }
-- slices.Contains[[]int,int]
def c63_r0 : List AI := [w 4 (.asg (.c .bool false))]
def c63_0 : AC := .out [0, 1] (.reg [0, 1] c63_r0)
def c63_r1 : List AI := [w 5 (.mv (.t 0)),w 6 (.mv (.t 1)),w 7 (.call 80 [(.t 5), (.t 6)]),w 8 (.bin .geq (.t 7) (.c U2 0)),w 4 (.asg (.t 8))]
def c63_1 : AC := .out [4] (.reg [0, 1] c63_r1)
def c63_2 : AC := (.seq c63_0 (.seq c63_1 .ret))
def c63 : AC := c63_2
def d63 : FD := { nargs := 2, body := c63, res := [.t 4] }
-- anceps/junction.apply
def c44_r0 : List AI := [w 6 (.asg (.nil 55 U18)),w 7 (.asg (.nil 55 U18)),w 8 (.asg (.nil 55 U18)),w 9 (.asg (.c U2 0))]
def c44_0 : AC := .out [0, 1, 2] (.reg [0, 1, 2] c44_r0)
def c44_r1 : List AI := [w 17 (.mv (.t 0)),w 18 (.mv (.t 1)),w 19 (.call 36 [(.t 17), (.t 18)]),w 10 (.asg (.t 19))]
def c44_1 : AC := .out [0, 1, 2, 10] (.reg [0, 1, 2] c44_r1)
def c44_r2 : List AI := [w 20 (.mv (.t 10)),w 21 (.bin .neq (.t 20) (.c U2 0))]
def c44_2 : AC := .out [0, 1, 2, 10, 21] (.reg [0, 1, 2, 10] c44_r2)
def c44_r3 : List AI := [w 22 (.mv (.t 10)),w 6 (.asg (.nil 55 U18)),w 7 (.asg (.nil 55 U18)),w 8 (.asg (.nil 55 U18)),w 9 (.asg (.t 22))]
def c44_3 : AC := .out [6, 7, 8, 9] (.reg [10] c44_r3)
def c44_4 : AC := .out [0, 1, 2, 6, 7, 8, 9] (.cond (.t 21) (.seq c44_3 .ret) .skip)
def c44_r4 : List AI := [w 23 (.mv (.t 2)),w 24 (.bin .lss (.t 23) (.c U2 0)),w 25 (.mv (.t 24)),
  ⟨some 26, .mv (.t 2), some (25, false)⟩,
  ⟨some 27, .bin .gtr (.t 26) (.c U2 4), some (25, false)⟩,
  w 28 (.pick (.t 25) (.c .bool true) (.t 27))]
def c44_5 : AC := .out [0, 1, 2, 28] (.reg [0, 1, 2] c44_r4)
def c44_r5 : List AI := [w 6 (.asg (.nil 55 U18)),w 7 (.asg (.nil 55 U18)),w 8 (.asg (.nil 55 U18)),w 9 (.asg (.c U2 6))]
def c44_6 : AC := .out [6, 7, 8, 9] (.reg [] c44_r5)
def c44_7 : AC := .out [0, 1, 2, 6, 7, 8, 9] (.cond (.t 28) (.seq c44_6 .ret) .skip)
def c44_r6 : List AI := [w 29 (.mv (.t 0)),w 30 (.mv (.t 1)),w 31 (.call 37 [(.t 29), (.t 30)]),w 32 (.mv (.t 2)),w 33 (.call 63 [(.t 31), (.t 32)]),w 34 (.un .not (.t 33))]
def c44_8 : AC := .out [0, 1, 2, 34] (.reg [0, 1, 2] c44_r6)
def c44_r7 : List AI := [w 6 (.asg (.nil 55 U18)),w 7 (.asg (.nil 55 U18)),w 8 (.asg (.nil 55 U18)),w 9 (.asg (.c U2 8))]
def c44_9 : AC := .out [6, 7, 8, 9] (.reg [] c44_r7)
def c44_10 : AC := .out [0, 1, 2, 6, 7, 8, 9] (.cond (.t 34) (.seq c44_9 .ret) .skip)
def c44_r8 : List AI := [w 35 (.mv (.t 0)),w 36 (.call 23 [(.t 35)]),w 37 (.mv (.t 1)),w 38 (.call 23 [(.t 37)]),w 11 (.asg (.t 36)),w 12 (.asg (.t 38))]
def c44_11 : AC := .out [0, 1, 2, 11, 12] (.reg [0, 1, 2] c44_r8)
def c44_r9 : List AI := [w 13 (.asg (.nil 55 U18))]
def c44_12 : AC := .out [0, 1, 2, 11, 12, 13] (.reg [0, 1, 2, 11, 12] c44_r9)
def c44_r10 : List AI := [w 39 (.mv (.t 2))]
def c44_13 : AC := .out [0, 1, 11, 12, 13, 39] (.reg [0, 1, 2, 11, 12, 13] c44_r10)
def c44_r11 : List AI := [w 41 (.bin .eql (.t 39) (.c U2 1)),w 40 (.asg (.t 41))]
def c44_14 : AC := .out [0, 1, 11, 12, 13, 39, 40] (.reg [0, 1, 11, 12, 13, 39] c44_r11)
def c44_r12 : List AI := [w 42 (.mv (.t 0)),w 43 (.lenL (.t 42)),w 44 (.mv (.t 0)),w 45 (.call 14 [(.t 44)]),w 46 (.bin .sub (.t 43) (.t 45)),w 14 (.asg (.t 46))]
def c44_15 : AC := .out [0, 11, 12, 14] (.reg [0, 11, 12] c44_r12)
def c44_r13 : List DI := [{ ai := w 47 (.mv (.t 11)), hide := [48, 49, 51, 52, 53, 54], wr := [47], pre := [] },
  { ai := w 48 (.mv (.t 14)), hide := [47, 49, 51, 52, 53, 54], wr := [48], pre := [] },
  { ai := w 49 (.mv (.t 14)), hide := [47, 48, 51, 52, 53, 54], wr := [49], pre := [] },
  { ai := w 50 (.sliceL U18 (.t 47) none (some (.t 48)) (some (.t 49))), hide := [51, 52, 53, 54], wr := [11, 47, 50], pre := [0, 1, 2] },
  { ai := w 51 (.mv (.t 0)), hide := [11, 47, 48, 49, 50, 52], wr := [51], pre := [] },
  { ai := w 52 (.mv (.t 14)), hide := [11, 47, 48, 49, 50, 51], wr := [52], pre := [] },
  { ai := w 53 (.sliceL U18 (.t 51) (some (.t 52)) none none), hide := [11, 47, 48, 49, 50], wr := [51, 53], pre := [4, 5] },
  { ai := w 54 (.call 23 [(.t 53)]), hide := [11, 47, 48, 49, 50], wr := [54], pre := [4, 5, 6] },
  { ai := w 11 (.asg (.t 50)), hide := [], wr := [11], pre := [0, 1, 2, 3, 4, 5, 6, 7], piv := true },
  { ai := w 13 (.asg (.t 54)), hide := [], wr := [13], pre := [0, 1, 2, 3, 4, 5, 6, 7, 8], piv := true }]
def c44_16 : AC := .out [11, 12, 13] (.draw [0, 11, 12, 14] c44_r13)
def c44_r14 : List AI := [w 56 (.bin .eql (.t 39) (.c U2 2)),w 55 (.asg (.t 56))]
def c44_17 : AC := .out [1, 11, 12, 13, 39, 55] (.reg [1, 11, 12, 13, 39] c44_r14)
def c44_r15 : List AI := [w 57 (.mv (.t 1)),w 58 (.call 42 [(.t 57)]),w 59 (.bin .add (.t 58) (.c U2 1)),w 15 (.asg (.t 59))]
def c44_18 : AC := .out [1, 11, 15] (.reg [1, 11] c44_r15)
def c44_r16 : List DI := [{ ai := w 60 (.mv (.t 1)), hide := [61, 64, 65, 66], wr := [60], pre := [] },
  { ai := w 61 (.mv (.t 15)), hide := [60, 64, 65, 66], wr := [61], pre := [] },
  { ai := w 62 (.sliceL U18 (.t 60) (some (.t 61)) none none), hide := [64, 65, 66], wr := [60, 62], pre := [0, 1] },
  { ai := w 63 (.call 23 [(.t 62)]), hide := [64, 65, 66], wr := [63], pre := [0, 1, 2] },
  { ai := w 64 (.mv (.t 1)), hide := [60, 61, 62, 63, 65], wr := [64], pre := [] },
  { ai := w 65 (.mv (.t 15)), hide := [60, 61, 62, 63, 64], wr := [65], pre := [] },
  { ai := w 66 (.sliceL U18 (.t 64) none (some (.t 65)) none), hide := [60, 61, 62, 63], wr := [64, 66], pre := [4, 5] },
  { ai := w 67 (.call 23 [(.t 66)]), hide := [], wr := [67], pre := [0, 1, 2, 3, 4, 5, 6], piv := true },
  { ai := w 12 (.asg (.t 63)), hide := [], wr := [12], pre := [0, 1, 2, 3, 4, 5, 6, 7], piv := true },
  { ai := w 13 (.asg (.t 67)), hide := [], wr := [13], pre := [0, 1, 2, 3, 4, 5, 6, 7, 8], piv := true }]
def c44_19 : AC := .out [11, 12, 13] (.draw [1, 11, 15] c44_r16)
def c44_r17 : List AI := [w 69 (.bin .eql (.t 39) (.c U2 4)),w 68 (.asg (.t 69))]
def c44_20 : AC := .out [11, 12, 13, 68] (.reg [11, 12, 13, 39] c44_r17)
def c44_r18 : List AI := [w 70 (.mv (.t 11)),w 71 (.mv (.t 11)),w 72 (.lenL (.t 71)),w 73 (.bin .sub (.t 72) (.c U2 1)),w 74 (.indexAddr U18 (.t 70) (.t 73)),w 16 (.asg (.t 74))]
def c44_21 : AC := .out [11, 12, 13, 16] (.reg [11, 12, 13] c44_r18)
def c44_r19 : List AI := [w 75 (.mv (.t 16)),w 76 (.mv (.t 16)),w 77 (.nilck (.t 75)),w 78 (.fieldAddr U18 [.l] (.t 77)),
  ⟨none, .store U2 (.t 78) (.c U2 1), none⟩,
  w 79 (.nilck (.t 76)),w 80 (.fieldAddr U18 [.r, .l] (.t 79)),
  ⟨none, .store U2 (.t 80) (.c U2 1), none⟩]
def c44_22 : AC := .out [11, 12, 13] (.reg [11, 12, 13, 16] c44_r19)
def c44_23 : AC := .out [11, 12, 13] (.cond (.t 68) (.seq c44_21 c44_22) .skip)
def c44_24 : AC := .out [11, 12, 13] (.cond (.t 55) (.seq c44_18 c44_19) (.seq c44_20 c44_23))
def c44_25 : AC := .out [11, 12, 13] (.cond (.t 40) (.seq c44_15 c44_16) (.seq c44_17 c44_24))
def c44_26 : AC := .out [11, 12, 13] (.block 0 (.seq c44_14 c44_25))
def c44_27 : AC := (.seq c44_13 c44_26)
def c44_r20 : List AI := [w 81 (.mv (.t 11)),w 82 (.mv (.t 12)),w 83 (.mv (.t 13)),w 6 (.asg (.t 81)),w 7 (.asg (.t 82)),w 8 (.asg (.t 83)),w 9 (.asg (.c U2 0))]
def c44_28 : AC := .out [6, 7, 8, 9, 11, 12, 13] (.reg [11, 12, 13] c44_r20)
def c44_29 : AC := (.seq c44_0 (.seq (.seq c44_1 (.seq c44_2 c44_4)) (.seq (.seq c44_5 c44_7) (.seq (.seq c44_8 c44_10) (.seq c44_11 (.seq c44_12 (.seq c44_27 (.seq c44_28 .ret))))))))
def c44 : AC := c44_29
def d44 : FD := { nargs := 3, body := c44, res := [.p 6, .t 7, .t 8, .t 9] }
-- anceps/junction.Apply
def c16_r0 : List AI := [w 6 (.asg (.nil 55 U18)),w 7 (.asg (.nil 55 U18)),w 8 (.asg (.c U2 0))]
def c16_0 : AC := .out [0, 1, 2] (.reg [0, 1, 2] c16_r0)
def c16_r1 : List AI := [w 14 (.mv (.t 0)),w 15 (.mv (.t 1)),w 16 (.mv (.t 2)),w 17 (.call 44 [(.t 14), (.t 15), (.t 16)]),w 13 (.mv (.t 17)),w 18 (.extract 13 0),w 19 (.extract 13 1),w 20 (.extract 13 2),w 21 (.extract 13 3),w 9 (.asg (.t 18)),w 10 (.asg (.t 19)),w 11 (.asg (.t 20)),w 12 (.asg (.t 21))]
def c16_1 : AC := .out [9, 10, 12] (.reg [0, 1, 2] c16_r1)
def c16_r2 : List AI := [w 22 (.mv (.t 9)),w 23 (.mv (.t 10)),w 24 (.mv (.t 12)),w 6 (.asg (.t 22)),w 7 (.asg (.t 23)),w 8 (.asg (.t 24))]
def c16_2 : AC := .out [6, 7, 8, 10] (.reg [9, 10, 12] c16_r2)
def c16_3 : AC := (.seq c16_0 (.seq c16_1 (.seq c16_2 .ret)))
def c16 : AC := c16_3
def d16 : FD := { nargs := 3, body := c16, res := [.t 6, .t 7, .t 8] }
-- anceps/ancepslaw19.JunctionApplied
def c3_r0 : List AI := [w 3 (.box U26 (.t 0)),w 6 (.asg (.c .bool false))]
def c3_0 : AC := .out [1, 2, 3] (.reg [0, 1, 2] c3_r0)
def c3_r1 : List AI := [w 17 (.call 8 []),w 18 (.un .not (.t 17)),w 19 (.mv (.t 18)),
  ⟨some 20, .load U26 (.t 3), some (19, false)⟩,
  ⟨some 21, .call 9 [(.t 20)], some (19, false)⟩,
  ⟨some 22, .un .not (.t 21), some (19, false)⟩,
  w 23 (.pick (.t 19) (.c .bool true) (.t 22)),w 24 (.mv (.t 23)),
  ⟨some 25, .mv (.t 1), some (24, false)⟩,
  ⟨some 26, .lenL (.t 25), some (24, false)⟩,
  ⟨some 27, .bin .gtr (.t 26) (.c U2 60), some (24, false)⟩,
  w 28 (.pick (.t 24) (.c .bool true) (.t 27)),w 29 (.mv (.t 28)),
  ⟨some 30, .mv (.t 2), some (29, false)⟩,
  ⟨some 31, .lenL (.t 30), some (29, false)⟩,
  ⟨some 32, .bin .gtr (.t 31) (.c U2 60), some (29, false)⟩,
  w 33 (.pick (.t 29) (.c .bool true) (.t 32))]
def c3_1 : AC := .out [1, 2, 3, 33] (.reg [1, 2, 3] c3_r1)
def c3_r2 : List AI := [w 34 (.call 8 []),w 6 (.asg (.t 34))]
def c3_2 : AC := .out [6] (.reg [] c3_r2)
def c3_3 : AC := .out [1, 2, 3, 6] (.cond (.t 33) (.seq c3_2 .ret) .skip)
def c3_r3 : List AI := [w 35 (.mv (.t 1)),w 36 (.call 10 [(.t 35)]),w 37 (.mv (.t 2)),w 38 (.call 10 [(.t 37)]),w 7 (.asg (.t 36)),w 8 (.asg (.t 38))]
def c3_4 : AC := .out [3, 7, 8] (.reg [1, 2, 3] c3_r3)
def c3_r4 : List AI := [w 40 (.load U26 (.t 3)),w 41 (.mv (.t 7)),w 42 (.mv (.t 8)),w 43 (.call 11 [(.t 40), (.c .str [105, 108, 108, 101]), (.c .str [101, 115, 116]), (.t 41), (.t 42)]),w 39 (.mv (.t 43)),w 44 (.extract 39 0),w 45 (.extract 39 1),w 9 (.asg (.t 44)),w 10 (.asg (.t 45))]
def c3_5 : AC := .out [3, 7, 8, 9, 10] (.reg [3, 7, 8] c3_r4)
def c3_r5 : List AI := [w 46 (.mv (.t 10)),w 47 (.bin .neq (.t 46) (.c U2 0))]
def c3_6 : AC := .out [3, 7, 8, 9, 10, 47] (.reg [3, 7, 8, 9, 10] c3_r5)
def c3_r6 : List AI := [w 48 (.mv (.t 10)),w 49 (.load U26 (.t 3)),w 50 (.call 12 [(.t 49)]),w 51 (.bin .eql (.t 48) (.t 50)),w 52 (.mv (.t 51)),
  ⟨some 53, .mv (.t 9), some (52, true)⟩,
  ⟨some 54, .lenL (.t 53), some (52, true)⟩,
  ⟨some 55, .bin .eql (.t 54) (.c U2 0), some (52, true)⟩,
  w 56 (.pick (.t 52) (.t 55) (.c .bool false)),w 6 (.asg (.t 56))]
def c3_7 : AC := .out [6] (.reg [3, 9, 10] c3_r6)
def c3_8 : AC := .out [6, 7, 8, 9] (.cond (.t 47) (.seq c3_7 .ret) .skip)
def c3_r7 : List AI := [w 57 (.mv (.t 8)),w 58 (.call 13 [(.t 57)]),w 59 (.un .not (.t 58)),w 60 (.mv (.t 59)),
  ⟨some 61, .mv (.t 7), some (60, false)⟩,
  ⟨some 62, .call 14 [(.t 61)], some (60, false)⟩,
  ⟨some 63, .bin .eql (.t 62) (.c U2 0), some (60, false)⟩,
  w 64 (.pick (.t 60) (.c .bool true) (.t 63)),w 11 (.asg (.t 64))]
def c3_9 : AC := .out [7, 8, 9, 11] (.reg [7, 8, 9] c3_r7)
def c3_r8 : List AI := [w 65 (.mv (.t 11))]
def c3_10 : AC := .out [7, 8, 9, 65] (.reg [7, 8, 9, 11] c3_r8)
def c3_r9 : List AI := [w 66 (.mv (.t 9)),w 67 (.build U16 []),w 68 (.buildSlice 39 U16 [(.t 67)]),w 69 (.call 15 [(.t 66), (.t 68)]),w 6 (.asg (.t 69))]
def c3_11 : AC := .out [6] (.reg [9] c3_r9)
def c3_12 : AC := .out [6, 7, 8, 9] (.cond (.t 65) (.seq c3_11 .ret) .skip)
def c3_r10 : List AI := [w 70 (.mv (.t 9)),w 71 (.lenL (.t 70)),w 72 (.mv (.c U2 0))]
def c3_13 : AC := .out [7, 8, 9, 70, 71, 72] (.reg [7, 8, 9] c3_r10)
def c3_r11 : List AI := [w 73 (.bin .lss (.t 72) (.t 71))]
def c3_14 : AC := .out [7, 8, 9, 70, 71, 72, 73] (.reg [7, 8, 9, 70, 71, 72] c3_r11)
def c3_15 : AC := .out [7, 8, 9, 70, 71, 72] (.cond (.t 73) .skip (.exit 0))
def c3_r12 : List AI := [w 74 (.mv (.t 72)),w 75 (.indexAddr U16 (.t 70) (.t 72)),w 76 (.load U16 (.t 75)),w 13 (.alloc U16 .no),w 12 (.asg (.t 74)),
  ⟨none, .store U16 (.t 13) (.t 76), none⟩]
def c3_16 : AC := .out [7, 8, 9, 12, 13, 70, 71, 72] (.reg [7, 8, 9, 70, 71, 72] c3_r12)
def c3_r13 : List AI := [w 78 (.mv (.t 7)),w 79 (.mv (.t 8)),w 80 (.fieldAddr U16 [.l] (.t 13)),w 81 (.load U2 (.t 80)),w 82 (.call 16 [(.t 78), (.t 79), (.t 81)]),w 77 (.mv (.t 82)),w 83 (.extract 77 0),w 84 (.extract 77 1),w 85 (.extract 77 2),w 14 (.asg (.t 83)),w 15 (.asg (.t 84)),w 16 (.asg (.t 85))]
def c3_17 : AC := .out [7, 8, 9, 12, 13, 16, 70, 71, 72] (.reg [7, 8, 9, 12, 13, 70, 71, 72] c3_r13)
def c3_r14 : List DI := [{ ai := w 86 (.mv (.t 16)), hide := [], wr := [86], pre := [] },
  { ai := w 87 (.bin .neq (.t 86) (.c U2 0)), hide := [], wr := [87], pre := [0] },
  { ai := w 88 (.mv (.t 87)), hide := [], wr := [88], pre := [0, 1] },
  { ai := ⟨some 89, .fieldAddr U16 [.l] (.t 13), some (88, false)⟩, hide := [], wr := [89], pre := [0, 1, 2] },
  { ai := ⟨some 90, .load U2 (.t 89), some (88, false)⟩, hide := [], wr := [90], pre := [0, 1, 2, 3] },
  { ai := ⟨some 91, .bin .eql (.t 90) (.c U2 0), some (88, false)⟩, hide := [], wr := [91], pre := [0, 1, 2, 3, 4] },
  { ai := w 92 (.pick (.t 88) (.c .bool true) (.t 91)), hide := [], wr := [92], pre := [0, 1, 2, 3, 4, 5] },
  { ai := w 93 (.mv (.t 92)), hide := [], wr := [93], pre := [0, 1, 2, 3, 4, 5, 6] },
  { ai := ⟨some 94, .mv (.t 12), some (93, false)⟩, hide := [], wr := [94], pre := [0, 1, 2, 3, 4, 5, 6, 7] },
  { ai := ⟨some 95, .bin .gtr (.t 94) (.c U2 0), some (93, false)⟩, hide := [], wr := [95], pre := [0, 1, 2, 3, 4, 5, 6, 7, 8] },
  { ai := ⟨some 96, .mv (.t 95), some (93, false)⟩, hide := [], wr := [96], pre := [0, 1, 2, 3, 4, 5, 6, 7, 8, 9] },
  { ai := ⟨some 97, .fieldAddr U16 [.l] (.t 13), some (96, true)⟩, hide := [99, 100, 101, 102, 103, 104], wr := [97], pre := [0, 1, 2, 3, 4, 5, 6, 7, 8, 9, 10] },
  { ai := ⟨some 98, .load U2 (.t 97), some (96, true)⟩, hide := [99, 100, 101, 102, 103, 104], wr := [98], pre := [0, 1, 2, 3, 4, 5, 6, 7, 8, 9, 10, 11] },
  { ai := ⟨some 99, .mv (.t 9), some (96, true)⟩, hide := [97, 98, 100, 101], wr := [99], pre := [0, 1, 2, 3, 4, 5, 6, 7, 8, 9, 10] },
  { ai := ⟨some 100, .mv (.t 12), some (96, true)⟩, hide := [97, 98, 99], wr := [100], pre := [0, 1, 2, 3, 4, 5, 6, 7, 8, 9, 10] },
  { ai := ⟨some 101, .bin .sub (.t 100) (.c U2 1), some (96, true)⟩, hide := [97, 98, 99], wr := [101], pre := [0, 1, 2, 3, 4, 5, 6, 7, 8, 9, 10, 14] },
  { ai := ⟨some 102, .indexAddr U16 (.t 99) (.t 101), some (96, true)⟩, hide := [97, 98], wr := [102], pre := [0, 1, 2, 3, 4, 5, 6, 7, 8, 9, 10, 13, 14, 15] },
  { ai := ⟨some 103, .fieldAddr U16 [.l] (.t 102), some (96, true)⟩, hide := [97, 98], wr := [103], pre := [0, 1, 2, 3, 4, 5, 6, 7, 8, 9, 10, 13, 14, 15, 16] },
  { ai := ⟨some 104, .load U2 (.t 103), some (96, true)⟩, hide := [97, 98], wr := [104], pre := [0, 1, 2, 3, 4, 5, 6, 7, 8, 9, 10, 13, 14, 15, 16, 17] },
  { ai := ⟨some 105, .bin .leq (.t 98) (.t 104), some (96, true)⟩, hide := [], wr := [105], pre := [0, 1, 2, 3, 4, 5, 6, 7, 8, 9, 10, 11, 12, 13, 14, 15, 16, 17, 18] },
  { ai := ⟨some 106, .pick (.t 96) (.t 105) (.c .bool false), some (93, false)⟩, hide := [], wr := [106], pre := [0, 1, 2, 3, 4, 5, 6, 7, 8, 9, 10, 11, 12, 13, 14, 15, 16, 17, 18, 19] },
  { ai := w 107 (.pick (.t 93) (.c .bool true) (.t 106)), hide := [], wr := [107], pre := [0, 1, 2, 3, 4, 5, 6, 7, 8, 9, 10, 11, 12, 13, 14, 15, 16, 17, 18, 19, 20] }]
def c3_18 : AC := .out [7, 8, 9, 70, 71, 72, 107] (.draw [7, 8, 9, 12, 13, 16, 70, 71, 72] c3_r14)
def c3_r15 : List AI := [w 6 (.asg (.c .bool false))]
def c3_19 : AC := .out [6] (.reg [] c3_r15)
def c3_20 : AC := .out [6, 7, 8, 9, 70, 71, 72] (.cond (.t 107) (.seq c3_19 .ret) .skip)
def c3_21 : AC := .out [6, 7, 8, 9, 70, 71, 72] (.block 1 (.seq c3_16 (.seq c3_17 (.seq c3_18 c3_20))))
def c3_r16 : List AI := [w 108 (.bin .add (.t 72) (.c U2 1)),w 72 (.mv (.t 108))]
def c3_22 : AC := .out [7, 8, 9, 70, 71, 72] (.reg [7, 8, 9, 70, 71, 72] c3_r16)
def c3_23 : AC := (.seq c3_14 (.seq c3_15 (.seq c3_21 c3_22)))
def c3_24 : AC := .out [6] (.loop [7, 8, 9, 70, 71, 72] c3_23)
def c3_25 : AC := .out [6] (.block 0 c3_24)
def c3_r17 : List AI := [w 6 (.asg (.c .bool true))]
def c3_26 : AC := .out [6] (.reg [] c3_r17)
def c3_27 : AC := (.seq c3_0 (.seq (.seq c3_1 c3_3) (.seq c3_4 (.seq c3_5 (.seq (.seq c3_6 c3_8) (.seq c3_9 (.seq (.seq c3_10 c3_12) (.seq (.seq c3_13 c3_25) (.seq c3_26 .ret)))))))))
def c3 : AC := c3_27
def d3 : FD := { nargs := 3, body := c3, res := [.t 6] }
-- anceps/ancepslaw19.awake
def c8_r0 : List AI := [w 0 (.asg (.c .bool false))]
def c8_r1 : List AI := [w 11 (.call 31 [(.c .str [105, 47, 118, 51, 32, 108, 47, 108, 32, 108, 47, 108, 32, 101, 47, 118, 51])]),w 10 (.mv (.t 11)),w 12 (.extract 10 0),w 13 (.extract 10 1),w 1 (.asg (.t 12)),w 2 (.asg (.t 13))]
def c8_r2 : List AI := [w 15 (.call 31 [(.c .str [101, 47, 118, 51, 32, 116, 47, 109])]),w 14 (.mv (.t 15)),w 16 (.extract 14 0),w 17 (.extract 14 1),w 3 (.asg (.t 16)),w 4 (.asg (.t 17))]
def c8_r3 : List AI := [w 19 (.call 32 []),w 20 (.mv (.t 1)),w 21 (.mv (.t 3)),w 22 (.call 11 [(.t 19), (.c .str [105, 108, 108, 101]), (.c .str [101, 116]), (.t 20), (.t 21)]),w 18 (.mv (.t 22)),w 23 (.extract 18 0),w 24 (.extract 18 1),w 5 (.asg (.t 23)),w 6 (.asg (.t 24))]
def c8_r4 : List AI := [w 26 (.mv (.t 1)),w 27 (.mv (.t 3)),w 28 (.call 16 [(.t 26), (.t 27), (.c U2 1)]),w 25 (.mv (.t 28)),w 29 (.extract 25 0),w 30 (.extract 25 1),w 31 (.extract 25 2),w 7 (.asg (.t 29)),w 8 (.asg (.t 30)),w 9 (.asg (.t 31))]
def c8_r5 : List AI := [w 32 (.mv (.t 6)),w 33 (.bin .eql (.t 32) (.c U2 0)),w 34 (.mv (.t 33)),
  ⟨some 35, .mv (.t 5), some (34, true)⟩,
  ⟨some 36, .build U16 [([.l], (.c U2 1))], some (34, true)⟩,
  ⟨some 37, .build U16 [([.l], (.c U2 3)), ([.r, .l], (.c U2 6))], some (34, true)⟩,
  ⟨some 38, .build U16 [([.l], (.c U2 4)), ([.r, .l], (.c U2 5))], some (34, true)⟩,
  ⟨some 39, .buildSlice 39 U16 [(.t 36), (.t 37), (.t 38)], some (34, true)⟩,
  ⟨some 40, .call 15 [(.t 35), (.t 39)], some (34, true)⟩,
  w 41 (.pick (.t 34) (.t 40) (.c .bool false)),w 42 (.mv (.t 41)),
  ⟨some 43, .mv (.t 9), some (42, true)⟩,
  ⟨some 44, .bin .eql (.t 43) (.c U2 0), some (42, true)⟩,
  w 45 (.pick (.t 42) (.t 44) (.c .bool false)),w 46 (.mv (.t 45)),
  ⟨some 47, .mv (.t 7), some (46, true)⟩,
  ⟨some 48, .mv (.t 1), some (46, true)⟩,
  ⟨some 49, .sliceL U18 (.t 48) none (some (.c U2 3)) none, some (46, true)⟩,
  ⟨some 50, .call 29 [(.t 47), (.t 49)], some (46, true)⟩,
  w 51 (.pick (.t 46) (.t 50) (.c .bool false)),w 52 (.mv (.t 51)),
  ⟨some 53, .mv (.t 8), some (52, true)⟩,
  ⟨some 54, .mv (.t 3), some (52, true)⟩,
  ⟨some 55, .call 29 [(.t 53), (.t 54)], some (52, true)⟩,
  w 56 (.pick (.t 52) (.t 55) (.c .bool false)),w 0 (.asg (.t 56))]
def c8 : AC := (.seq (.reg [] c8_r0) (.seq (.reg [] c8_r1) (.seq (.reg [1, 12] c8_r2) (.seq (.reg [1, 3, 12, 16] c8_r3) (.seq (.reg [1, 3, 5, 6, 12, 16, 23] c8_r4) (.seq (.reg [1, 3, 5, 6, 7, 8, 9, 12, 16, 23, 29, 30] c8_r5) .ret))))))
def d8 : FD := { nargs := 0, body := c8, res := [.t 0] }
-- anceps/ancepsref11.Same
def c29_r0 : List AI := [w 4 (.asg (.c .bool false))]
def c29_r1 : List AI := [w 6 (.mv (.t 0)),w 7 (.lenL (.t 6)),w 8 (.mv (.t 1)),w 9 (.lenL (.t 8)),w 10 (.bin .neq (.t 7) (.t 9))]
def c29_r2 : List AI := [w 4 (.asg (.c .bool false))]
def c29_r3 : List AI := [w 5 (.asg (.c U2 0))]
def c29_r4 : List AI := [w 11 (.mv (.t 5)),w 12 (.mv (.t 0)),w 13 (.lenL (.t 12)),w 14 (.bin .lss (.t 11) (.t 13))]
def c29_r6 : List DI := [{ ai := w 17 (.mv (.t 0)), hide := [18, 21, 22, 23, 24], wr := [17], pre := [] },
  { ai := w 18 (.mv (.t 5)), hide := [17, 21, 22, 23, 24], wr := [18], pre := [] },
  { ai := w 19 (.indexAddr U18 (.t 17) (.t 18)), hide := [21, 22, 23, 24], wr := [19], pre := [0, 1] },
  { ai := w 20 (.load U18 (.t 19)), hide := [21, 22, 23, 24], wr := [20], pre := [0, 1, 2] },
  { ai := w 21 (.mv (.t 1)), hide := [17, 18, 19, 20, 22], wr := [21], pre := [] },
  { ai := w 22 (.mv (.t 5)), hide := [17, 18, 19, 20, 21], wr := [22], pre := [] },
  { ai := w 23 (.indexAddr U18 (.t 21) (.t 22)), hide := [17, 18, 19, 20], wr := [23], pre := [4, 5] },
  { ai := w 24 (.load U18 (.t 23)), hide := [17, 18, 19, 20], wr := [24], pre := [4, 5, 6] },
  { ai := w 25 (.call 48 [(.t 20), (.t 24)]), hide := [], wr := [25], pre := [0, 1, 2, 3, 4, 5, 6, 7] },
  { ai := w 26 (.bin .neq (.t 25) (.c U2 0)), hide := [], wr := [26], pre := [0, 1, 2, 3, 4, 5, 6, 7, 8] }]
def c29_r7 : List AI := [w 4 (.asg (.c .bool false))]
def c29_r5 : List AI := [w 15 (.mv (.t 5)),w 16 (.bin .add (.t 15) (.c U2 1)),w 5 (.asg (.t 16))]
def c29_r8 : List AI := [w 4 (.asg (.c .bool true))]
def c29 : AC := (.seq (.reg [0, 1] c29_r0) (.seq (.seq (.reg [0, 1] c29_r1) (.cond (.t 10) (.seq (.reg [] c29_r2) .ret) .skip)) (.seq (.seq (.reg [0, 1] c29_r3) (.block 0 (.loop [0, 1, 5] (.seq (.seq (.reg [0, 1, 5] c29_r4) (.cond (.t 14) .skip (.exit 0))) (.seq (.block 1 (.seq (.draw [0, 1, 5] c29_r6) (.cond (.t 26) (.seq (.reg [] c29_r7) .ret) .skip))) (.reg [0, 1, 5] c29_r5)))))) (.seq (.reg [] c29_r8) .ret))))
def d29 : FD := { nargs := 2, body := c29, res := [.t 4] }
-- anceps/ancepsref11.Parse
def c31_r0 : List AI := [w 2 (.asg (.nil 55 U18)),w 3 (.asg (.c U2 0))]
def c31_r1 : List AI := [w 9 (.mv (.t 0)),w 10 (.lenS (.t 9)),w 11 (.bin .gtr (.t 10) (.c U2 4000))]
def c31_r2 : List AI := [w 2 (.asg (.nil 55 U18)),w 3 (.asg (.c U2 3))]
def c31_r3 : List AI := [w 12 (.mv (.t 0)),w 13 (.bin .eql (.t 12) (.c .str []))]
def c31_r4 : List AI := [w 2 (.asg (.nil 55 U18)),w 3 (.asg (.c U2 0))]
def c31_r5 : List AI := [w 4 (.asg (.nil 55 U18))]
def c31_r6 : List AI := [w 14 (.mv (.t 0)),w 15 (.call 50 [(.t 14)]),w 5 (.asg (.t 15))]
def c31_r7 : List AI := [w 6 (.asg (.c U2 0))]
def c31_r8 : List AI := [w 16 (.mv (.t 6)),w 17 (.mv (.t 5)),w 18 (.lenL (.t 17)),w 19 (.bin .lss (.t 16) (.t 18))]
def c31_r10 : List AI := [w 23 (.mv (.t 5)),w 24 (.mv (.t 6)),w 25 (.indexAddr .str (.t 23) (.t 24)),w 26 (.load .str (.t 25)),w 27 (.call 51 [(.t 26)]),w 22 (.mv (.t 27)),w 28 (.extract 22 0),w 29 (.extract 22 1),w 7 (.alloc U18 .no),
  ⟨none, .store U18 (.t 7) (.t 28), none⟩,
  w 8 (.asg (.t 29))]
def c31_r11 : List AI := [w 30 (.mv (.t 8)),w 31 (.un .not (.t 30))]
def c31_r12 : List AI := [w 2 (.asg (.nil 55 U18)),w 3 (.asg (.c U2 2))]
def c31_r13 : List AI := [w 32 (.mv (.t 4)),w 33 (.load U18 (.t 7)),w 34 (.buildSlice 55 U18 [(.t 33)]),w 35 (.append 55 U18 4398046511104 (.t 32) (.t 34)),w 4 (.asg (.t 35))]
def c31_r9 : List AI := [w 20 (.mv (.t 6)),w 21 (.bin .add (.t 20) (.c U2 1)),w 6 (.asg (.t 21))]
def c31_r14 : List AI := [w 36 (.mv (.t 4)),w 37 (.lenL (.t 36)),w 38 (.bin .gtr (.t 37) (.c U2 200))]
def c31_r15 : List AI := [w 2 (.asg (.nil 55 U18)),w 3 (.asg (.c U2 2))]
def c31_r16 : List AI := [w 39 (.mv (.t 4)),w 2 (.asg (.t 39)),w 3 (.asg (.c U2 0))]
def c31 : AC := (.seq (.reg [0] c31_r0) (.seq (.seq (.reg [0] c31_r1) (.cond (.t 11) (.seq (.reg [] c31_r2) .ret) .skip)) (.seq (.seq (.reg [0] c31_r3) (.cond (.t 13) (.seq (.reg [] c31_r4) .ret) .skip)) (.seq (.reg [0] c31_r5) (.seq (.reg [0, 4, 35] c31_r6) (.seq (.seq (.reg [4, 5, 15, 35] c31_r7) (.block 0 (.loop [4, 5, 6, 15, 35] (.seq (.seq (.reg [4, 5, 6, 15, 35] c31_r8) (.cond (.t 19) .skip (.exit 0))) (.seq (.block 1 (.seq (.reg [4, 5, 6, 15, 35] c31_r10) (.seq (.seq (.reg [4, 5, 6, 7, 8, 15, 28, 35] c31_r11) (.cond (.t 31) (.seq (.reg [] c31_r12) .ret) .skip)) (.reg [4, 5, 6, 7, 15, 28, 35] c31_r13)))) (.reg [4, 5, 6, 15, 35] c31_r9)))))) (.seq (.seq (.reg [4, 35] c31_r14) (.cond (.t 38) (.seq (.reg [] c31_r15) .ret) .skip)) (.seq (.reg [4, 35] c31_r16) .ret))))))))
def d31 : FD := { nargs := 1, body := c31, res := [.t 2, .t 3] }
-- anceps/ancepsref17.Classical
def c32_r0 : List AI := [w 0 (.alloc U26 (.pair .no (.pair (.own true 66 .no) .no)))]
def c32_r1 : List AI := [w 5 (.call 52 [(.c .str [108, 105, 99, 101, 110, 99, 101, 32, 99, 108, 97, 115, 115, 105, 99, 97, 108, 32, 123, 10, 32, 32, 109, 117, 116, 101, 32, 49, 59, 10, 32, 32, 98, 114, 101, 118, 105, 115, 32, 49, 59, 10, 32, 32, 105, 110, 100, 105, 102, 102, 101, 114, 101, 110, 116, 32, 49, 59, 10, 32, 32, 115, 121, 110, 105, 122, 101, 115, 105, 115, 32, 52, 59, 10, 32, 32, 101, 108, 105, 115, 105, 111, 110, 32, 48, 59, 10, 32, 32, 101, 99, 116, 104, 108, 105, 112, 115, 105, 115, 32, 48, 59, 10, 32, 32, 112, 114, 111, 100, 101, 108, 105, 115, 105, 111, 110, 32, 48, 32, 105, 110, 32, 34, 101, 115, 34, 44, 32, 34, 101, 115, 116, 34, 59, 10, 32, 32, 104, 105, 97, 116, 117, 115, 32, 54, 59, 10, 32, 32, 99, 111, 114, 114, 101, 112, 116, 105, 111, 110, 32, 53, 59, 10, 32, 32, 108, 101, 110, 103, 116, 104, 101, 110, 32, 56, 59, 10, 125, 10])]),w 4 (.mv (.t 5)),w 6 (.extract 4 0),w 7 (.extract 4 1),w 8 (.extract 4 2),w 1 (.alloc U26 (.pair .no (.pair (.own true 66 .no) .no))),
  ⟨none, .store U26 (.t 1) (.t 6), none⟩,
  w 2 (.asg (.t 7)),w 3 (.asg (.t 8))]
def c32_r2 : List AI := [w 9 (.load U26 (.t 1)),
  ⟨none, .store U26 (.t 0) (.t 9), none⟩]
def c32 : AC := (.seq (.reg [] c32_r0) (.seq (.reg [0, 1, 6, 9] c32_r1) (.seq (.reg [0, 1, 6, 9] c32_r2) .ret)))
def d32 : FD := { nargs := 0, body := c32, res := [.cell 0 U26] }
-- anceps/ancepsref11.Nucleus
def c45_r0 : List AI := [w 1 (.box U18 (.t 0)),w 2 (.asg (.c .bool false))]
def c45_r1 : List AI := [w 3 (.fieldAddr U18 [.l] (.t 1)),w 4 (.load U2 (.t 3)),w 5 (.bin .eql (.t 4) (.c U2 1)),w 6 (.mv (.t 5)),
  ⟨some 7, .fieldAddr U18 [.l] (.t 1), some (6, false)⟩,
  ⟨some 8, .load U2 (.t 7), some (6, false)⟩,
  ⟨some 9, .bin .eql (.t 8) (.c U2 2), some (6, false)⟩,
  w 10 (.pick (.t 6) (.c .bool true) (.t 9)),w 2 (.asg (.t 10))]
def c45 : AC := (.seq (.reg [0] c45_r0) (.seq (.reg [1] c45_r1) .ret))
def d45 : FD := { nargs := 1, body := c45, res := [.t 2] }
-- anceps/ancepsref11.Compare
def c48_r0 : List AI := [w 2 (.box U18 (.t 0)),w 3 (.box U18 (.t 1)),w 4 (.asg (.c U2 0))]
def c48_r1 : List AI := [w 7 (.fieldAddr U18 [.l] (.t 2)),w 8 (.load U2 (.t 7)),w 9 (.fieldAddr U18 [.l] (.t 3)),w 10 (.load U2 (.t 9)),w 11 (.call 64 [(.t 8), (.t 10)]),w 5 (.asg (.t 11))]
def c48_r2 : List AI := [w 12 (.mv (.t 5)),w 13 (.bin .neq (.t 12) (.c U2 0))]
def c48_r3 : List AI := [w 14 (.mv (.t 5)),w 4 (.asg (.t 14))]
def c48_r4 : List AI := [w 15 (.fieldAddr U18 [.r, .l] (.t 2)),w 16 (.load U2 (.t 15)),w 17 (.fieldAddr U18 [.r, .l] (.t 3)),w 18 (.load U2 (.t 17)),w 19 (.call 64 [(.t 16), (.t 18)]),w 6 (.asg (.t 19))]
def c48_r5 : List AI := [w 20 (.mv (.t 6)),w 21 (.bin .neq (.t 20) (.c U2 0))]
def c48_r6 : List AI := [w 22 (.mv (.t 6)),w 4 (.asg (.t 22))]
def c48_r7 : List AI := [w 23 (.fieldAddr U18 [.r, .r, .l] (.t 2)),w 24 (.load .str (.t 23)),w 25 (.fieldAddr U18 [.r, .r, .l] (.t 3)),w 26 (.load .str (.t 25)),w 27 (.bin .lss (.t 24) (.t 26))]
def c48_r8 : List AI := [w 4 (.asg (.c U2 (-1)))]
def c48_r9 : List AI := [w 28 (.fieldAddr U18 [.r, .r, .l] (.t 2)),w 29 (.load .str (.t 28)),w 30 (.fieldAddr U18 [.r, .r, .l] (.t 3)),w 31 (.load .str (.t 30)),w 32 (.bin .gtr (.t 29) (.t 31))]
def c48_r10 : List AI := [w 4 (.asg (.c U2 1))]
def c48_r11 : List AI := [w 4 (.asg (.c U2 0))]
def c48 : AC := (.seq (.reg [0, 1] c48_r0) (.seq (.seq (.reg [2, 3] c48_r1) (.seq (.reg [2, 3, 5] c48_r2) (.cond (.t 13) (.seq (.reg [5] c48_r3) .ret) .skip))) (.seq (.seq (.reg [2, 3] c48_r4) (.seq (.reg [2, 3, 6] c48_r5) (.cond (.t 21) (.seq (.reg [6] c48_r6) .ret) .skip))) (.seq (.seq (.reg [2, 3] c48_r7) (.cond (.t 27) (.seq (.reg [] c48_r8) .ret) .skip)) (.seq (.seq (.reg [2, 3] c48_r9) (.cond (.t 32) (.seq (.reg [] c48_r10) .ret) .skip)) (.seq (.reg [] c48_r11) .ret))))))
def d48 : FD := { nargs := 2, body := c48, res := [.t 4] }
-- anceps/ancepsref11.split
def c50_r0 : List AI := [w 2 (.asg (.nil 9 .str))]
def c50_r1 : List AI := [w 5 (.buildSlice 9 .str [(.c .str [])]),w 3 (.asg (.t 5))]
def c50_r2 : List AI := [w 4 (.asg (.c U2 0))]
def c50_r3 : List AI := [w 6 (.mv (.t 4)),w 7 (.mv (.t 0)),w 8 (.lenS (.t 7)),w 9 (.bin .lss (.t 6) (.t 8))]
def c50_r5 : List AI := [w 12 (.mv (.t 0)),w 13 (.mv (.t 4)),w 14 (.indexS (.t 12) (.t 13)),w 15 (.bin .eql (.t 14) (.c U1 32))]
def c50_r6 : List AI := [w 16 (.mv (.t 3)),w 17 (.buildSlice 9 .str [(.c .str [])]),w 18 (.append 9 .str 8796093022208 (.t 16) (.t 17)),w 3 (.asg (.t 18))]
def c50_r7 : List DI := [{ ai := w 19 (.mv (.t 3)), hide := [20, 21, 22, 23, 24, 25, 26, 27, 28, 29, 30, 31, 32, 33, 34], wr := [19], pre := [] },
  { ai := w 20 (.mv (.t 3)), hide := [19, 23, 24, 25, 26, 27, 28, 29, 30, 31, 32, 33, 34], wr := [20], pre := [] },
  { ai := w 21 (.lenL (.t 20)), hide := [19, 23, 24, 25, 26, 27, 28, 29, 30, 31, 32, 33, 34], wr := [21], pre := [1] },
  { ai := w 22 (.bin .sub (.t 21) (.c U2 1)), hide := [19, 23, 24, 25, 26, 27, 28, 29, 30, 31, 32, 33, 34], wr := [22], pre := [1, 2] },
  { ai := w 23 (.mv (.t 3)), hide := [19, 20, 21, 22, 24, 25, 26, 29, 30, 31, 32, 33], wr := [23], pre := [] },
  { ai := w 24 (.mv (.t 3)), hide := [19, 20, 21, 22, 23, 29, 30, 31, 32, 33], wr := [24], pre := [] },
  { ai := w 25 (.lenL (.t 24)), hide := [19, 20, 21, 22, 23, 29, 30, 31, 32, 33], wr := [25], pre := [5] },
  { ai := w 26 (.bin .sub (.t 25) (.c U2 1)), hide := [19, 20, 21, 22, 23, 29, 30, 31, 32, 33], wr := [26], pre := [5, 6] },
  { ai := w 27 (.indexAddr .str (.t 23) (.t 26)), hide := [19, 20, 21, 22, 29, 30, 31, 32, 33], wr := [27], pre := [4, 5, 6, 7] },
  { ai := w 28 (.load .str (.t 27)), hide := [19, 20, 21, 22, 29, 30, 31, 32, 33], wr := [28], pre := [4, 5, 6, 7, 8] },
  { ai := w 29 (.mv (.t 0)), hide := [19, 20, 21, 22, 23, 24, 25, 26, 27, 28, 30, 31, 32], wr := [29], pre := [] },
  { ai := w 30 (.mv (.t 4)), hide := [19, 20, 21, 22, 23, 24, 25, 26, 27, 28, 29, 31, 32], wr := [30], pre := [] },
  { ai := w 31 (.mv (.t 4)), hide := [19, 20, 21, 22, 23, 24, 25, 26, 27, 28, 29, 30], wr := [31], pre := [] },
  { ai := w 32 (.bin .add (.t 31) (.c U2 1)), hide := [19, 20, 21, 22, 23, 24, 25, 26, 27, 28, 29, 30], wr := [32], pre := [12] },
  { ai := w 33 (.sliceS (.t 29) (some (.t 30)) (some (.t 32))), hide := [19, 20, 21, 22, 23, 24, 25, 26, 27, 28], wr := [33], pre := [10, 11, 12, 13] },
  { ai := w 34 (.bin .add (.t 28) (.t 33)), hide := [19, 20, 21, 22], wr := [34], pre := [4, 5, 6, 7, 8, 9, 10, 11, 12, 13, 14] },
  { ai := w 35 (.indexAddr .str (.t 19) (.t 22)), hide := [], wr := [35], pre := [0, 1, 2, 3, 4, 5, 6, 7, 8, 9, 10, 11, 12, 13, 14, 15] },
  { ai := ⟨none, .store .str (.t 35) (.t 34), none⟩, hide := [], wr := [3, 19, 35], pre := [0, 1, 2, 3, 4, 5, 6, 7, 8, 9, 10, 11, 12, 13, 14, 15, 16] }]
def c50_r4 : List AI := [w 10 (.mv (.t 4)),w 11 (.bin .add (.t 10) (.c U2 1)),w 4 (.asg (.t 11))]
def c50_r8 : List AI := [w 36 (.mv (.t 3)),w 2 (.asg (.t 36))]
def c50 : AC := (.seq (.reg [0] c50_r0) (.seq (.reg [0] c50_r1) (.seq (.seq (.reg [0, 3, 5, 18] c50_r2) (.block 0 (.loop [0, 3, 4, 5, 18] (.seq (.seq (.reg [0, 3, 4, 5, 18] c50_r3) (.cond (.t 9) .skip (.exit 0))) (.seq (.block 1 (.seq (.reg [0, 3, 4, 5, 18] c50_r5) (.cond (.t 15) (.reg [0, 3, 4, 5, 18] c50_r6) (.draw [0, 3, 4, 5, 18] c50_r7)))) (.reg [0, 3, 4, 5, 18] c50_r4)))))) (.seq (.reg [3, 5, 18] c50_r8) .ret))))
def d50 : FD := { nargs := 1, body := c50, res := [.t 2] }
-- anceps/ancepsref11.one
def c51_r0 : List AI := [w 2 (.alloc U18 .no),w 3 (.asg (.c .bool false))]
def c51_r1 : List AI := [w 4 (.asg (.c U2 0))]
def c51_r2 : List AI := [w 8 (.mv (.t 4)),w 9 (.mv (.t 0)),w 10 (.lenS (.t 9)),w 11 (.bin .lss (.t 8) (.t 10)),w 12 (.mv (.t 11)),
  ⟨some 13, .mv (.t 0), some (12, true)⟩,
  ⟨some 14, .mv (.t 4), some (12, true)⟩,
  ⟨some 15, .indexS (.t 13) (.t 14), some (12, true)⟩,
  ⟨some 16, .bin .neq (.t 15) (.c U1 47), some (12, true)⟩,
  w 17 (.pick (.t 12) (.t 16) (.c .bool false))]
def c51_r3 : List AI := [w 18 (.mv (.t 4)),w 19 (.bin .add (.t 18) (.c U2 1)),w 4 (.asg (.t 19))]
def c51_r4 : List AI := [w 5 (.asg (.c .str []))]
def c51_r5 : List AI := [w 20 (.mv (.t 4)),w 21 (.mv (.t 0)),w 22 (.lenS (.t 21)),w 23 (.bin .lss (.t 20) (.t 22))]
def c51_r6 : List AI := [w 24 (.mv (.t 0)),w 25 (.mv (.t 4)),w 26 (.bin .add (.t 25) (.c U2 1)),w 27 (.sliceS (.t 24) (some (.t 26)) none),w 5 (.asg (.t 27))]
def c51_r7 : List AI := [w 28 (.mv (.t 5)),w 29 (.bin .eql (.t 28) (.c .str []))]
def c51_r8 : List AI := [w 30 (.build U18 []),
  ⟨none, .store U18 (.t 2) (.t 30), none⟩,
  w 3 (.asg (.c .bool false))]
def c51_r9 : List AI := [w 31 (.mv (.t 0)),w 32 (.mv (.t 4)),w 33 (.sliceS (.t 31) none (some (.t 32))),w 34 (.build U18 [([.r, .r, .l], (.t 33))]),w 6 (.alloc U18 .no),
  ⟨none, .store U18 (.t 6) (.t 34), none⟩]
def c51_r10 : List AI := [w 7 (.asg (.c U2 1))]
def c51_r11 : List AI := [w 35 (.mv (.t 7)),w 36 (.call 65 []),w 37 (.lenS (.t 36)),w 38 (.bin .lss (.t 35) (.t 37))]
def c51_r13 : List DI := [{ ai := w 41 (.call 65 []), hide := [42, 44, 45], wr := [41], pre := [] },
  { ai := w 42 (.mv (.t 7)), hide := [41, 44, 45], wr := [42], pre := [] },
  { ai := w 43 (.indexS (.t 41) (.t 42)), hide := [44, 45], wr := [43], pre := [0, 1] },
  { ai := w 44 (.mv (.t 5)), hide := [41, 42, 43], wr := [44], pre := [] },
  { ai := w 45 (.indexS (.t 44) (.c U2 0)), hide := [41, 42, 43], wr := [45], pre := [3] },
  { ai := w 46 (.bin .eql (.t 43) (.t 45)), hide := [], wr := [46], pre := [0, 1, 2, 3, 4] }]
def c51_r14 : List AI := [w 47 (.mv (.t 7)),w 48 (.fieldAddr U18 [.l] (.t 6)),
  ⟨none, .store U2 (.t 48) (.t 47), none⟩]
def c51_r12 : List AI := [w 39 (.mv (.t 7)),w 40 (.bin .add (.t 39) (.c U2 1)),w 7 (.asg (.t 40))]
def c51_r15 : List AI := [w 49 (.mv (.t 5)),w 50 (.sliceS (.t 49) (some (.c U2 1)) none),w 5 (.asg (.t 50))]
def c51_r16 : List AI := [w 51 (.load U18 (.t 6)),w 52 (.call 45 [(.t 51)]),w 53 (.mv (.t 52)),
  ⟨some 54, .mv (.t 5), some (53, true)⟩,
  ⟨some 55, .lenS (.t 54), some (53, true)⟩,
  ⟨some 56, .bin .eql (.t 55) (.c U2 1), some (53, true)⟩,
  w 57 (.pick (.t 53) (.t 56) (.c .bool false)),w 58 (.mv (.t 57)),
  ⟨some 59, .mv (.t 5), some (58, true)⟩,
  ⟨some 60, .indexS (.t 59) (.c U2 0), some (58, true)⟩,
  ⟨some 61, .bin .geq (.t 60) (.c U1 49), some (58, true)⟩,
  w 62 (.pick (.t 58) (.t 61) (.c .bool false)),w 63 (.mv (.t 62)),
  ⟨some 64, .mv (.t 5), some (63, true)⟩,
  ⟨some 65, .indexS (.t 64) (.c U2 0), some (63, true)⟩,
  ⟨some 66, .bin .leq (.t 65) (.c U1 51), some (63, true)⟩,
  w 67 (.pick (.t 63) (.t 66) (.c .bool false))]
def c51_r17 : List AI := [w 68 (.mv (.t 5)),w 69 (.indexS (.t 68) (.c U2 0)),w 70 (.convI .i64 (.t 69)),w 71 (.bin .sub (.t 70) (.c U2 48)),w 72 (.fieldAddr U18 [.r, .l] (.t 6)),
  ⟨none, .store U2 (.t 72) (.t 71), none⟩]
def c51_r18 : List AI := [w 5 (.asg (.c .str []))]
def c51_r19 : List DI := [{ ai := w 73 (.load U18 (.t 6)), hide := [74, 75, 76, 77, 78, 79, 80], wr := [73], pre := [] },
  { ai := w 74 (.mv (.t 5)), hide := [73], wr := [74], pre := [] },
  { ai := w 75 (.bin .eql (.t 74) (.c .str [])), hide := [73], wr := [75], pre := [1] },
  { ai := w 76 (.mv (.t 75)), hide := [73], wr := [76], pre := [1, 2] },
  { ai := ⟨some 77, .load U18 (.t 6), some (76, true)⟩, hide := [73], wr := [77], pre := [1, 2, 3] },
  { ai := ⟨some 78, .call 66 [(.t 77)], some (76, true)⟩, hide := [73], wr := [78], pre := [1, 2, 3, 4] },
  { ai := ⟨some 79, .bin .eql (.t 78) (.c U2 0), some (76, true)⟩, hide := [2, 73], wr := [79], pre := [1, 2, 3, 4, 5] },
  { ai := w 80 (.pick (.t 76) (.t 79) (.c .bool false)), hide := [2, 73], wr := [80], pre := [1, 2, 3, 4, 5, 6] },
  { ai := ⟨none, .store U18 (.t 2) (.t 73), none⟩, hide := [79, 80], wr := [2], pre := [0, 1, 2, 3, 4, 5] },
  { ai := w 3 (.asg (.t 80)), hide := [], wr := [3], pre := [0, 1, 2, 3, 4, 5, 6, 7, 8] }]
def c51 : AC := (.seq (.reg [0] c51_r0) (.seq (.reg [0, 2, 6, 30, 34, 73] c51_r1) (.seq (.block 0 (.loop [0, 2, 4, 6, 30, 34, 73] (.seq (.seq (.reg [0, 2, 4, 6, 30, 34, 73] c51_r2) (.cond (.t 17) .skip (.exit 0))) (.block 1 (.reg [0, 2, 4, 6, 30, 34, 73] c51_r3))))) (.seq (.reg [0, 2, 4, 6, 30, 34, 73] c51_r4) (.seq (.seq (.reg [0, 2, 4, 5, 6, 30, 34, 73] c51_r5) (.cond (.t 23) (.reg [0, 2, 4, 6, 30, 34, 73] c51_r6) .skip)) (.seq (.seq (.reg [0, 2, 4, 5, 6, 30, 34, 73] c51_r7) (.cond (.t 29) (.seq (.reg [2, 6, 30, 34, 73] c51_r8) .ret) .skip)) (.seq (.reg [0, 2, 4, 5, 6, 30, 34, 73] c51_r9) (.seq (.seq (.reg [2, 5, 6, 30, 34, 73] c51_r10) (.block 2 (.loop [2, 5, 6, 7, 30, 34, 73] (.seq (.seq (.reg [2, 5, 6, 7, 30, 34, 73] c51_r11) (.cond (.t 38) .skip (.exit 2))) (.seq (.block 3 (.seq (.draw [2, 5, 6, 7, 30, 34, 73] c51_r13) (.cond (.t 46) (.reg [2, 5, 6, 7, 30, 34, 73] c51_r14) .skip))) (.reg [2, 5, 6, 7, 30, 34, 73] c51_r12)))))) (.seq (.reg [2, 5, 6, 30, 34, 73] c51_r15) (.seq (.seq (.reg [2, 5, 6, 30, 34, 73] c51_r16) (.cond (.t 67) (.seq (.reg [2, 5, 6, 30, 34, 73] c51_r17) (.reg [2, 6, 30, 34, 73] c51_r18)) .skip)) (.seq (.draw [2, 5, 6, 30, 34, 73] c51_r19) .ret)))))))))))
def d51 : FD := { nargs := 1, body := c51, res := [.cell 2 U18, .t 3] }
-- anceps/ancepsref17.Parse
def c52_r0 : List AI := [w 2 (.alloc U26 .no),w 3 (.asg (.c U2 0)),w 4 (.asg (.c U2 0))]
def c52_r1 : List AI := [w 18 (.mv (.t 0)),w 19 (.call 67 [(.t 18)]),w 17 (.mv (.t 19)),w 20 (.extract 17 0),w 21 (.extract 17 1),w 22 (.extract 17 2),w 5 (.asg (.t 20)),w 6 (.asg (.t 21)),w 7 (.asg (.t 22))]
def c52_r2 : List AI := [w 23 (.mv (.t 7)),w 24 (.bin .neq (.t 23) (.c U2 0))]
def c52_r3 : List AI := [w 25 (.buildN U26 (.pair .no (.pair (.own true 66 .no) .no)) []),w 26 (.mv (.t 6)),w 27 (.mv (.t 7)),
  ⟨none, .store U26 (.t 2) (.t 25), none⟩,
  w 3 (.asg (.t 26)),w 4 (.asg (.t 27))]
def c52_r4 : List AI := [w 28 (.mv (.t 5)),w 29 (.call 68 [(.t 28), (.c U2 0), (.c U2 1), (.c .str [108, 105, 99, 101, 110, 99, 101])]),w 30 (.un .not (.t 29))]
def c52_r5 : List AI := [w 31 (.mv (.t 5)),w 32 (.call 69 [(.t 31), (.c U2 0)]),w 33 (.extract 32 0),w 34 (.extract 32 1),w 35 (.extract 32 2),
  ⟨none, .store U26 (.t 2) (.t 33), none⟩,
  w 3 (.asg (.t 34)),w 4 (.asg (.t 35))]
def c52_r6 : List AI := [w 36 (.mv (.t 5)),w 37 (.call 68 [(.t 36), (.c U2 1), (.c U2 1), (.c .str [])]),w 38 (.un .not (.t 37))]
def c52_r7 : List AI := [w 39 (.mv (.t 5)),w 40 (.call 69 [(.t 39), (.c U2 1)]),w 41 (.extract 40 0),w 42 (.extract 40 1),w 43 (.extract 40 2),
  ⟨none, .store U26 (.t 2) (.t 41), none⟩,
  w 3 (.asg (.t 42)),w 4 (.asg (.t 43))]
def c52_r8 : List AI := [w 44 (.mv (.t 5)),w 45 (.call 68 [(.t 44), (.c U2 2), (.c U2 4), (.c .str [123])]),w 46 (.un .not (.t 45))]
def c52_r9 : List AI := [w 47 (.mv (.t 5)),w 48 (.call 69 [(.t 47), (.c U2 2)]),w 49 (.extract 48 0),w 50 (.extract 48 1),w 51 (.extract 48 2),
  ⟨none, .store U26 (.t 2) (.t 49), none⟩,
  w 3 (.asg (.t 50)),w 4 (.asg (.t 51))]
def c52_r10 : List AI := [w 52 (.mv (.t 5)),w 53 (.indexAddr U19 (.t 52) (.c U2 1)),w 54 (.fieldAddr U19 [.r, .l] (.t 53)),w 55 (.load .str (.t 54)),w 56 (.buildN U26 (.pair .no (.pair (.own true 66 .no) .no)) [([.l], (.t 55))]),w 8 (.alloc U26 (.pair .no (.pair (.own true 66 .no) .no))),
  ⟨none, .store U26 (.t 8) (.t 56), none⟩]
def c52_r11 : List AI := [w 9 (.asg (.nil 3 U2))]
def c52_r12 : List AI := [w 10 (.asg (.c U2 3))]
def c52_r13 : List AI := [w 57 (.mv (.t 5)),w 58 (.mv (.t 10)),w 59 (.call 68 [(.t 57), (.t 58), (.c U2 4), (.c .str [125])]),w 60 (.un .not (.t 59))]
def c52_r14 : List AI := [w 62 (.mv (.t 5)),w 63 (.mv (.t 10)),w 64 (.call 70 [(.t 62), (.t 63)]),w 61 (.mv (.t 64)),w 65 (.extract 61 0),w 66 (.extract 61 1),w 67 (.extract 61 2),w 11 (.alloc U20 (.pair .no (.pair .no (.pair (.own true 9 .no) .no)))),
  ⟨none, .store U20 (.t 11) (.t 65), none⟩,
  w 12 (.asg (.t 66)),w 13 (.asg (.t 67))]
def c52_r15 : List AI := [w 68 (.mv (.t 13)),w 69 (.un .not (.t 68))]
def c52_r16 : List AI := [w 70 (.mv (.t 5)),w 71 (.mv (.t 12)),w 72 (.call 69 [(.t 70), (.t 71)]),w 73 (.extract 72 0),w 74 (.extract 72 1),w 75 (.extract 72 2),
  ⟨none, .store U26 (.t 2) (.t 73), none⟩,
  w 3 (.asg (.t 74)),w 4 (.asg (.t 75))]
def c52_r17 : List AI := [w 76 (.fieldAddr U26 [.r, .l] (.t 8)),w 77 (.load U22 (.t 76)),w 78 (.load U20 (.t 11)),w 79 (.buildSlice 66 U20 [(.t 78)]),w 80 (.append 66 U20 3518437208883 (.t 77) (.t 79)),w 81 (.fieldAddr U26 [.r, .l] (.t 8)),
  ⟨none, .store U22 (.t 81) (.t 80), none⟩]
def c52_r18 : List AI := [w 82 (.mv (.t 9)),w 83 (.mv (.t 10)),w 84 (.buildSlice 3 U2 [(.t 83)]),w 85 (.append 3 U2 17592186044416 (.t 82) (.t 84)),w 9 (.asg (.t 85))]
def c52_r19 : List AI := [w 86 (.mv (.t 12)),w 10 (.asg (.t 86))]
def c52_r20 : List AI := [w 87 (.mv (.t 10)),w 88 (.bin .add (.t 87) (.c U2 1)),w 89 (.mv (.t 5)),w 90 (.lenL (.t 89)),w 91 (.bin .neq (.t 88) (.t 90))]
def c52_r21 : List AI := [w 92 (.mv (.t 5)),w 93 (.mv (.t 10)),w 94 (.bin .add (.t 93) (.c U2 1)),w 95 (.call 69 [(.t 92), (.t 94)]),w 96 (.extract 95 0),w 97 (.extract 95 1),w 98 (.extract 95 2),
  ⟨none, .store U26 (.t 2) (.t 96), none⟩,
  w 3 (.asg (.t 97)),w 4 (.asg (.t 98))]
def c52_r22 : List AI := [w 14 (.asg (.c U2 0))]
def c52_r23 : List AI := [w 99 (.mv (.t 14)),w 100 (.mv (.t 9)),w 101 (.lenL (.t 100)),w 102 (.bin .lss (.t 99) (.t 101))]
def c52_r25 : List AI := [w 15 (.asg (.c U2 1))]
def c52_r26 : List AI := [w 105 (.mv (.t 15)),w 106 (.bin .leq (.t 105) (.c U2 12))]
def c52_r28 : List DI := [{ ai := w 109 (.mv (.t 15)), hide := [111, 112, 113, 114, 115, 116, 117, 118], wr := [109], pre := [] },
  { ai := w 110 (.call 71 [(.t 109)]), hide := [111, 112, 113, 114, 115, 116, 117, 118], wr := [110], pre := [0] },
  { ai := w 111 (.mv (.t 5)), hide := [109, 110, 112, 113, 114, 115], wr := [111], pre := [] },
  { ai := w 112 (.mv (.t 9)), hide := [109, 110, 111, 113], wr := [112], pre := [] },
  { ai := w 113 (.mv (.t 14)), hide := [109, 110, 111, 112], wr := [113], pre := [] },
  { ai := w 114 (.indexAddr U2 (.t 112) (.t 113)), hide := [109, 110, 111], wr := [114], pre := [3, 4] },
  { ai := w 115 (.load U2 (.t 114)), hide := [109, 110, 111], wr := [115], pre := [3, 4, 5] },
  { ai := w 116 (.indexAddr U19 (.t 111) (.t 115)), hide := [109, 110], wr := [116], pre := [2, 3, 4, 5, 6] },
  { ai := w 117 (.fieldAddr U19 [.r, .l] (.t 116)), hide := [109, 110], wr := [117], pre := [2, 3, 4, 5, 6, 7] },
  { ai := w 118 (.load .str (.t 117)), hide := [109, 110], wr := [118], pre := [2, 3, 4, 5, 6, 7, 8] },
  { ai := w 119 (.bin .eql (.t 110) (.t 118)), hide := [], wr := [119], pre := [0, 1, 2, 3, 4, 5, 6, 7, 8, 9] }]
def c52_r29 : List AI := [w 120 (.fieldAddr U26 [.r, .l] (.t 8)),w 121 (.load U22 (.t 120)),w 122 (.mv (.t 14)),w 123 (.mv (.t 15)),w 124 (.indexAddr U20 (.t 121) (.t 122)),w 125 (.fieldAddr U20 [.l] (.t 124)),
  ⟨none, .store U2 (.t 125) (.t 123), none⟩]
def c52_r27 : List AI := [w 107 (.mv (.t 15)),w 108 (.bin .add (.t 107) (.c U2 1)),w 15 (.asg (.t 108))]
def c52_r30 : List AI := [w 126 (.fieldAddr U26 [.r, .l] (.t 8)),w 127 (.load U22 (.t 126)),w 128 (.mv (.t 14)),w 129 (.indexAddr U20 (.t 127) (.t 128)),w 130 (.fieldAddr U20 [.l] (.t 129)),w 131 (.load U2 (.t 130)),w 132 (.bin .eql (.t 131) (.c U2 0))]
def c52_r31 : List DI := [{ ai := w 133 (.build U26 []), hide := [134, 135, 136, 137, 138, 139, 140, 141], wr := [133], pre := [] },
  { ai := w 134 (.mv (.t 5)), hide := [2, 133, 135, 136, 137, 138], wr := [134], pre := [] },
  { ai := w 135 (.mv (.t 9)), hide := [2, 133, 134, 136], wr := [135], pre := [] },
  { ai := w 136 (.mv (.t 14)), hide := [2, 133, 134, 135], wr := [136], pre := [] },
  { ai := w 137 (.indexAddr U2 (.t 135) (.t 136)), hide := [2, 133, 134], wr := [137], pre := [2, 3] },
  { ai := w 138 (.load U2 (.t 137)), hide := [2, 133, 134], wr := [138], pre := [2, 3, 4] },
  { ai := w 139 (.indexAddr U19 (.t 134) (.t 138)), hide := [2, 133], wr := [139], pre := [1, 2, 3, 4, 5] },
  { ai := w 140 (.fieldAddr U19 [.r, .r, .l] (.t 139)), hide := [2, 133], wr := [140], pre := [1, 2, 3, 4, 5, 6] },
  { ai := w 141 (.load U2 (.t 140)), hide := [2, 133], wr := [141], pre := [1, 2, 3, 4, 5, 6, 7] },
  { ai := ⟨none, .store U26 (.t 2) (.t 133), none⟩, hide := [134, 135, 136, 137, 138, 139, 140, 141], wr := [2], pre := [0] },
  { ai := w 3 (.asg (.t 141)), hide := [], wr := [3], pre := [0, 1, 2, 3, 4, 5, 6, 7, 8, 9] },
  { ai := w 4 (.asg (.c U2 9)), hide := [], wr := [4], pre := [0, 1, 2, 3, 4, 5, 6, 7, 8, 9, 10] }]
def c52_r24 : List AI := [w 103 (.mv (.t 14)),w 104 (.bin .add (.t 103) (.c U2 1)),w 14 (.asg (.t 104))]
def c52_r32 : List AI := [w 142 (.load U26 (.t 8)),w 143 (.call 12 [(.t 142)]),w 16 (.asg (.t 143))]
def c52_r33 : List AI := [w 144 (.mv (.t 16)),w 145 (.bin .neq (.t 144) (.c U2 0))]
def c52_r34 : List AI := [w 146 (.buildN U26 (.pair .no (.pair (.own true 66 .no) .no)) []),w 147 (.mv (.t 16)),
  ⟨none, .store U26 (.t 2) (.t 146), none⟩,
  w 3 (.asg (.c U2 0)),w 4 (.asg (.t 147))]
def c52_r35 : List AI := [w 148 (.load U26 (.t 8)),
  ⟨none, .store U26 (.t 2) (.t 148), none⟩,
  w 3 (.asg (.c U2 0)),w 4 (.asg (.c U2 0))]
def c52 : AC := (.seq (.reg [0] c52_r0) (.seq (.reg [0, 2, 8, 25, 33, 41, 49, 56, 73, 96, 133, 146, 148] c52_r1) (.seq (.seq (.reg [2, 5, 6, 7, 8, 20, 25, 33, 41, 49, 56, 73, 96, 133, 146, 148] c52_r2) (.cond (.t 24) (.seq (.reg [2, 6, 7, 8, 25, 33, 41, 49, 56, 73, 96, 133, 146, 148] c52_r3) .ret) .skip)) (.seq (.seq (.reg [2, 5, 8, 20, 25, 33, 41, 49, 56, 73, 96, 133, 146, 148] c52_r4) (.cond (.t 30) (.seq (.reg [2, 5, 8, 20, 25, 33, 41, 49, 56, 73, 96, 133, 146, 148] c52_r5) .ret) .skip)) (.seq (.seq (.reg [2, 5, 8, 20, 25, 33, 41, 49, 56, 73, 96, 133, 146, 148] c52_r6) (.cond (.t 38) (.seq (.reg [2, 5, 8, 20, 25, 33, 41, 49, 56, 73, 96, 133, 146, 148] c52_r7) .ret) .skip)) (.seq (.seq (.reg [2, 5, 8, 20, 25, 33, 41, 49, 56, 73, 96, 133, 146, 148] c52_r8) (.cond (.t 46) (.seq (.reg [2, 5, 8, 20, 25, 33, 41, 49, 56, 73, 96, 133, 146, 148] c52_r9) .ret) .skip)) (.seq (.reg [2, 5, 8, 20, 25, 33, 41, 49, 56, 73, 96, 133, 146, 148] c52_r10) (.seq (.reg [2, 5, 8, 20, 25, 33, 41, 49, 56, 73, 96, 133, 146, 148] c52_r11) (.seq (.reg [2, 5, 8, 9, 20, 25, 33, 41, 49, 56, 73, 85, 96, 133, 146, 148] c52_r12) (.seq (.block 0 (.loop [2, 5, 8, 9, 10, 20, 25, 33, 41, 49, 56, 73, 85, 96, 133, 146, 148] (.seq (.seq (.reg [2, 5, 8, 9, 10, 20, 25, 33, 41, 49, 56, 73, 85, 96, 133, 146, 148] c52_r13) (.cond (.t 60) .skip (.exit 0))) (.block 1 (.seq (.reg [2, 5, 8, 9, 10, 20, 25, 33, 41, 49, 56, 73, 85, 96, 133, 146, 148] c52_r14) (.seq (.seq (.reg [2, 5, 8, 9, 10, 11, 12, 13, 20, 25, 33, 41, 49, 56, 65, 73, 85, 96, 133, 146, 148] c52_r15) (.cond (.t 69) (.seq (.reg [2, 5, 8, 12, 20, 25, 33, 41, 49, 56, 73, 96, 133, 146, 148] c52_r16) .ret) .skip)) (.seq (.reg [2, 5, 8, 9, 10, 11, 12, 20, 25, 33, 41, 49, 56, 65, 73, 85, 96, 133, 146, 148] c52_r17) (.seq (.reg [2, 5, 8, 9, 10, 12, 20, 25, 33, 41, 49, 56, 73, 85, 96, 133, 146, 148] c52_r18) (.reg [2, 5, 8, 9, 12, 20, 25, 33, 41, 49, 56, 73, 85, 96, 133, 146, 148] c52_r19))))))))) (.seq (.seq (.reg [2, 5, 8, 9, 10, 20, 25, 33, 41, 49, 56, 73, 85, 96, 133, 146, 148] c52_r20) (.cond (.t 91) (.seq (.reg [2, 5, 8, 10, 20, 25, 33, 41, 49, 56, 73, 96, 133, 146, 148] c52_r21) .ret) .skip)) (.seq (.seq (.reg [2, 5, 8, 9, 20, 25, 33, 41, 49, 56, 73, 85, 96, 133, 146, 148] c52_r22) (.block 2 (.loop [2, 5, 8, 9, 14, 20, 25, 33, 41, 49, 56, 73, 85, 96, 133, 146, 148] (.seq (.seq (.reg [2, 5, 8, 9, 14, 20, 25, 33, 41, 49, 56, 73, 85, 96, 133, 146, 148] c52_r23) (.cond (.t 102) .skip (.exit 2))) (.seq (.block 3 (.seq (.seq (.reg [2, 5, 8, 9, 14, 20, 25, 33, 41, 49, 56, 73, 85, 96, 133, 146, 148] c52_r25) (.block 4 (.loop [2, 5, 8, 9, 14, 15, 20, 25, 33, 41, 49, 56, 73, 85, 96, 133, 146, 148] (.seq (.seq (.reg [2, 5, 8, 9, 14, 15, 20, 25, 33, 41, 49, 56, 73, 85, 96, 133, 146, 148] c52_r26) (.cond (.t 106) .skip (.exit 4))) (.seq (.block 5 (.seq (.draw [2, 5, 8, 9, 14, 15, 20, 25, 33, 41, 49, 56, 73, 85, 96, 133, 146, 148] c52_r28) (.cond (.t 119) (.reg [2, 5, 8, 9, 14, 15, 20, 25, 33, 41, 49, 56, 73, 85, 96, 133, 146, 148] c52_r29) .skip))) (.reg [2, 5, 8, 9, 14, 15, 20, 25, 33, 41, 49, 56, 73, 85, 96, 133, 146, 148] c52_r27)))))) (.seq (.reg [2, 5, 8, 9, 14, 20, 25, 33, 41, 49, 56, 73, 85, 96, 133, 146, 148] c52_r30) (.cond (.t 132) (.seq (.draw [2, 5, 8, 9, 14, 20, 25, 33, 41, 49, 56, 73, 85, 96, 133, 146, 148] c52_r31) .ret) .skip)))) (.reg [2, 5, 8, 9, 14, 20, 25, 33, 41, 49, 56, 73, 85, 96, 133, 146, 148] c52_r24)))))) (.seq (.seq (.reg [2, 8, 25, 33, 41, 49, 56, 73, 96, 133, 146, 148] c52_r32) (.seq (.reg [2, 8, 16, 25, 33, 41, 49, 56, 73, 96, 133, 146, 148] c52_r33) (.cond (.t 145) (.seq (.reg [2, 8, 16, 25, 33, 41, 49, 56, 73, 96, 133, 146, 148] c52_r34) .ret) .skip))) (.seq (.reg [2, 8, 25, 33, 41, 49, 56, 73, 96, 133, 146, 148] c52_r35) .ret))))))))))))))
def d52 : FD := { nargs := 1, body := c52, res := [.cell 2 U26, .t 3, .t 4] }
-- anceps/ancepsref11.order
def c64_r0 : List AI := [w 4 (.asg (.c U2 0))]
def c64_r1 : List AI := [w 5 (.mv (.t 0)),w 6 (.mv (.t 1)),w 7 (.bin .lss (.t 5) (.t 6))]
def c64_r2 : List AI := [w 4 (.asg (.c U2 (-1)))]
def c64_r3 : List AI := [w 8 (.mv (.t 0)),w 9 (.mv (.t 1)),w 10 (.bin .gtr (.t 8) (.t 9))]
def c64_r4 : List AI := [w 4 (.asg (.c U2 1))]
def c64_r5 : List AI := [w 4 (.asg (.c U2 0))]
def c64 : AC := (.seq (.reg [0, 1] c64_r0) (.seq (.seq (.reg [0, 1] c64_r1) (.cond (.t 7) (.seq (.reg [] c64_r2) .ret) .skip)) (.seq (.seq (.reg [0, 1] c64_r3) (.cond (.t 10) (.seq (.reg [] c64_r4) .ret) .skip)) (.seq (.reg [] c64_r5) .ret))))
def d64 : FD := { nargs := 2, body := c64, res := [.t 4] }
-- anceps/ancepsref11.letters
def c65_r0 : List AI := [w 0 (.asg (.c .str []))]
def c65_r1 : List AI := [w 0 (.asg (.c .str [32, 118, 100, 109, 108, 110, 115, 120, 103, 98]))]
def c65 : AC := (.seq (.reg [] c65_r0) (.seq (.reg [] c65_r1) .ret))
def d65 : FD := { nargs := 0, body := c65, res := [.t 0] }
-- anceps/ancepsref11.Valid
def c66_r0 : List AI := [w 1 (.box U18 (.t 0)),w 2 (.asg (.c U2 0))]
def c66_r1 : List AI := [w 5 (.fieldAddr U18 [.l] (.t 1)),w 6 (.load U2 (.t 5)),w 7 (.bin .lss (.t 6) (.c U2 1)),w 8 (.mv (.t 7)),
  ⟨some 9, .fieldAddr U18 [.l] (.t 1), some (8, false)⟩,
  ⟨some 10, .load U2 (.t 9), some (8, false)⟩,
  ⟨some 11, .bin .gtr (.t 10) (.c U2 9), some (8, false)⟩,
  w 12 (.pick (.t 8) (.c .bool true) (.t 11))]
def c66_r2 : List AI := [w 2 (.asg (.c U2 1))]
def c66_r3 : List AI := [w 13 (.fieldAddr U18 [.r, .l] (.t 1)),w 14 (.load U2 (.t 13)),w 15 (.bin .eql (.t 14) (.c U2 0)),w 3 (.asg (.t 15))]
def c66_r4 : List AI := [w 16 (.fieldAddr U18 [.l] (.t 1)),w 17 (.load U2 (.t 16)),w 18 (.bin .eql (.t 17) (.c U2 1))]
def c66_r5 : List AI := [w 19 (.fieldAddr U18 [.r, .l] (.t 1)),w 20 (.load U2 (.t 19)),w 21 (.bin .geq (.t 20) (.c U2 1)),w 22 (.mv (.t 21)),
  ⟨some 23, .fieldAddr U18 [.r, .l] (.t 1), some (22, true)⟩,
  ⟨some 24, .load U2 (.t 23), some (22, true)⟩,
  ⟨some 25, .bin .leq (.t 24) (.c U2 3), some (22, true)⟩,
  w 26 (.pick (.t 22) (.t 25) (.c .bool false)),w 3 (.asg (.t 26))]
def c66_r6 : List AI := [w 27 (.fieldAddr U18 [.l] (.t 1)),w 28 (.load U2 (.t 27)),w 29 (.bin .eql (.t 28) (.c U2 2))]
def c66_r7 : List AI := [w 30 (.fieldAddr U18 [.r, .l] (.t 1)),w 31 (.load U2 (.t 30)),w 32 (.bin .eql (.t 31) (.c U2 2)),w 3 (.asg (.t 32))]
def c66_r8 : List AI := [w 33 (.mv (.t 3)),w 34 (.un .not (.t 33))]
def c66_r9 : List AI := [w 2 (.asg (.c U2 6))]
def c66_r10 : List AI := [w 35 (.fieldAddr U18 [.r, .r, .l] (.t 1)),w 36 (.load .str (.t 35)),w 37 (.bin .eql (.t 36) (.c .str []))]
def c66_r11 : List AI := [w 2 (.asg (.c U2 7))]
def c66_r12 : List AI := [w 38 (.fieldAddr U18 [.r, .r, .l] (.t 1)),w 39 (.load .str (.t 38)),w 40 (.lenS (.t 39)),w 41 (.bin .gtr (.t 40) (.c U2 8))]
def c66_r13 : List AI := [w 2 (.asg (.c U2 3))]
def c66_r14 : List AI := [w 4 (.asg (.c U2 0))]
def c66_r15 : List AI := [w 42 (.mv (.t 4)),w 43 (.fieldAddr U18 [.r, .r, .l] (.t 1)),w 44 (.load .str (.t 43)),w 45 (.lenS (.t 44)),w 46 (.bin .lss (.t 42) (.t 45))]
def c66_r17 : List AI := [w 49 (.fieldAddr U18 [.r, .r, .l] (.t 1)),w 50 (.load .str (.t 49)),w 51 (.mv (.t 4)),w 52 (.indexS (.t 50) (.t 51)),w 53 (.call 81 [(.t 52)]),w 54 (.un .not (.t 53))]
def c66_r18 : List AI := [w 2 (.asg (.c U2 2))]
def c66_r16 : List AI := [w 47 (.mv (.t 4)),w 48 (.bin .add (.t 47) (.c U2 1)),w 4 (.asg (.t 48))]
def c66_r19 : List AI := [w 2 (.asg (.c U2 0))]
def c66 : AC := (.seq (.reg [0] c66_r0) (.seq (.seq (.reg [1] c66_r1) (.cond (.t 12) (.seq (.reg [] c66_r2) .ret) .skip)) (.seq (.reg [1] c66_r3) (.seq (.seq (.reg [1, 3] c66_r4) (.cond (.t 18) (.reg [1] c66_r5) .skip)) (.seq (.seq (.reg [1, 3] c66_r6) (.cond (.t 29) (.reg [1] c66_r7) .skip)) (.seq (.seq (.reg [1, 3] c66_r8) (.cond (.t 34) (.seq (.reg [] c66_r9) .ret) .skip)) (.seq (.seq (.reg [1] c66_r10) (.cond (.t 37) (.seq (.reg [] c66_r11) .ret) .skip)) (.seq (.seq (.reg [1] c66_r12) (.cond (.t 41) (.seq (.reg [] c66_r13) .ret) .skip)) (.seq (.seq (.reg [1] c66_r14) (.block 0 (.loop [1, 4] (.seq (.seq (.reg [1, 4] c66_r15) (.cond (.t 46) .skip (.exit 0))) (.seq (.block 1 (.seq (.reg [1, 4] c66_r17) (.cond (.t 54) (.seq (.reg [] c66_r18) .ret) .skip))) (.reg [1, 4] c66_r16)))))) (.seq (.reg [] c66_r19) .ret))))))))))
def d66 : FD := { nargs := 1, body := c66, res := [.t 2] }
-- anceps/ancepsref05.Tokens
def c67_r0 : List AI := [w 2 (.asg (.nil 104 U19)),w 3 (.asg (.c U2 0)),w 4 (.asg (.c U2 0))]
def c67_r1 : List AI := [w 11 (.mv (.t 0)),w 12 (.lenS (.t 11)),w 13 (.bin .gtr (.t 12) (.c U2 20000))]
def c67_r2 : List AI := [w 2 (.asg (.nil 104 U19)),w 3 (.asg (.c U2 0)),w 4 (.asg (.c U2 3))]
def c67_r3 : List AI := [w 5 (.asg (.nil 104 U19))]
def c67_r4 : List AI := [w 6 (.asg (.c U2 1))]
def c67_r5 : List AI := [w 7 (.asg (.c U2 0))]
def c67_r6 : List AI := [w 14 (.mv (.t 0)),w 15 (.mv (.t 7)),w 16 (.sliceS (.t 14) (some (.t 15)) none),w 17 (.call 82 [(.t 16)]),w 8 (.asg (.t 17))]
def c67_r7 : List AI := [w 18 (.mv (.t 6)),w 19 (.mv (.t 0)),w 20 (.mv (.t 7)),w 21 (.mv (.t 7)),w 22 (.mv (.t 8)),w 23 (.bin .add (.t 21) (.t 22)),w 24 (.sliceS (.t 19) (some (.t 20)) (some (.t 23))),w 25 (.call 83 [(.t 24)]),w 26 (.bin .add (.t 18) (.t 25)),w 6 (.asg (.t 26))]
def c67_r8 : List AI := [w 27 (.mv (.t 7)),w 28 (.mv (.t 8)),w 29 (.bin .add (.t 27) (.t 28)),w 7 (.asg (.t 29))]
def c67_r9 : List AI := [w 30 (.mv (.t 7)),w 31 (.mv (.t 0)),w 32 (.lenS (.t 31)),w 33 (.bin .eql (.t 30) (.t 32))]
def c67_r10 : List AI := [w 34 (.mv (.t 5)),w 2 (.asg (.t 34)),w 3 (.asg (.c U2 0)),w 4 (.asg (.c U2 0))]
def c67_r11 : List AI := [w 36 (.mv (.t 0)),w 37 (.mv (.t 7)),w 38 (.sliceS (.t 36) (some (.t 37)) none),w 39 (.call 84 [(.t 38)]),w 35 (.mv (.t 39)),w 40 (.extract 35 0),w 41 (.extract 35 1),w 42 (.extract 35 2),w 9 (.alloc U19 .no),
  ⟨none, .store U19 (.t 9) (.t 40), none⟩,
  w 8 (.asg (.t 41)),w 10 (.asg (.t 42))]
def c67_r12 : List AI := [w 43 (.mv (.t 10)),w 44 (.bin .neq (.t 43) (.c U2 0))]
def c67_r13 : List AI := [w 45 (.mv (.t 6)),w 46 (.mv (.t 10)),w 2 (.asg (.nil 104 U19)),w 3 (.asg (.t 45)),w 4 (.asg (.t 46))]
def c67_r14 : List AI := [w 47 (.mv (.t 6)),w 48 (.fieldAddr U19 [.r, .r, .l] (.t 9)),
  ⟨none, .store U2 (.t 48) (.t 47), none⟩]
def c67_r15 : List AI := [w 49 (.mv (.t 5)),w 50 (.load U19 (.t 9)),w 51 (.buildSlice 104 U19 [(.t 50)]),w 52 (.append 104 U19 4398046511104 (.t 49) (.t 51)),w 5 (.asg (.t 52))]
def c67_r16 : List AI := [w 53 (.mv (.t 7)),w 54 (.mv (.t 8)),w 55 (.bin .add (.t 53) (.t 54)),w 7 (.asg (.t 55))]
def c67 : AC := (.seq (.reg [0] c67_r0) (.seq (.seq (.reg [0] c67_r1) (.cond (.t 13) (.seq (.reg [] c67_r2) .ret) .skip)) (.seq (.reg [0] c67_r3) (.seq (.reg [0, 5, 52] c67_r4) (.seq (.reg [0, 5, 6, 52] c67_r5) (.block 0 (.loop [0, 5, 6, 7, 52] (.block 1 (.seq (.reg [0, 5, 6, 7, 52] c67_r6) (.seq (.reg [0, 5, 6, 7, 8, 52] c67_r7) (.seq (.reg [0, 5, 6, 7, 8, 52] c67_r8) (.seq (.seq (.reg [0, 5, 6, 7, 52] c67_r9) (.cond (.t 33) (.seq (.reg [5, 52] c67_r10) .ret) .skip)) (.seq (.reg [0, 5, 6, 7, 52] c67_r11) (.seq (.seq (.reg [0, 5, 6, 7, 8, 9, 10, 40, 52] c67_r12) (.cond (.t 44) (.seq (.reg [6, 10] c67_r13) .ret) .skip)) (.seq (.reg [0, 5, 6, 7, 8, 9, 40, 52] c67_r14) (.seq (.reg [0, 5, 6, 7, 8, 9, 40, 52] c67_r15) (.reg [0, 5, 6, 7, 8, 52] c67_r16)))))))))))))))))
def d67 : FD := { nargs := 1, body := c67, res := [.t 2, .t 3, .t 4] }
-- anceps/ancepsref17.is
def c68_r0 : List AI := [w 8 (.asg (.c .bool false))]
def c68_r1 : List AI := [w 9 (.mv (.t 1)),w 10 (.mv (.t 0)),w 11 (.lenL (.t 10)),w 12 (.bin .lss (.t 9) (.t 11)),w 13 (.mv (.t 12)),
  ⟨some 14, .mv (.t 0), some (13, true)⟩,
  ⟨some 15, .mv (.t 1), some (13, true)⟩,
  ⟨some 16, .indexAddr U19 (.t 14) (.t 15), some (13, true)⟩,
  ⟨some 17, .fieldAddr U19 [.l] (.t 16), some (13, true)⟩,
  ⟨some 18, .load U2 (.t 17), some (13, true)⟩,
  ⟨some 19, .mv (.t 2), some (13, true)⟩,
  ⟨some 20, .bin .eql (.t 18) (.t 19), some (13, true)⟩,
  w 21 (.pick (.t 13) (.t 20) (.c .bool false)),w 22 (.mv (.t 21)),
  ⟨some 23, .mv (.t 3), some (22, true)⟩,
  ⟨some 24, .bin .eql (.t 23) (.c .str []), some (22, true)⟩,
  ⟨some 25, .mv (.t 24), some (22, true)⟩,
  ⟨some 26, .mv (.t 0), some (25, false)⟩,
  ⟨some 27, .mv (.t 1), some (25, false)⟩,
  ⟨some 28, .indexAddr U19 (.t 26) (.t 27), some (25, false)⟩,
  ⟨some 29, .fieldAddr U19 [.r, .l] (.t 28), some (25, false)⟩,
  ⟨some 30, .load .str (.t 29), some (25, false)⟩,
  ⟨some 31, .mv (.t 3), some (25, false)⟩,
  ⟨some 32, .bin .eql (.t 30) (.t 31), some (25, false)⟩,
  ⟨some 33, .pick (.t 25) (.c .bool true) (.t 32), some (22, true)⟩,
  w 34 (.pick (.t 22) (.t 33) (.c .bool false)),w 8 (.asg (.t 34))]
def c68 : AC := (.seq (.reg [0, 1, 2, 3] c68_r0) (.seq (.reg [0, 1, 2, 3] c68_r1) .ret))
def d68 : FD := { nargs := 4, body := c68, res := [.t 8] }
-- anceps/ancepsref17.fails
def c69_r0 : List AI := [w 4 (.alloc U26 .no),w 5 (.asg (.c U2 0)),w 6 (.asg (.c U2 0))]
def c69_r1 : List AI := [w 7 (.mv (.t 1)),w 8 (.mv (.t 0)),w 9 (.lenL (.t 8)),w 10 (.bin .lss (.t 7) (.t 9))]
def c69_r2 : List DI := [{ ai := w 11 (.build U26 []), hide := [12, 13, 14, 15, 16], wr := [11], pre := [] },
  { ai := w 12 (.mv (.t 0)), hide := [4, 11, 13], wr := [12], pre := [] },
  { ai := w 13 (.mv (.t 1)), hide := [4, 11, 12], wr := [13], pre := [] },
  { ai := w 14 (.indexAddr U19 (.t 12) (.t 13)), hide := [4, 11], wr := [14], pre := [1, 2] },
  { ai := w 15 (.fieldAddr U19 [.r, .r, .l] (.t 14)), hide := [4, 11], wr := [15], pre := [1, 2, 3] },
  { ai := w 16 (.load U2 (.t 15)), hide := [4, 11], wr := [16], pre := [1, 2, 3, 4] },
  { ai := ⟨none, .store U26 (.t 4) (.t 11), none⟩, hide := [12, 13, 14, 15, 16], wr := [4], pre := [0] },
  { ai := w 5 (.asg (.t 16)), hide := [], wr := [5], pre := [0, 1, 2, 3, 4, 5, 6] },
  { ai := w 6 (.asg (.c U2 2)), hide := [], wr := [6], pre := [0, 1, 2, 3, 4, 5, 6, 7] }]
def c69_r3 : List AI := [w 17 (.mv (.t 0)),w 18 (.lenL (.t 17)),w 19 (.bin .gtr (.t 18) (.c U2 0))]
def c69_r4 : List DI := [{ ai := w 20 (.build U26 []), hide := [21, 22, 23, 24, 25, 26, 27], wr := [20], pre := [] },
  { ai := w 21 (.mv (.t 0)), hide := [4, 20, 22, 23, 24], wr := [21], pre := [] },
  { ai := w 22 (.mv (.t 0)), hide := [4, 20, 21], wr := [22], pre := [] },
  { ai := w 23 (.lenL (.t 22)), hide := [4, 20, 21], wr := [23], pre := [2] },
  { ai := w 24 (.bin .sub (.t 23) (.c U2 1)), hide := [4, 20, 21], wr := [24], pre := [2, 3] },
  { ai := w 25 (.indexAddr U19 (.t 21) (.t 24)), hide := [4, 20], wr := [25], pre := [1, 2, 3, 4] },
  { ai := w 26 (.fieldAddr U19 [.r, .r, .l] (.t 25)), hide := [4, 20], wr := [26], pre := [1, 2, 3, 4, 5] },
  { ai := w 27 (.load U2 (.t 26)), hide := [4, 20], wr := [27], pre := [1, 2, 3, 4, 5, 6] },
  { ai := ⟨none, .store U26 (.t 4) (.t 20), none⟩, hide := [21, 22, 23, 24, 25, 26, 27], wr := [4], pre := [0] },
  { ai := w 5 (.asg (.t 27)), hide := [], wr := [5], pre := [0, 1, 2, 3, 4, 5, 6, 7, 8] },
  { ai := w 6 (.asg (.c U2 2)), hide := [], wr := [6], pre := [0, 1, 2, 3, 4, 5, 6, 7, 8, 9] }]
def c69_r5 : List AI := [w 28 (.buildN U26 (.pair .no (.pair (.own true 66 .no) .no)) []),
  ⟨none, .store U26 (.t 4) (.t 28), none⟩,
  w 5 (.asg (.c U2 1)),w 6 (.asg (.c U2 2))]
def c69 : AC := (.seq (.reg [0, 1] c69_r0) (.seq (.seq (.reg [0, 1, 4, 11, 20, 28] c69_r1) (.cond (.t 10) (.seq (.draw [0, 1, 4, 11, 20, 28] c69_r2) .ret) .skip)) (.seq (.seq (.reg [0, 4, 11, 20, 28] c69_r3) (.cond (.t 19) (.seq (.draw [0, 4, 11, 20, 28] c69_r4) .ret) .skip)) (.seq (.reg [4, 11, 20, 28] c69_r5) .ret))))
def d69 : FD := { nargs := 2, body := c69, res := [.cell 4 U26, .t 5, .t 6] }
-- anceps/ancepsref17.parsed
def c70_r0 : List AI := [w 4 (.alloc U20 (.pair .no (.pair .no (.pair (.own true 9 .no) .no)))),w 5 (.asg (.c U2 0)),w 6 (.asg (.c .bool false))]
def c70_r1 : List AI := [w 7 (.alloc U20 (.pair .no (.pair .no (.pair (.own true 9 .no) .no))))]
def c70_r2 : List AI := [w 8 (.mv (.t 0)),w 9 (.mv (.t 1)),w 10 (.call 68 [(.t 8), (.t 9), (.c U2 1), (.c .str [])]),w 11 (.un .not (.t 10))]
def c70_r3 : List AI := [w 12 (.load U20 (.t 7)),w 13 (.mv (.t 1)),
  ⟨none, .store U20 (.t 4) (.t 12), none⟩,
  w 5 (.asg (.t 13)),w 6 (.asg (.c .bool false))]
def c70_r4 : List AI := [w 14 (.mv (.t 0)),w 15 (.mv (.t 1)),w 16 (.bin .add (.t 15) (.c U2 1)),w 17 (.call 68 [(.t 14), (.t 16), (.c U2 2), (.c .str [])]),w 18 (.un .not (.t 17))]
def c70_r5 : List AI := [w 19 (.load U20 (.t 7)),w 20 (.mv (.t 1)),w 21 (.bin .add (.t 20) (.c U2 1)),
  ⟨none, .store U20 (.t 4) (.t 19), none⟩,
  w 5 (.asg (.t 21)),w 6 (.asg (.c .bool false))]
def c70_r6 : List AI := [w 23 (.mv (.t 0)),w 24 (.mv (.t 1)),w 25 (.bin .add (.t 24) (.c U2 1)),w 26 (.indexAddr U19 (.t 23) (.t 25)),w 27 (.fieldAddr U19 [.r, .l] (.t 26)),w 28 (.load .str (.t 27)),w 29 (.call 85 [(.t 28)]),w 22 (.mv (.t 29)),w 30 (.extract 22 0),w 31 (.extract 22 1),w 32 (.fieldAddr U20 [.r, .l] (.t 7)),
  ⟨none, .store U2 (.t 32) (.t 30), none⟩]
def c70_r7 : List AI := [w 33 (.mv (.t 1)),w 34 (.bin .add (.t 33) (.c U2 2)),w 1 (.asg (.t 34))]
def c70_r8 : List AI := [w 35 (.mv (.t 0)),w 36 (.mv (.t 1)),w 37 (.call 68 [(.t 35), (.t 36), (.c U2 1), (.c .str [105, 110])])]
def c70_r9 : List AI := [w 38 (.mv (.t 0)),w 39 (.mv (.t 1)),w 40 (.bin .add (.t 39) (.c U2 1)),w 41 (.call 68 [(.t 38), (.t 40), (.c U2 3), (.c .str [])]),w 42 (.un .not (.t 41))]
def c70_r10 : List AI := [w 43 (.load U20 (.t 7)),w 44 (.mv (.t 1)),w 45 (.bin .add (.t 44) (.c U2 1)),
  ⟨none, .store U20 (.t 4) (.t 43), none⟩,
  w 5 (.asg (.t 45)),w 6 (.asg (.c .bool false))]
def c70_r11 : List DI := [{ ai := w 46 (.fieldAddr U20 [.r, .r, .l] (.t 7)), hide := [48, 49, 50, 51, 52, 53, 54], wr := [46], pre := [] },
  { ai := w 47 (.load U0 (.t 46)), hide := [48, 49, 50, 51, 52, 53, 54], wr := [47], pre := [0] },
  { ai := w 48 (.mv (.t 0)), hide := [46, 47, 49, 50], wr := [48], pre := [] },
  { ai := w 49 (.mv (.t 1)), hide := [46, 47, 48], wr := [49], pre := [] },
  { ai := w 50 (.bin .add (.t 49) (.c U2 1)), hide := [46, 47, 48], wr := [50], pre := [3] },
  { ai := w 51 (.indexAddr U19 (.t 48) (.t 50)), hide := [46, 47], wr := [51], pre := [2, 3, 4] },
  { ai := w 52 (.fieldAddr U19 [.r, .l] (.t 51)), hide := [46, 47], wr := [52], pre := [2, 3, 4, 5] },
  { ai := w 53 (.load .str (.t 52)), hide := [46, 47], wr := [53], pre := [2, 3, 4, 5, 6] },
  { ai := w 54 (.buildSlice 9 .str [(.t 53)]), hide := [46, 47], wr := [54], pre := [2, 3, 4, 5, 6, 7] },
  { ai := w 55 (.append 9 .str 8796093022208 (.t 47) (.t 54)), hide := [], wr := [55], pre := [0, 1, 2, 3, 4, 5, 6, 7, 8], piv := true },
  { ai := w 56 (.fieldAddr U20 [.r, .r, .l] (.t 7)), hide := [], wr := [56], pre := [0, 1, 2, 3, 4, 5, 6, 7, 8, 9] },
  { ai := ⟨none, .store U0 (.t 56) (.t 55), none⟩, hide := [], wr := [7, 56], pre := [0, 1, 2, 3, 4, 5, 6, 7, 8, 9, 10], piv := true }]
def c70_r12 : List AI := [w 57 (.mv (.t 1)),w 58 (.bin .add (.t 57) (.c U2 2)),w 1 (.asg (.t 58))]
def c70_r13 : List AI := [w 59 (.mv (.t 0)),w 60 (.mv (.t 1)),w 61 (.call 68 [(.t 59), (.t 60), (.c U2 4), (.c .str [44])]),w 62 (.un .not (.t 61))]
def c70_r14 : List AI := [w 63 (.mv (.t 0)),w 64 (.mv (.t 1)),w 65 (.call 68 [(.t 63), (.t 64), (.c U2 4), (.c .str [59])]),w 66 (.un .not (.t 65))]
def c70_r15 : List AI := [w 67 (.load U20 (.t 7)),w 68 (.mv (.t 1)),
  ⟨none, .store U20 (.t 4) (.t 67), none⟩,
  w 5 (.asg (.t 68)),w 6 (.asg (.c .bool false))]
def c70_r16 : List AI := [w 69 (.load U20 (.t 7)),w 70 (.mv (.t 1)),w 71 (.bin .add (.t 70) (.c U2 1)),
  ⟨none, .store U20 (.t 4) (.t 69), none⟩,
  w 5 (.asg (.t 71)),w 6 (.asg (.c .bool true))]
def c70 : AC := (.seq (.reg [0, 1] c70_r0) (.seq (.reg [0, 1, 4, 7, 12, 19, 43, 67, 69] c70_r1) (.seq (.seq (.reg [0, 1, 4, 7, 12, 19, 43, 67, 69] c70_r2) (.cond (.t 11) (.seq (.reg [1, 4, 7, 12, 19, 43, 67, 69] c70_r3) .ret) .skip)) (.seq (.seq (.reg [0, 1, 4, 7, 12, 19, 43, 67, 69] c70_r4) (.cond (.t 18) (.seq (.reg [1, 4, 7, 12, 19, 43, 67, 69] c70_r5) .ret) .skip)) (.seq (.reg [0, 1, 4, 7, 12, 19, 43, 67, 69] c70_r6) (.seq (.reg [0, 1, 4, 7, 12, 19, 43, 67, 69] c70_r7) (.seq (.seq (.reg [0, 1, 4, 7, 12, 19, 43, 67, 69] c70_r8) (.cond (.t 37) (.block 0 (.loop [0, 1, 4, 7, 12, 19, 43, 67, 69] (.block 1 (.seq (.seq (.reg [0, 1, 4, 7, 12, 19, 43, 67, 69] c70_r9) (.cond (.t 42) (.seq (.reg [1, 4, 7, 12, 19, 43, 67, 69] c70_r10) .ret) .skip)) (.seq (.draw [0, 1, 4, 7, 12, 19, 43, 67, 69] c70_r11) (.seq (.reg [0, 1, 4, 7, 12, 19, 43, 67, 69] c70_r12) (.seq (.reg [0, 1, 4, 7, 12, 19, 43, 67, 69] c70_r13) (.cond (.t 62) (.exit 0) .skip)))))))) .skip)) (.seq (.seq (.reg [0, 1, 4, 7, 12, 19, 43, 67, 69] c70_r14) (.cond (.t 66) (.seq (.reg [1, 4, 7, 12, 19, 43, 67, 69] c70_r15) .ret) .skip)) (.seq (.reg [1, 4, 7, 12, 19, 43, 67, 69] c70_r16) .ret)))))))))
def d70 : FD := { nargs := 2, body := c70, res := [.cell 4 U20, .t 5, .t 6] }
-- anceps/ancepsref16.Kind
def c71_r0 : List AI := [w 2 (.asg (.c .str []))]
def c71_r1 : List AI := [w 3 (.mv (.t 0)),w 4 (.bin .lss (.t 3) (.c U2 1)),w 5 (.mv (.t 4)),
  ⟨some 6, .mv (.t 0), some (5, false)⟩,
  ⟨some 7, .bin .gtr (.t 6) (.c U2 12), some (5, false)⟩,
  w 8 (.pick (.t 5) (.c .bool true) (.t 7))]
def c71_r2 : List AI := [w 2 (.asg (.c .str []))]
def c71_r3 : List AI := [w 9 (.buildSlice 9 .str [(.c .str [109, 117, 116, 101]), (.c .str [110, 101, 120, 116]), (.c .str [98, 114, 101, 118, 105, 115]), (.c .str [105, 110, 100, 105, 102, 102, 101, 114, 101, 110, 116]), (.c .str [108, 101, 110, 103, 116, 104, 101, 110]), (.c .str [115, 104, 111, 114, 116, 101, 110]), (.c .str [115, 121, 110, 105, 122, 101, 115, 105, 115]), (.c .str [101, 108, 105, 115, 105, 111, 110]), (.c .str [101, 99, 116, 104, 108, 105, 112, 115, 105, 115]), (.c .str [112, 114, 111, 100, 101, 108, 105, 115, 105, 111, 110]), (.c .str [104, 105, 97, 116, 117, 115]), (.c .str [99, 111, 114, 114, 101, 112, 116, 105, 111, 110])]),w 10 (.mv (.t 0)),w 11 (.bin .sub (.t 10) (.c U2 1)),w 12 (.indexAddr .str (.t 9) (.t 11)),w 13 (.load .str (.t 12)),w 2 (.asg (.t 13))]
def c71 : AC := (.seq (.reg [0] c71_r0) (.seq (.seq (.reg [0] c71_r1) (.cond (.t 8) (.seq (.reg [] c71_r2) .ret) .skip)) (.seq (.reg [0] c71_r3) .ret)))
def d71 : FD := { nargs := 1, body := c71, res := [.t 2] }
-- anceps/ancepsref11.letter
def c81_r0 : List AI := [w 2 (.asg (.c .bool false))]
def c81_r1 : List AI := [w 3 (.mv (.t 0)),w 4 (.bin .geq (.t 3) (.c U1 97)),w 5 (.mv (.t 4)),
  ⟨some 6, .mv (.t 0), some (5, true)⟩,
  ⟨some 7, .bin .leq (.t 6) (.c U1 122), some (5, true)⟩,
  w 8 (.pick (.t 5) (.t 7) (.c .bool false)),w 9 (.mv (.t 8)),
  ⟨some 10, .mv (.t 0), some (9, false)⟩,
  ⟨some 11, .bin .geq (.t 10) (.c U1 48), some (9, false)⟩,
  ⟨some 12, .mv (.t 11), some (9, false)⟩,
  ⟨some 13, .mv (.t 0), some (12, true)⟩,
  ⟨some 14, .bin .leq (.t 13) (.c U1 57), some (12, true)⟩,
  ⟨some 15, .pick (.t 12) (.t 14) (.c .bool false), some (9, false)⟩,
  w 16 (.pick (.t 9) (.c .bool true) (.t 15)),w 17 (.mv (.t 16)),
  ⟨some 18, .mv (.t 0), some (17, false)⟩,
  ⟨some 19, .bin .eql (.t 18) (.c U1 95), some (17, false)⟩,
  w 20 (.pick (.t 17) (.c .bool true) (.t 19)),w 21 (.mv (.t 20)),
  ⟨some 22, .mv (.t 0), some (21, false)⟩,
  ⟨some 23, .bin .eql (.t 22) (.c U1 94), some (21, false)⟩,
  w 24 (.pick (.t 21) (.c .bool true) (.t 23)),w 25 (.mv (.t 24)),
  ⟨some 26, .mv (.t 0), some (25, false)⟩,
  ⟨some 27, .bin .eql (.t 26) (.c U1 39), some (25, false)⟩,
  w 28 (.pick (.t 25) (.c .bool true) (.t 27)),w 2 (.asg (.t 28))]
def c81 : AC := (.seq (.reg [0] c81_r0) (.seq (.reg [0] c81_r1) .ret))
def d81 : FD := { nargs := 1, body := c81, res := [.t 2] }
-- anceps/ancepsref05.space
def c82_r0 : List AI := [w 2 (.asg (.c U2 0))]
def c82_r1 : List AI := [w 3 (.asg (.c U2 0))]
def c82_r2 : List AI := [w 4 (.mv (.t 3)),w 5 (.mv (.t 0)),w 6 (.lenS (.t 5)),w 7 (.bin .lss (.t 4) (.t 6))]
def c82_r3 : List AI := [w 8 (.mv (.t 0)),w 9 (.mv (.t 3)),w 10 (.indexS (.t 8) (.t 9))]
def c82_r5 : List AI := [w 13 (.bin .eql (.t 10) (.c U1 32)),w 12 (.asg (.t 13))]
def c82_r6 : List AI := [w 14 (.bin .eql (.t 10) (.c U1 9)),w 12 (.asg (.t 14))]
def c82_r7 : List AI := [w 15 (.bin .eql (.t 10) (.c U1 10)),w 12 (.asg (.t 15))]
def c82_r8 : List AI := [w 16 (.bin .eql (.t 10) (.c U1 13)),w 12 (.asg (.t 16))]
def c82_r9 : List AI := [w 17 (.mv (.t 3)),w 18 (.bin .add (.t 17) (.c U2 1)),w 3 (.asg (.t 18))]
def c82_r10 : List AI := [w 20 (.bin .eql (.t 10) (.c U1 35)),w 19 (.asg (.t 20))]
def c82_r11 : List AI := [w 21 (.mv (.t 3)),w 22 (.mv (.t 0)),w 23 (.lenS (.t 22)),w 24 (.bin .lss (.t 21) (.t 23)),w 25 (.mv (.t 24)),
  ⟨some 26, .mv (.t 0), some (25, true)⟩,
  ⟨some 27, .mv (.t 3), some (25, true)⟩,
  ⟨some 28, .indexS (.t 26) (.t 27), some (25, true)⟩,
  ⟨some 29, .bin .neq (.t 28) (.c U1 10), some (25, true)⟩,
  w 30 (.pick (.t 25) (.t 29) (.c .bool false))]
def c82_r12 : List AI := [w 31 (.mv (.t 3)),w 32 (.bin .add (.t 31) (.c U2 1)),w 3 (.asg (.t 32))]
def c82_r4 : List AI := [w 11 (.mv (.t 3)),w 2 (.asg (.t 11))]
def c82_r13 : List AI := [w 33 (.mv (.t 3)),w 2 (.asg (.t 33))]
def c82 : AC := (.seq (.reg [0] c82_r0) (.seq (.reg [0] c82_r1) (.seq (.block 0 (.loop [0, 3] (.seq (.seq (.reg [0, 3] c82_r2) (.cond (.t 7) .skip (.exit 0))) (.block 1 (.seq (.reg [0, 3] c82_r3) (.block 2 (.seq (.seq (.reg [0, 3, 10] c82_r5) (.cond (.t 12) .skip (.seq (.reg [0, 3, 10] c82_r6) (.cond (.t 12) .skip (.seq (.reg [0, 3, 10] c82_r7) (.cond (.t 12) .skip (.reg [0, 3, 10] c82_r8))))))) (.cond (.t 12) (.reg [0, 3] c82_r9) (.seq (.reg [0, 3, 10] c82_r10) (.cond (.t 19) (.block 3 (.loop [0, 3] (.seq (.seq (.reg [0, 3] c82_r11) (.cond (.t 30) .skip (.exit 3))) (.block 4 (.reg [0, 3] c82_r12))))) (.seq (.reg [3] c82_r4) .ret))))))))))) (.seq (.reg [3] c82_r13) .ret))))
def d82 : FD := { nargs := 1, body := c82, res := [.t 2] }
-- anceps/ancepsref05.feeds
def c83_r0 : List AI := [w 2 (.asg (.c U2 0))]
def c83_r1 : List AI := [w 3 (.asg (.c U2 0))]
def c83_r2 : List AI := [w 4 (.asg (.c U2 0))]
def c83_r3 : List AI := [w 5 (.mv (.t 4)),w 6 (.mv (.t 0)),w 7 (.lenS (.t 6)),w 8 (.bin .lss (.t 5) (.t 7))]
def c83_r5 : List AI := [w 11 (.mv (.t 0)),w 12 (.mv (.t 4)),w 13 (.indexS (.t 11) (.t 12)),w 14 (.bin .eql (.t 13) (.c U1 10))]
def c83_r6 : List AI := [w 15 (.mv (.t 3)),w 16 (.bin .add (.t 15) (.c U2 1)),w 3 (.asg (.t 16))]
def c83_r4 : List AI := [w 9 (.mv (.t 4)),w 10 (.bin .add (.t 9) (.c U2 1)),w 4 (.asg (.t 10))]
def c83_r7 : List AI := [w 17 (.mv (.t 3)),w 2 (.asg (.t 17))]
def c83 : AC := (.seq (.reg [0] c83_r0) (.seq (.reg [0] c83_r1) (.seq (.seq (.reg [0, 3] c83_r2) (.block 0 (.loop [0, 3, 4] (.seq (.seq (.reg [0, 3, 4] c83_r3) (.cond (.t 8) .skip (.exit 0))) (.seq (.block 1 (.seq (.reg [0, 3, 4] c83_r5) (.cond (.t 14) (.reg [0, 3, 4] c83_r6) .skip))) (.reg [0, 3, 4] c83_r4)))))) (.seq (.reg [3] c83_r7) .ret))))
def d83 : FD := { nargs := 1, body := c83, res := [.t 2] }
-- anceps/ancepsref05.next
def c84_r0 : List AI := [w 2 (.alloc U19 .no),w 3 (.asg (.c U2 0)),w 4 (.asg (.c U2 0))]
def c84_r1 : List AI := [w 7 (.mv (.t 0)),w 8 (.call 58 [(.t 7)]),w 5 (.asg (.t 8))]
def c84_r2 : List AI := [w 9 (.mv (.t 5)),w 10 (.bin .gtr (.t 9) (.c U2 0))]
def c84_r3 : List AI := [w 11 (.mv (.t 5)),w 12 (.bin .gtr (.t 11) (.c U2 20))]
def c84_r4 : List AI := [w 13 (.build U19 []),
  ⟨none, .store U19 (.t 2) (.t 13), none⟩,
  w 3 (.asg (.c U2 0)),w 4 (.asg (.c U2 3))]
def c84_r5 : List AI := [w 14 (.mv (.t 0)),w 15 (.mv (.t 5)),w 16 (.sliceS (.t 14) none (some (.t 15))),w 17 (.build U19 [([.l], (.c U2 1)), ([.r, .l], (.t 16))]),w 18 (.mv (.t 5)),
  ⟨none, .store U19 (.t 2) (.t 17), none⟩,
  w 3 (.asg (.t 18)),w 4 (.asg (.c U2 0))]
def c84_r6 : List AI := [w 19 (.mv (.t 0)),w 20 (.call 94 [(.t 19)]),w 6 (.asg (.t 20))]
def c84_r7 : List AI := [w 21 (.mv (.t 6)),w 22 (.bin .gtr (.t 21) (.c U2 0))]
def c84_r8 : List AI := [w 23 (.mv (.t 6)),w 24 (.bin .gtr (.t 23) (.c U2 6))]
def c84_r9 : List AI := [w 25 (.build U19 []),
  ⟨none, .store U19 (.t 2) (.t 25), none⟩,
  w 3 (.asg (.c U2 0)),w 4 (.asg (.c U2 3))]
def c84_r10 : List AI := [w 26 (.mv (.t 0)),w 27 (.indexS (.t 26) (.c U2 0)),w 28 (.bin .eql (.t 27) (.c U1 48)),w 29 (.mv (.t 28)),
  ⟨some 30, .mv (.t 6), some (29, true)⟩,
  ⟨some 31, .bin .gtr (.t 30) (.c U2 1), some (29, true)⟩,
  w 32 (.pick (.t 29) (.t 31) (.c .bool false))]
def c84_r11 : List AI := [w 33 (.build U19 []),
  ⟨none, .store U19 (.t 2) (.t 33), none⟩,
  w 3 (.asg (.c U2 0)),w 4 (.asg (.c U2 2))]
def c84_r12 : List AI := [w 34 (.mv (.t 0)),w 35 (.mv (.t 6)),w 36 (.sliceS (.t 34) none (some (.t 35))),w 37 (.build U19 [([.l], (.c U2 2)), ([.r, .l], (.t 36))]),w 38 (.mv (.t 6)),
  ⟨none, .store U19 (.t 2) (.t 37), none⟩,
  w 3 (.asg (.t 38)),w 4 (.asg (.c U2 0))]
def c84_r13 : List AI := [w 39 (.mv (.t 0)),w 40 (.indexS (.t 39) (.c U2 0)),w 41 (.bin .eql (.t 40) (.c U1 34))]
def c84_r14 : List AI := [w 42 (.mv (.t 0)),w 43 (.call 95 [(.t 42)]),w 44 (.extract 43 0),w 45 (.extract 43 1),w 46 (.extract 43 2),
  ⟨none, .store U19 (.t 2) (.t 44), none⟩,
  w 3 (.asg (.t 45)),w 4 (.asg (.t 46))]
def c84_r15 : List AI := [w 47 (.mv (.t 0)),w 48 (.indexS (.t 47) (.c U2 0)),w 49 (.call 96 [(.t 48)])]
def c84_r16 : List AI := [w 50 (.mv (.t 0)),w 51 (.sliceS (.t 50) none (some (.c U2 1))),w 52 (.build U19 [([.l], (.c U2 4)), ([.r, .l], (.t 51))]),
  ⟨none, .store U19 (.t 2) (.t 52), none⟩,
  w 3 (.asg (.c U2 1)),w 4 (.asg (.c U2 0))]
def c84_r17 : List AI := [w 53 (.build U19 []),
  ⟨none, .store U19 (.t 2) (.t 53), none⟩,
  w 3 (.asg (.c U2 0)),w 4 (.asg (.c U2 2))]
def c84 : AC := (.seq (.reg [0] c84_r0) (.seq (.seq (.reg [0, 2, 13, 17, 25, 33, 37, 44, 52, 53] c84_r1) (.seq (.reg [0, 2, 5, 13, 17, 25, 33, 37, 44, 52, 53] c84_r2) (.cond (.t 10) (.seq (.seq (.reg [0, 2, 5, 13, 17, 25, 33, 37, 44, 52, 53] c84_r3) (.cond (.t 12) (.seq (.reg [2, 13, 17, 25, 33, 37, 44, 52, 53] c84_r4) .ret) .skip)) (.seq (.reg [0, 2, 5, 13, 17, 25, 33, 37, 44, 52, 53] c84_r5) .ret)) .skip))) (.seq (.seq (.reg [0, 2, 13, 17, 25, 33, 37, 44, 52, 53] c84_r6) (.seq (.reg [0, 2, 6, 13, 17, 25, 33, 37, 44, 52, 53] c84_r7) (.cond (.t 22) (.seq (.seq (.reg [0, 2, 6, 13, 17, 25, 33, 37, 44, 52, 53] c84_r8) (.cond (.t 24) (.seq (.reg [2, 13, 17, 25, 33, 37, 44, 52, 53] c84_r9) .ret) .skip)) (.seq (.seq (.reg [0, 2, 6, 13, 17, 25, 33, 37, 44, 52, 53] c84_r10) (.cond (.t 32) (.seq (.reg [2, 13, 17, 25, 33, 37, 44, 52, 53] c84_r11) .ret) .skip)) (.seq (.reg [0, 2, 6, 13, 17, 25, 33, 37, 44, 52, 53] c84_r12) .ret))) .skip))) (.seq (.seq (.reg [0, 2, 13, 17, 25, 33, 37, 44, 52, 53] c84_r13) (.cond (.t 41) (.seq (.reg [0, 2, 13, 17, 25, 33, 37, 44, 52, 53] c84_r14) .ret) .skip)) (.seq (.seq (.reg [0, 2, 13, 17, 25, 33, 37, 44, 52, 53] c84_r15) (.cond (.t 49) (.seq (.reg [0, 2, 13, 17, 25, 33, 37, 44, 52, 53] c84_r16) .ret) .skip)) (.seq (.reg [2, 13, 17, 25, 33, 37, 44, 52, 53] c84_r17) .ret))))))
def d84 : FD := { nargs := 1, body := c84, res := [.cell 2 U19, .t 3, .t 4] }
-- anceps/ancepsref05.Number
def c85_r0 : List AI := [w 2 (.asg (.c U2 0)),w 3 (.asg (.c .bool false))]
def c85_r1 : List AI := [w 6 (.mv (.t 0)),w 7 (.bin .eql (.t 6) (.c .str [])),w 8 (.mv (.t 7)),
  ⟨some 9, .mv (.t 0), some (8, false)⟩,
  ⟨some 10, .lenS (.t 9), some (8, false)⟩,
  ⟨some 11, .bin .gtr (.t 10) (.c U2 6), some (8, false)⟩,
  w 12 (.pick (.t 8) (.c .bool true) (.t 11)),w 13 (.mv (.t 12)),
  ⟨some 14, .mv (.t 0), some (13, false)⟩,
  ⟨some 15, .call 94 [(.t 14)], some (13, false)⟩,
  ⟨some 16, .mv (.t 0), some (13, false)⟩,
  ⟨some 17, .lenS (.t 16), some (13, false)⟩,
  ⟨some 18, .bin .neq (.t 15) (.t 17), some (13, false)⟩,
  w 19 (.pick (.t 13) (.c .bool true) (.t 18)),w 20 (.mv (.t 19)),
  ⟨some 21, .mv (.t 0), some (20, false)⟩,
  ⟨some 22, .indexS (.t 21) (.c U2 0), some (20, false)⟩,
  ⟨some 23, .bin .eql (.t 22) (.c U1 48), some (20, false)⟩,
  ⟨some 24, .mv (.t 23), some (20, false)⟩,
  ⟨some 25, .mv (.t 0), some (24, true)⟩,
  ⟨some 26, .lenS (.t 25), some (24, true)⟩,
  ⟨some 27, .bin .gtr (.t 26) (.c U2 1), some (24, true)⟩,
  ⟨some 28, .pick (.t 24) (.t 27) (.c .bool false), some (20, false)⟩,
  w 29 (.pick (.t 20) (.c .bool true) (.t 28))]
def c85_r2 : List AI := [w 2 (.asg (.c U2 0)),w 3 (.asg (.c .bool false))]
def c85_r3 : List AI := [w 4 (.asg (.c U2 0))]
def c85_r4 : List AI := [w 5 (.asg (.c U2 0))]
def c85_r5 : List AI := [w 30 (.mv (.t 5)),w 31 (.mv (.t 0)),w 32 (.lenS (.t 31)),w 33 (.bin .lss (.t 30) (.t 32))]
def c85_r7 : List AI := [w 36 (.mv (.t 4)),w 37 (.bin .mul (.c U2 10) (.t 36)),w 38 (.mv (.t 0)),w 39 (.mv (.t 5)),w 40 (.indexS (.t 38) (.t 39)),w 41 (.bin .sub (.t 40) (.c U1 48)),w 42 (.convI .i64 (.t 41)),w 43 (.bin .add (.t 37) (.t 42)),w 4 (.asg (.t 43))]
def c85_r6 : List AI := [w 34 (.mv (.t 5)),w 35 (.bin .add (.t 34) (.c U2 1)),w 5 (.asg (.t 35))]
def c85_r8 : List AI := [w 44 (.mv (.t 4)),w 2 (.asg (.t 44)),w 3 (.asg (.c .bool true))]
def c85 : AC := (.seq (.reg [0] c85_r0) (.seq (.seq (.reg [0] c85_r1) (.cond (.t 29) (.seq (.reg [] c85_r2) .ret) .skip)) (.seq (.reg [0] c85_r3) (.seq (.seq (.reg [0, 4] c85_r4) (.block 0 (.loop [0, 4, 5] (.seq (.seq (.reg [0, 4, 5] c85_r5) (.cond (.t 33) .skip (.exit 0))) (.seq (.block 1 (.reg [0, 4, 5] c85_r7)) (.reg [0, 4, 5] c85_r6)))))) (.seq (.reg [4] c85_r8) .ret)))))
def d85 : FD := { nargs := 1, body := c85, res := [.t 2, .t 3] }
-- anceps/ancepsref05.digits
def c94_r0 : List AI := [w 2 (.asg (.c U2 0))]
def c94_r1 : List AI := [w 3 (.asg (.c U2 0))]
def c94_r2 : List AI := [w 4 (.mv (.t 3)),w 5 (.mv (.t 0)),w 6 (.lenS (.t 5)),w 7 (.bin .lss (.t 4) (.t 6)),w 8 (.mv (.t 7)),
  ⟨some 9, .mv (.t 0), some (8, true)⟩,
  ⟨some 10, .mv (.t 3), some (8, true)⟩,
  ⟨some 11, .indexS (.t 9) (.t 10), some (8, true)⟩,
  ⟨some 12, .call 77 [(.t 11)], some (8, true)⟩,
  w 13 (.pick (.t 8) (.t 12) (.c .bool false))]
def c94_r3 : List AI := [w 14 (.mv (.t 3)),w 15 (.bin .add (.t 14) (.c U2 1)),w 3 (.asg (.t 15))]
def c94_r4 : List AI := [w 16 (.mv (.t 3)),w 2 (.asg (.t 16))]
def c94 : AC := (.seq (.reg [0] c94_r0) (.seq (.reg [0] c94_r1) (.seq (.block 0 (.loop [0, 3] (.seq (.seq (.reg [0, 3] c94_r2) (.cond (.t 13) .skip (.exit 0))) (.block 1 (.reg [0, 3] c94_r3))))) (.seq (.reg [3] c94_r4) .ret))))
def d94 : FD := { nargs := 1, body := c94, res := [.t 2] }
-- anceps/ancepsref05.inQuotes
def c95_r0 : List AI := [w 2 (.alloc U19 .no),w 3 (.asg (.c U2 0)),w 4 (.asg (.c U2 0))]
def c95_r1 : List AI := [w 5 (.asg (.c U2 1))]
def c95_r2 : List AI := [w 6 (.mv (.t 5)),w 7 (.mv (.t 0)),w 8 (.lenS (.t 7)),w 9 (.bin .lss (.t 6) (.t 8)),w 10 (.mv (.t 9)),
  ⟨some 11, .mv (.t 0), some (10, true)⟩,
  ⟨some 12, .mv (.t 5), some (10, true)⟩,
  ⟨some 13, .indexS (.t 11) (.t 12), some (10, true)⟩,
  ⟨some 14, .call 102 [(.t 13)], some (10, true)⟩,
  w 15 (.pick (.t 10) (.t 14) (.c .bool false))]
def c95_r3 : List AI := [w 16 (.mv (.t 5)),w 17 (.bin .add (.t 16) (.c U2 1)),w 5 (.asg (.t 17))]
def c95_r4 : List AI := [w 18 (.mv (.t 5)),w 19 (.mv (.t 0)),w 20 (.lenS (.t 19)),w 21 (.bin .eql (.t 18) (.t 20)),w 22 (.mv (.t 21)),
  ⟨some 23, .mv (.t 0), some (22, false)⟩,
  ⟨some 24, .mv (.t 5), some (22, false)⟩,
  ⟨some 25, .indexS (.t 23) (.t 24), some (22, false)⟩,
  ⟨some 26, .bin .neq (.t 25) (.c U1 34), some (22, false)⟩,
  w 27 (.pick (.t 22) (.c .bool true) (.t 26))]
def c95_r5 : List AI := [w 28 (.build U19 []),
  ⟨none, .store U19 (.t 2) (.t 28), none⟩,
  w 3 (.asg (.c U2 0)),w 4 (.asg (.c U2 2))]
def c95_r6 : List AI := [w 29 (.mv (.t 5)),w 30 (.bin .sub (.t 29) (.c U2 1)),w 31 (.bin .gtr (.t 30) (.c U2 60))]
def c95_r7 : List AI := [w 32 (.build U19 []),
  ⟨none, .store U19 (.t 2) (.t 32), none⟩,
  w 3 (.asg (.c U2 0)),w 4 (.asg (.c U2 3))]
def c95_r8 : List AI := [w 33 (.mv (.t 0)),w 34 (.mv (.t 5)),w 35 (.sliceS (.t 33) (some (.c U2 1)) (some (.t 34))),w 36 (.build U19 [([.l], (.c U2 3)), ([.r, .l], (.t 35))]),w 37 (.mv (.t 5)),w 38 (.bin .add (.t 37) (.c U2 1)),
  ⟨none, .store U19 (.t 2) (.t 36), none⟩,
  w 3 (.asg (.t 38)),w 4 (.asg (.c U2 0))]
def c95 : AC := (.seq (.reg [0] c95_r0) (.seq (.reg [0, 2, 28, 32, 36] c95_r1) (.seq (.block 0 (.loop [0, 2, 5, 28, 32, 36] (.seq (.seq (.reg [0, 2, 5, 28, 32, 36] c95_r2) (.cond (.t 15) .skip (.exit 0))) (.block 1 (.reg [0, 2, 5, 28, 32, 36] c95_r3))))) (.seq (.seq (.reg [0, 2, 5, 28, 32, 36] c95_r4) (.cond (.t 27) (.seq (.reg [2, 28, 32, 36] c95_r5) .ret) .skip)) (.seq (.seq (.reg [0, 2, 5, 28, 32, 36] c95_r6) (.cond (.t 31) (.seq (.reg [2, 28, 32, 36] c95_r7) .ret) .skip)) (.seq (.reg [0, 2, 5, 28, 32, 36] c95_r8) .ret))))))
def d95 : FD := { nargs := 1, body := c95, res := [.cell 2 U19, .t 3, .t 4] }
-- anceps/ancepsref05.sign
def c96_r0 : List AI := [w 2 (.asg (.c .bool false))]
def c96_r1 : List AI := [w 3 (.asg (.c U2 0))]
def c96_r2 : List AI := [w 4 (.mv (.t 3)),w 5 (.bin .lss (.t 4) (.c U2 21))]
def c96_r4 : List AI := [w 8 (.mv (.t 3)),w 9 (.indexS (.c .str [123, 125, 40, 41, 91, 93, 47, 59, 58, 126, 64, 61, 94, 44, 46, 124, 43, 42, 60, 62, 45]) (.t 8)),w 10 (.mv (.t 0)),w 11 (.bin .eql (.t 9) (.t 10))]
def c96_r5 : List AI := [w 2 (.asg (.c .bool true))]
def c96_r3 : List AI := [w 6 (.mv (.t 3)),w 7 (.bin .add (.t 6) (.c U2 1)),w 3 (.asg (.t 7))]
def c96_r6 : List AI := [w 2 (.asg (.c .bool false))]
def c96 : AC := (.seq (.reg [0] c96_r0) (.seq (.seq (.reg [0] c96_r1) (.block 0 (.loop [0, 3] (.seq (.seq (.reg [0, 3] c96_r2) (.cond (.t 5) .skip (.exit 0))) (.seq (.block 1 (.seq (.reg [0, 3] c96_r4) (.cond (.t 11) (.seq (.reg [] c96_r5) .ret) .skip))) (.reg [0, 3] c96_r3)))))) (.seq (.reg [] c96_r6) .ret)))
def d96 : FD := { nargs := 1, body := c96, res := [.t 2] }
-- anceps/ancepsref05.quoted
def c102_r0 : List AI := [w 2 (.asg (.c .bool false))]
def c102_r1 : List AI := [w 3 (.mv (.t 0)),w 4 (.bin .geq (.t 3) (.c U1 32)),w 5 (.mv (.t 4)),
  ⟨some 6, .mv (.t 0), some (5, true)⟩,
  ⟨some 7, .bin .leq (.t 6) (.c U1 126), some (5, true)⟩,
  w 8 (.pick (.t 5) (.t 7) (.c .bool false)),w 9 (.mv (.t 8)),
  ⟨some 10, .mv (.t 0), some (9, true)⟩,
  ⟨some 11, .bin .neq (.t 10) (.c U1 34), some (9, true)⟩,
  w 12 (.pick (.t 9) (.t 11) (.c .bool false)),w 2 (.asg (.t 12))]
def c102 : AC := (.seq (.reg [0] c102_r0) (.seq (.reg [0] c102_r1) .ret))
def d102 : FD := { nargs := 1, body := c102, res := [.t 2] }
def table : Table := fun f => match f with
  | 3 => some d3
  | 8 => some d8
  | 9 => some d9
  | 10 => some d10
  | 11 => some d11
  | 12 => some d12
  | 13 => some d13
  | 14 => some d14
  | 15 => some d15
  | 16 => some d16
  | 29 => some d29
  | 31 => some d31
  | 32 => some d32
  | 33 => some d33
  | 34 => some d34
  | 35 => some d35
  | 36 => some d36
  | 37 => some d37
  | 38 => some d38
  | 39 => some d39
  | 40 => some d40
  | 41 => some d41
  | 42 => some d42
  | 43 => some d43
  | 44 => some d44
  | 45 => some d45
  | 48 => some d48
  | 50 => some d50
  | 51 => some d51
  | 52 => some d52
  | 53 => some d53
  | 54 => some d54
  | 55 => some d55
  | 56 => some d56
  | 57 => some d57
  | 58 => some d58
  | 59 => some d59
  | 60 => some d60
  | 61 => some d61
  | 62 => some d62
  | 63 => some d63
  | 64 => some d64
  | 65 => some d65
  | 66 => some d66
  | 67 => some d67
  | 68 => some d68
  | 69 => some d69
  | 70 => some d70
  | 71 => some d71
  | 72 => some d72
  | 73 => some d73
  | 74 => some d74
  | 75 => some d75
  | 76 => some d76
  | 77 => some d77
  | 78 => some d78
  | 79 => some d79
  | 80 => some d80
  | 81 => some d81
  | 82 => some d82
  | 83 => some d83
  | 84 => some d84
  | 85 => some d85
  | 86 => some d86
  | 87 => some d87
  | 88 => some d88
  | 89 => some d89
  | 90 => some d90
  | 91 => some d91
  | 92 => some d92
  | 93 => some d93
  | 94 => some d94
  | 95 => some d95
  | 96 => some d96
  | 97 => some d97
  | 98 => some d98
  | 99 => some d99
  | 100 => some d100
  | 101 => some d101
  | 102 => some d102
  | 103 => some d103
  | 104 => some d104
  | 108 => some d108
  | _ => none
end Go.Fw.L19
