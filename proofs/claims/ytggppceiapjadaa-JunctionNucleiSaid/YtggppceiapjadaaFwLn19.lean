import Derived.Test.YtggppceiapjadaaFwC
set_option linter.unusedVariables false
set_option linter.unusedSimpArgs false
namespace Go.Fw.L19
open Go Go.Fw
abbrev Tn190 : Ty := (.int .u8)
abbrev Tn191 : Ty := (.sl .str)
abbrev Dn190 : Type := (List Int)
abbrev Tn192 : Ty := (.int .i64)
abbrev Tn193 : Ty := (.int .i32)
abbrev Dn191 : Type := (List UInt8)
abbrev Dn192 : Type := (Dn190)
abbrev Tn194 : Ty := (.sl Tn190)
abbrev Tn195 : Ty := (.sl Tn192)
abbrev Tn196 : Ty := (.pair .str .unit)
abbrev Dn193 : Type := (Dn191 × Unit)
abbrev Tn197 : Ty := (.pair Tn191 .unit)
abbrev Tn198 : Ty := (.pair Tn193 .unit)
abbrev Tn199 : Ty := (.pair Tn192 .unit)
abbrev Dn194 : Type := ((Int × Unit) → Option Bool)
abbrev Dn195 : Type := (Int × Dn193)
abbrev Tn1910 : Ty := (.fn Tn198 .bool)
abbrev Dn196 : Type := (Int × Dn195)
abbrev Tn1911 : Ty := (.pair Tn192 Tn196)
abbrev Tn1912 : Ty := (.pair .str Tn199)
abbrev Dn197 : Type := (Dn196)
abbrev Tn1913 : Ty := (.pair Tn192 Tn197)
abbrev Dn198 : Type := (List Dn196)
abbrev Tn1914 : Ty := (.pair Tn192 Tn199)
abbrev Dn199 : Type := (Dn198)
abbrev Tn1915 : Ty := (.pair Tn192 Tn1911)
abbrev Tn1916 : Ty := (.pair Tn192 Tn1912)
abbrev Dn1910 : Type := ((Dn196 × Unit) → Option Bool)
abbrev Tn1917 : Ty := (.pair Tn192 Tn1913)
abbrev Tn1918 : Ty := (.sl Tn1915)
abbrev Tn1919 : Ty := (.sl Tn1917)
abbrev Tn1920 : Ty := (.pair Tn1915 .unit)
abbrev Tn1921 : Ty := (.pair Tn1919 .unit)
abbrev Tn1922 : Ty := (.fn Tn1920 .bool)
abbrev Tn1923 : Ty := (.pair .str Tn1921)
abbrev Dn1911 : Type := (Dn198 × Dn198 × Int)
abbrev Dn1912 : Type := (Dn198 × Dn198 × Dn198 × Int)
-- anceps/ancepsref11.Made
def c34_r0 : List AI := [{ dst := some 2, op := .alloc Tn1915 .no }]
def c34_0 : AC := .out [0, 2] (.reg [0] c34_r0)
def c34_r1 : List AI := [{ dst := some 4, op := .build Tn1915 [([.l], (.c Tn192 1)), ([.r, .l], (.c Tn192 3)), ([.r, .r, .l], (.c .str [97]))] },
  { dst := some 5, op := .build Tn1915 [([.l], (.c Tn192 1)), ([.r, .l], (.c Tn192 1)), ([.r, .r, .l], (.c .str [101]))] },
  { dst := some 6, op := .build Tn1915 [([.l], (.c Tn192 1)), ([.r, .l], (.c Tn192 2)), ([.r, .r, .l], (.c .str [111]))] },
  { dst := some 7, op := .build Tn1915 [([.l], (.c Tn192 1)), ([.r, .l], (.c Tn192 3)), ([.r, .r, .l], (.c .str [105]))] },
  { dst := some 8, op := .build Tn1915 [([.l], (.c Tn192 2)), ([.r, .l], (.c Tn192 2)), ([.r, .r, .l], (.c .str [97, 101]))] },
  { dst := some 9, op := .build Tn1915 [([.l], (.c Tn192 3)), ([.r, .r, .l], (.c .str [116]))] },
  { dst := some 10, op := .build Tn1915 [([.l], (.c Tn192 3)), ([.r, .r, .l], (.c .str [98]))] },
  { dst := some 11, op := .build Tn1915 [([.l], (.c Tn192 4)), ([.r, .r, .l], (.c .str [114]))] },
  { dst := some 12, op := .build Tn1915 [([.l], (.c Tn192 4)), ([.r, .r, .l], (.c .str [108]))] },
  { dst := some 13, op := .build Tn1915 [([.l], (.c Tn192 5)), ([.r, .r, .l], (.c .str [109]))] },
  { dst := some 14, op := .build Tn1915 [([.l], (.c Tn192 5)), ([.r, .r, .l], (.c .str [110]))] },
  { dst := some 15, op := .build Tn1915 [([.l], (.c Tn192 6)), ([.r, .r, .l], (.c .str [115]))] },
  { dst := some 16, op := .build Tn1915 [([.l], (.c Tn192 7)), ([.r, .r, .l], (.c .str [120]))] },
  { dst := some 17, op := .build Tn1915 [([.l], (.c Tn192 8)), ([.r, .r, .l], (.c .str [118]))] },
  { dst := some 18, op := .build Tn1915 [([.l], (.c Tn192 9)), ([.r, .r, .l], (.c .str [104]))] },
  { dst := some 19, op := .build Tn1915 [([.l], (.c Tn192 1)), ([.r, .l], (.c Tn192 3)), ([.r, .r, .l], (.c .str [117]))] },
  { dst := some 20, op := .buildSlice 55 Tn1915 [(.t 4), (.t 5), (.t 6), (.t 7), (.t 8), (.t 9), (.t 10), (.t 11), (.t 12), (.t 13), (.t 14), (.t 15), (.t 16), (.t 17), (.t 18), (.t 19)] },
  { dst := some 3, op := .asg (.t 20) }]
def c34_1 : AC := .out [0, 2, 3] (.reg [0, 2] c34_r1)
def c34_r2 : List AI := [{ dst := some 21, op := .mv (.t 3) },
  { dst := some 22, op := .mv (.t 0) },
  { dst := some 23, op := .convI .i64 (.t 22) },
  { dst := some 24, op := .mv (.t 3) },
  { dst := some 25, op := .lenL (.t 24) },
  { dst := some 26, op := .bin .rem (.t 23) (.t 25) },
  { dst := some 27, op := .indexAddr Tn1915 (.t 21) (.t 26) },
  { dst := some 28, op := .load Tn1915 (.t 27) },
  { dst := none, op := .store Tn1915 (.t 2) (.t 28) }]
def c34_2 : AC := .out [2] (.reg [0, 2, 3] c34_r2)
def c34_3 : AC := (.seq c34_0 (.seq c34_1 (.seq c34_2 .ret)))
def c34 : AC := c34_3
def d34 : FD := { nargs := 1, body := c34, res := [.cell 2 Tn1915] }
-- anceps/ancepsref11.All
def c10_r0 : List AI := [{ dst := some 2, op := .asg (.nil 55 Tn1915) }]
def c10_0 : AC := .out [0] (.reg [0] c10_r0)
def c10_r1 : List AI := [{ dst := some 3, op := .asg (.nil 55 Tn1915) }]
def c10_1 : AC := .out [0, 3] (.reg [0] c10_r1)
def c10_r2 : List AI := [{ dst := some 4, op := .asg (.c Tn192 0) }]
def c10_2 : AC := .out [0, 3, 4] (.reg [0, 3] c10_r2)
def c10_r3 : List AI := [{ dst := some 5, op := .mv (.t 4) },
  { dst := some 6, op := .mv (.t 0) },
  { dst := some 7, op := .lenL (.t 6) },
  { dst := some 8, op := .bin .lss (.t 5) (.t 7) }]
def c10_3 : AC := .out [0, 3, 4, 8] (.reg [0, 3, 4] c10_r3)
def c10_4 : AC := .out [0, 3, 4] (.cond (.t 8) .skip (.exit 0))
def c10_r5 : List AI := [{ dst := some 11, op := .mv (.t 3) },
  { dst := some 12, op := .mv (.t 0) },
  { dst := some 13, op := .mv (.t 4) },
  { dst := some 14, op := .indexAddr Tn190 (.t 12) (.t 13) },
  { dst := some 15, op := .load Tn190 (.t 14) },
  { dst := some 16, op := .call 34 [(.t 15)] },
  { dst := some 17, op := .buildSlice 55 Tn1915 [(.t 16)] },
  { dst := some 18, op := .append 55 Tn1915 4398046511104 (.t 11) (.t 17) },
  { dst := some 3, op := .asg (.t 18) }]
def c10_5 : AC := .out [0, 3, 4] (.reg [0, 3, 4] c10_r5)
def c10_6 : AC := .out [0, 3, 4] (.block 1 c10_5)
def c10_r4 : List AI := [{ dst := some 9, op := .mv (.t 4) },
  { dst := some 10, op := .bin .add (.t 9) (.c Tn192 1) },
  { dst := some 4, op := .asg (.t 10) }]
def c10_7 : AC := .out [0, 3, 4] (.reg [0, 3, 4] c10_r4)
def c10_8 : AC := (.seq (.seq c10_3 c10_4) (.seq c10_6 c10_7))
def c10_9 : AC := .out [3] (.loop [0, 3, 4] c10_8)
def c10_10 : AC := .out [3] (.block 0 c10_9)
def c10_r6 : List AI := [{ dst := some 19, op := .mv (.t 3) },
  { dst := some 2, op := .asg (.t 19) }]
def c10_11 : AC := .out [2, 3] (.reg [3] c10_r6)
def c10_12 : AC := (.seq c10_0 (.seq c10_1 (.seq (.seq c10_2 c10_10) (.seq c10_11 .ret))))
def c10 : AC := c10_12
def d10 : FD := { nargs := 1, body := c10, res := [.t 2] }
-- anceps/sound.quantity
def c90_r0 : List AI := [{ dst := some 1, op := .box Tn1915 (.t 0) },
  { dst := some 2, op := .asg (.c .bool false) }]
def c90_0 : AC := .out [1] (.reg [0] c90_r0)
def c90_r1 : List AI := [{ dst := some 3, op := .fieldAddr Tn1915 [.l] (.t 1) },
  { dst := some 4, op := .load Tn192 (.t 3) }]
def c90_1 : AC := .out [1, 4] (.reg [1] c90_r1)
def c90_r2 : List AI := [{ dst := some 6, op := .bin .eql (.t 4) (.c Tn192 1) },
  { dst := some 5, op := .asg (.t 6) }]
def c90_2 : AC := .out [1, 4, 5] (.reg [1, 4] c90_r2)
def c90_r3 : List AI := [{ dst := some 7, op := .fieldAddr Tn1915 [.r, .l] (.t 1) },
  { dst := some 8, op := .load Tn192 (.t 7) },
  { dst := some 9, op := .bin .geq (.t 8) (.c Tn192 1) },
  { dst := some 10, op := .mv (.t 9) },
  { dst := some 11, op := .fieldAddr Tn1915 [.r, .l] (.t 1), guard := some (10, true) },
  { dst := some 12, op := .load Tn192 (.t 11), guard := some (10, true) },
  { dst := some 13, op := .bin .leq (.t 12) (.c Tn192 3), guard := some (10, true) },
  { dst := some 14, op := .pick (.t 10) (.t 13) (.c .bool false) },
  { dst := some 2, op := .asg (.t 14) }]
def c90_3 : AC := .out [2] (.reg [1] c90_r3)
def c90_r4 : List AI := [{ dst := some 16, op := .bin .eql (.t 4) (.c Tn192 2) },
  { dst := some 15, op := .asg (.t 16) }]
def c90_4 : AC := .out [1, 15] (.reg [1, 4] c90_r4)
def c90_r5 : List AI := [{ dst := some 17, op := .fieldAddr Tn1915 [.r, .l] (.t 1) },
  { dst := some 18, op := .load Tn192 (.t 17) },
  { dst := some 19, op := .bin .eql (.t 18) (.c Tn192 2) },
  { dst := some 2, op := .asg (.t 19) }]
def c90_5 : AC := .out [2] (.reg [1] c90_r5)
def c90_6 : AC := .out [1, 2] (.cond (.t 15) (.seq c90_5 .ret) .skip)
def c90_7 : AC := .out [1, 2] (.cond (.t 5) (.seq c90_3 .ret) (.seq c90_4 c90_6))
def c90_8 : AC := .out [1, 2] (.block 0 (.seq c90_2 c90_7))
def c90_r6 : List AI := [{ dst := some 20, op := .fieldAddr Tn1915 [.r, .l] (.t 1) },
  { dst := some 21, op := .load Tn192 (.t 20) },
  { dst := some 22, op := .bin .eql (.t 21) (.c Tn192 0) },
  { dst := some 2, op := .asg (.t 22) }]
def c90_9 : AC := .out [2] (.reg [1] c90_r6)
def c90_10 : AC := (.seq c90_0 (.seq (.seq c90_1 c90_8) (.seq c90_9 .ret)))
def c90 : AC := c90_10
def d90 : FD := { nargs := 1, body := c90, res := [.t 2] }
-- anceps/sound.written
def c93_r0 : List AI := [{ dst := some 2, op := .asg (.c .bool false) }]
def c93_0 : AC := .out [0] (.reg [0] c93_r0)
def c93_r1 : List AI := [{ dst := some 3, op := .mv (.t 0) },
  { dst := some 4, op := .bin .geq (.t 3) (.c Tn193 97) },
  { dst := some 5, op := .mv (.t 4) },
  { dst := some 6, op := .mv (.t 0), guard := some (5, true) },
  { dst := some 7, op := .bin .leq (.t 6) (.c Tn193 122), guard := some (5, true) },
  { dst := some 8, op := .pick (.t 5) (.t 7) (.c .bool false) },
  { dst := some 9, op := .mv (.t 8) },
  { dst := some 10, op := .mv (.t 0), guard := some (9, false) },
  { dst := some 11, op := .bin .geq (.t 10) (.c Tn193 48), guard := some (9, false) },
  { dst := some 12, op := .mv (.t 11), guard := some (9, false) },
  { dst := some 13, op := .mv (.t 0), guard := some (12, true) },
  { dst := some 14, op := .bin .leq (.t 13) (.c Tn193 57), guard := some (12, true) },
  { dst := some 15, op := .pick (.t 12) (.t 14) (.c .bool false), guard := some (9, false) },
  { dst := some 16, op := .pick (.t 9) (.c .bool true) (.t 15) },
  { dst := some 17, op := .mv (.t 16) },
  { dst := some 18, op := .mv (.t 0), guard := some (17, false) },
  { dst := some 19, op := .bin .eql (.t 18) (.c Tn193 95), guard := some (17, false) },
  { dst := some 20, op := .pick (.t 17) (.c .bool true) (.t 19) },
  { dst := some 21, op := .mv (.t 20) },
  { dst := some 22, op := .mv (.t 0), guard := some (21, false) },
  { dst := some 23, op := .bin .eql (.t 22) (.c Tn193 94), guard := some (21, false) },
  { dst := some 24, op := .pick (.t 21) (.c .bool true) (.t 23) },
  { dst := some 25, op := .mv (.t 24) },
  { dst := some 26, op := .mv (.t 0), guard := some (25, false) },
  { dst := some 27, op := .bin .eql (.t 26) (.c Tn193 39), guard := some (25, false) },
  { dst := some 28, op := .pick (.t 25) (.c .bool true) (.t 27) },
  { dst := some 2, op := .asg (.t 28) }]
def c93_1 : AC := .out [2] (.reg [0] c93_r1)
def c93_2 : AC := (.seq c93_0 (.seq c93_1 .ret))
def c93 : AC := c93_2
def d93 : FD := { nargs := 1, body := c93, res := [.t 2] }
-- anceps/sound.Valid$1
def c92_r0 : List AI := [{ dst := some 2, op := .asg (.c .bool false) }]
def c92_0 : AC := .out [0] (.reg [0] c92_r0)
def c92_r1 : List AI := [{ dst := some 3, op := .mv (.t 0) },
  { dst := some 4, op := .call 93 [(.t 3)] },
  { dst := some 5, op := .un .not (.t 4) },
  { dst := some 2, op := .asg (.t 5) }]
def c92_1 : AC := .out [2] (.reg [0] c92_r1)
def c92_2 : AC := (.seq c92_0 (.seq c92_1 .ret))
def c92 : AC := c92_2
def d92 : FD := { nargs := 1, body := c92, res := [.t 2] }
-- strings.indexFunc
def c108_r0 : List AI := [{ dst := some 6, op := .asg (.c Tn192 0) }]
def c108_0 : AC := .out [0, 1, 2] (.reg [0, 1, 2] c108_r0)
def c108_r1 : List AI := [{ dst := some 9, op := .mv (.t 0) },
  { dst := some 10, op := .rng (.t 9) }]
def c108_1 : AC := .out [1, 2, 10] (.reg [0, 1, 2] c108_r1)
def c108_r2 : List AI := [{ dst := some 11, op := .nxt 10 },
  { dst := some 12, op := .extract 11 0 }]
def c108_2 : AC := .out [1, 2, 10, 11, 12] (.reg [1, 2, 10] c108_r2)
def c108_3 : AC := .out [1, 2, 10, 11] (.cond (.t 12) .skip (.exit 0))
def c108_r3 : List AI := [{ dst := some 13, op := .extract 11 1 },
  { dst := some 14, op := .extract 11 2 },
  { dst := some 7, op := .asg (.t 13) },
  { dst := some 8, op := .asg (.t 14) }]
def c108_4 : AC := .out [1, 2, 7, 8, 10] (.reg [1, 2, 10, 11] c108_r3)
def c108_r4 : List AI := [{ dst := some 15, op := .mv (.t 1) },
  { dst := some 16, op := .mv (.t 8) },
  { dst := some 17, op := .callv (.t 15) [(.t 16)] },
  { dst := some 18, op := .mv (.t 2) },
  { dst := some 19, op := .eqT false .bool (.t 17) (.t 18) }]
def c108_5 : AC := .out [1, 2, 7, 10, 19] (.reg [1, 2, 7, 8, 10] c108_r4)
def c108_r5 : List AI := [{ dst := some 20, op := .mv (.t 7) },
  { dst := some 6, op := .asg (.t 20) }]
def c108_6 : AC := .out [6] (.reg [7] c108_r5)
def c108_7 : AC := .out [1, 2, 6, 10] (.cond (.t 19) (.seq c108_6 .ret) .skip)
def c108_8 : AC := .out [1, 2, 6, 10] (.block 1 (.seq c108_4 (.seq c108_5 c108_7)))
def c108_9 : AC := (.seq c108_2 (.seq c108_3 c108_8))
def c108_10 : AC := .out [6] (.loop [1, 2, 10] c108_9)
def c108_11 : AC := .out [6] (.block 0 c108_10)
def c108_r6 : List AI := [{ dst := some 6, op := .asg (.c Tn192 (-1)) }]
def c108_12 : AC := .out [6] (.reg [] c108_r6)
def c108_13 : AC := (.seq c108_0 (.seq (.seq c108_1 c108_11) (.seq c108_12 .ret)))
def c108 : AC := c108_13
def d108 : FD := { nargs := 3, body := c108, res := [.t 6] }
-- strings.IndexFunc
def c101_r0 : List AI := [{ dst := some 4, op := .asg (.c Tn192 0) }]
def c101_0 : AC := .out [0, 1] (.reg [0, 1] c101_r0)
def c101_r1 : List AI := [{ dst := some 5, op := .mv (.t 0) },
  { dst := some 6, op := .mv (.t 1) },
  { dst := some 7, op := .call 108 [(.t 5), (.t 6), (.c .bool true)] },
  { dst := some 4, op := .asg (.t 7) }]
def c101_1 : AC := .out [4] (.reg [0, 1] c101_r1)
def c101_2 : AC := (.seq c101_0 (.seq c101_1 .ret))
def c101 : AC := c101_2
def d101 : FD := { nargs := 2, body := c101, res := [.t 4] }
-- strings.ContainsFunc
def c91_r0 : List AI := [{ dst := some 4, op := .asg (.c .bool false) }]
def c91_0 : AC := .out [0, 1] (.reg [0, 1] c91_r0)
def c91_r1 : List AI := [{ dst := some 5, op := .mv (.t 0) },
  { dst := some 6, op := .mv (.t 1) },
  { dst := some 7, op := .call 101 [(.t 5), (.t 6)] },
  { dst := some 8, op := .bin .geq (.t 7) (.c Tn192 0) },
  { dst := some 4, op := .asg (.t 8) }]
def c91_1 : AC := .out [4] (.reg [0, 1] c91_r1)
def c91_2 : AC := (.seq c91_0 (.seq c91_1 .ret))
def c91 : AC := c91_2
def d91 : FD := { nargs := 2, body := c91, res := [.t 4] }
-- anceps/sound.Valid
def c75_r0 : List AI := [{ dst := some 1, op := .box Tn1915 (.t 0) },
  { dst := some 2, op := .asg (.c Tn192 0) }]
def c75_0 : AC := .out [1] (.reg [0] c75_r0)
def c75_r1 : List AI := [{ dst := some 4, op := .fieldAddr Tn1915 [.l] (.t 1) },
  { dst := some 5, op := .load Tn192 (.t 4) },
  { dst := some 6, op := .bin .lss (.t 5) (.c Tn192 1) },
  { dst := some 7, op := .mv (.t 6) },
  { dst := some 8, op := .fieldAddr Tn1915 [.l] (.t 1), guard := some (7, false) },
  { dst := some 9, op := .load Tn192 (.t 8), guard := some (7, false) },
  { dst := some 10, op := .bin .gtr (.t 9) (.c Tn192 9), guard := some (7, false) },
  { dst := some 11, op := .pick (.t 7) (.c .bool true) (.t 10) },
  { dst := some 3, op := .asg (.t 11) }]
def c75_1 : AC := .out [1, 3] (.reg [1] c75_r1)
def c75_r2 : List AI := [{ dst := some 2, op := .asg (.c Tn192 1) }]
def c75_2 : AC := .out [2] (.reg [] c75_r2)
def c75_r3 : List AI := [{ dst := some 13, op := .load Tn1915 (.t 1) },
  { dst := some 14, op := .call 90 [(.t 13)] },
  { dst := some 15, op := .un .not (.t 14) },
  { dst := some 12, op := .asg (.t 15) }]
def c75_3 : AC := .out [1, 12] (.reg [1] c75_r3)
def c75_r4 : List AI := [{ dst := some 2, op := .asg (.c Tn192 6) }]
def c75_4 : AC := .out [2] (.reg [] c75_r4)
def c75_r5 : List AI := [{ dst := some 17, op := .fieldAddr Tn1915 [.r, .r, .l] (.t 1) },
  { dst := some 18, op := .load .str (.t 17) },
  { dst := some 19, op := .bin .eql (.t 18) (.c .str []) },
  { dst := some 16, op := .asg (.t 19) }]
def c75_5 : AC := .out [1, 16] (.reg [1] c75_r5)
def c75_r6 : List AI := [{ dst := some 2, op := .asg (.c Tn192 7) }]
def c75_6 : AC := .out [2] (.reg [] c75_r6)
def c75_r7 : List AI := [{ dst := some 21, op := .fieldAddr Tn1915 [.r, .r, .l] (.t 1) },
  { dst := some 22, op := .load .str (.t 21) },
  { dst := some 23, op := .lenS (.t 22) },
  { dst := some 24, op := .bin .gtr (.t 23) (.c Tn192 8) },
  { dst := some 20, op := .asg (.t 24) }]
def c75_7 : AC := .out [1, 20] (.reg [1] c75_r7)
def c75_r8 : List AI := [{ dst := some 2, op := .asg (.c Tn192 3) }]
def c75_8 : AC := .out [2] (.reg [] c75_r8)
def c75_r9 : List AI := [{ dst := some 26, op := .fieldAddr Tn1915 [.r, .r, .l] (.t 1) },
  { dst := some 27, op := .load .str (.t 26) },
  { dst := some 28, op := .call 91 [(.t 27), (.fn 92 Tn198 .bool)] },
  { dst := some 25, op := .asg (.t 28) }]
def c75_9 : AC := .out [25] (.reg [1] c75_r9)
def c75_r10 : List AI := [{ dst := some 2, op := .asg (.c Tn192 2) }]
def c75_10 : AC := .out [2] (.reg [] c75_r10)
def c75_11 : AC := .out [2] (.cond (.t 25) (.seq c75_10 .ret) .skip)
def c75_12 : AC := .out [2] (.cond (.t 20) (.seq c75_8 .ret) (.seq c75_9 c75_11))
def c75_13 : AC := .out [2] (.cond (.t 16) (.seq c75_6 .ret) (.seq c75_7 c75_12))
def c75_14 : AC := .out [2] (.cond (.t 12) (.seq c75_4 .ret) (.seq c75_5 c75_13))
def c75_15 : AC := .out [2] (.cond (.t 3) (.seq c75_2 .ret) (.seq c75_3 c75_14))
def c75_16 : AC := .out [2] (.block 0 (.seq c75_1 c75_15))
def c75_r11 : List AI := [{ dst := some 2, op := .asg (.c Tn192 0) }]
def c75_17 : AC := .out [2] (.reg [] c75_r11)
def c75_18 : AC := (.seq c75_0 (.seq c75_16 (.seq c75_17 .ret)))
def c75 : AC := c75_18
def d75 : FD := { nargs := 1, body := c75, res := [.t 2] }
-- anceps/junction.valid
def c55_r0 : List AI := [{ dst := some 2, op := .asg (.c Tn192 0) }]
def c55_0 : AC := .out [0] (.reg [0] c55_r0)
def c55_r1 : List AI := [{ dst := some 6, op := .mv (.t 0) },
  { dst := some 7, op := .lenL (.t 6) },
  { dst := some 8, op := .bin .gtr (.t 7) (.c Tn192 200) }]
def c55_1 : AC := .out [0, 8] (.reg [0] c55_r1)
def c55_r2 : List AI := [{ dst := some 2, op := .asg (.c Tn192 3) }]
def c55_2 : AC := .out [2] (.reg [] c55_r2)
def c55_3 : AC := .out [0, 2] (.cond (.t 8) (.seq c55_2 .ret) .skip)
def c55_r3 : List AI := [{ dst := some 9, op := .mv (.t 0) },
  { dst := some 10, op := .lenL (.t 9) },
  { dst := some 11, op := .mv (.c Tn192 0) }]
def c55_4 : AC := .out [9, 10, 11] (.reg [0] c55_r3)
def c55_r4 : List AI := [{ dst := some 12, op := .bin .lss (.t 11) (.t 10) }]
def c55_5 : AC := .out [9, 10, 11, 12] (.reg [9, 10, 11] c55_r4)
def c55_6 : AC := .out [9, 10, 11] (.cond (.t 12) .skip (.exit 0))
def c55_r5 : List AI := [{ dst := some 13, op := .indexAddr Tn1915 (.t 9) (.t 11) },
  { dst := some 14, op := .load Tn1915 (.t 13) },
  { dst := some 4, op := .alloc Tn1915 .no },
  { dst := none, op := .store Tn1915 (.t 4) (.t 14) }]
def c55_7 : AC := .out [4, 9, 10, 11] (.reg [9, 10, 11] c55_r5)
def c55_r6 : List AI := [{ dst := some 15, op := .load Tn1915 (.t 4) },
  { dst := some 16, op := .call 75 [(.t 15)] },
  { dst := some 5, op := .asg (.t 16) }]
def c55_8 : AC := .out [5, 9, 10, 11] (.reg [4, 9, 10, 11] c55_r6)
def c55_r7 : List AI := [{ dst := some 17, op := .mv (.t 5) },
  { dst := some 18, op := .bin .neq (.t 17) (.c Tn192 0) }]
def c55_9 : AC := .out [5, 9, 10, 11, 18] (.reg [5, 9, 10, 11] c55_r7)
def c55_r8 : List AI := [{ dst := some 19, op := .mv (.t 5) },
  { dst := some 2, op := .asg (.t 19) }]
def c55_10 : AC := .out [2] (.reg [5] c55_r8)
def c55_11 : AC := .out [2, 9, 10, 11] (.cond (.t 18) (.seq c55_10 .ret) .skip)
def c55_12 : AC := .out [2, 9, 10, 11] (.block 1 (.seq c55_7 (.seq c55_8 (.seq c55_9 c55_11))))
def c55_r9 : List AI := [{ dst := some 20, op := .bin .add (.t 11) (.c Tn192 1) },
  { dst := some 11, op := .mv (.t 20) }]
def c55_13 : AC := .out [9, 10, 11] (.reg [9, 10, 11] c55_r9)
def c55_14 : AC := (.seq c55_5 (.seq c55_6 (.seq c55_12 c55_13)))
def c55_15 : AC := .out [2] (.loop [9, 10, 11] c55_14)
def c55_16 : AC := .out [2] (.block 0 c55_15)
def c55_r10 : List AI := [{ dst := some 2, op := .asg (.c Tn192 0) }]
def c55_17 : AC := .out [2] (.reg [] c55_r10)
def c55_18 : AC := (.seq c55_0 (.seq (.seq c55_1 c55_3) (.seq (.seq c55_4 c55_16) (.seq c55_17 .ret))))
def c55 : AC := c55_18
def d55 : FD := { nargs := 1, body := c55, res := [.t 2] }
-- anceps/junction.both
def c36_r0 : List AI := [{ dst := some 4, op := .asg (.c Tn192 0) }]
def c36_0 : AC := .out [0, 1] (.reg [0, 1] c36_r0)
def c36_r1 : List AI := [{ dst := some 6, op := .mv (.t 0) },
  { dst := some 7, op := .call 55 [(.t 6)] },
  { dst := some 5, op := .asg (.t 7) }]
def c36_1 : AC := .out [1, 5] (.reg [0, 1] c36_r1)
def c36_r2 : List AI := [{ dst := some 8, op := .mv (.t 5) },
  { dst := some 9, op := .bin .neq (.t 8) (.c Tn192 0) }]
def c36_2 : AC := .out [1, 5, 9] (.reg [1, 5] c36_r2)
def c36_r3 : List AI := [{ dst := some 10, op := .mv (.t 5) },
  { dst := some 4, op := .asg (.t 10) }]
def c36_3 : AC := .out [4] (.reg [5] c36_r3)
def c36_4 : AC := .out [1, 4] (.cond (.t 9) (.seq c36_3 .ret) .skip)
def c36_r4 : List AI := [{ dst := some 11, op := .mv (.t 1) },
  { dst := some 12, op := .call 55 [(.t 11)] },
  { dst := some 4, op := .asg (.t 12) }]
def c36_5 : AC := .out [4] (.reg [1] c36_r4)
def c36_6 : AC := (.seq c36_0 (.seq (.seq c36_1 (.seq c36_2 c36_4)) (.seq c36_5 .ret)))
def c36 : AC := c36_6
def d36 : FD := { nargs := 2, body := c36, res := [.t 4] }
-- anceps/sound.Nucleus
def c43_r0 : List AI := [{ dst := some 1, op := .box Tn1915 (.t 0) },
  { dst := some 2, op := .asg (.c .bool false) }]
def c43_0 : AC := .out [1] (.reg [0] c43_r0)
def c43_r1 : List AI := [{ dst := some 3, op := .fieldAddr Tn1915 [.l] (.t 1) },
  { dst := some 4, op := .load Tn192 (.t 3) },
  { dst := some 5, op := .bin .eql (.t 4) (.c Tn192 1) },
  { dst := some 6, op := .mv (.t 5) },
  { dst := some 7, op := .fieldAddr Tn1915 [.l] (.t 1), guard := some (6, false) },
  { dst := some 8, op := .load Tn192 (.t 7), guard := some (6, false) },
  { dst := some 9, op := .bin .eql (.t 8) (.c Tn192 2), guard := some (6, false) },
  { dst := some 10, op := .pick (.t 6) (.c .bool true) (.t 9) },
  { dst := some 2, op := .asg (.t 10) }]
def c43_1 : AC := .out [2] (.reg [1] c43_r1)
def c43_2 : AC := (.seq c43_0 (.seq c43_1 .ret))
def c43 : AC := c43_2
def d43 : FD := { nargs := 1, body := c43, res := [.t 2] }
-- anceps/junction.Ends
def c14_r0 : List AI := [{ dst := some 2, op := .asg (.c Tn192 0) }]
def c14_0 : AC := .out [0] (.reg [0] c14_r0)
def c14_r1 : List AI := [{ dst := some 4, op := .mv (.t 0) },
  { dst := some 5, op := .lenL (.t 4) },
  { dst := some 3, op := .asg (.t 5) }]
def c14_1 : AC := .out [0, 3] (.reg [0] c14_r1)
def c14_r2 : List AI := [{ dst := some 7, op := .mv (.t 3) },
  { dst := some 8, op := .bin .gtr (.t 7) (.c Tn192 0) },
  { dst := some 9, op := .mv (.t 8) },
  { dst := some 10, op := .mv (.t 0), guard := some (9, true) },
  { dst := some 11, op := .mv (.t 3), guard := some (9, true) },
  { dst := some 12, op := .bin .sub (.t 11) (.c Tn192 1), guard := some (9, true) },
  { dst := some 13, op := .indexAddr Tn1915 (.t 10) (.t 12), guard := some (9, true) },
  { dst := some 14, op := .load Tn1915 (.t 13), guard := some (9, true) },
  { dst := some 15, op := .call 43 [(.t 14)], guard := some (9, true) },
  { dst := some 16, op := .pick (.t 9) (.t 15) (.c .bool false) },
  { dst := some 6, op := .asg (.t 16) }]
def c14_2 : AC := .out [0, 3, 6] (.reg [0, 3] c14_r2)
def c14_r3 : List AI := [{ dst := some 2, op := .asg (.c Tn192 1) }]
def c14_3 : AC := .out [2] (.reg [] c14_r3)
def c14_r4 : List AI := [{ dst := some 18, op := .mv (.t 3) },
  { dst := some 19, op := .bin .gtr (.t 18) (.c Tn192 1) },
  { dst := some 20, op := .mv (.t 19) },
  { dst := some 21, op := .mv (.t 0), guard := some (20, true) },
  { dst := some 22, op := .mv (.t 3), guard := some (20, true) },
  { dst := some 23, op := .bin .sub (.t 22) (.c Tn192 2), guard := some (20, true) },
  { dst := some 24, op := .indexAddr Tn1915 (.t 21) (.t 23), guard := some (20, true) },
  { dst := some 25, op := .load Tn1915 (.t 24), guard := some (20, true) },
  { dst := some 26, op := .call 43 [(.t 25)], guard := some (20, true) },
  { dst := some 27, op := .pick (.t 20) (.t 26) (.c .bool false) },
  { dst := some 28, op := .mv (.t 27) },
  { dst := some 29, op := .mv (.t 0), guard := some (28, true) },
  { dst := some 30, op := .mv (.t 3), guard := some (28, true) },
  { dst := some 31, op := .bin .sub (.t 30) (.c Tn192 1), guard := some (28, true) },
  { dst := some 32, op := .indexAddr Tn1915 (.t 29) (.t 31), guard := some (28, true) },
  { dst := some 33, op := .fieldAddr Tn1915 [.l] (.t 32), guard := some (28, true) },
  { dst := some 34, op := .load Tn192 (.t 33), guard := some (28, true) },
  { dst := some 35, op := .bin .eql (.t 34) (.c Tn192 5), guard := some (28, true) },
  { dst := some 36, op := .pick (.t 28) (.t 35) (.c .bool false) },
  { dst := some 37, op := .mv (.t 36) },
  { dst := some 38, op := .mv (.t 0), guard := some (37, true) },
  { dst := some 39, op := .mv (.t 3), guard := some (37, true) },
  { dst := some 40, op := .bin .sub (.t 39) (.c Tn192 1), guard := some (37, true) },
  { dst := some 41, op := .indexAddr Tn1915 (.t 38) (.t 40), guard := some (37, true) },
  { dst := some 42, op := .fieldAddr Tn1915 [.r, .r, .l] (.t 41), guard := some (37, true) },
  { dst := some 43, op := .load .str (.t 42), guard := some (37, true) },
  { dst := some 44, op := .bin .eql (.t 43) (.c .str [109]), guard := some (37, true) },
  { dst := some 45, op := .pick (.t 37) (.t 44) (.c .bool false) },
  { dst := some 17, op := .asg (.t 45) }]
def c14_4 : AC := .out [17] (.reg [0, 3] c14_r4)
def c14_r5 : List AI := [{ dst := some 2, op := .asg (.c Tn192 2) }]
def c14_5 : AC := .out [2] (.reg [] c14_r5)
def c14_6 : AC := .out [2] (.cond (.t 17) (.seq c14_5 .ret) .skip)
def c14_7 : AC := .out [2] (.cond (.t 6) (.seq c14_3 .ret) (.seq c14_4 c14_6))
def c14_8 : AC := .out [2] (.block 0 (.seq c14_2 c14_7))
def c14_r6 : List AI := [{ dst := some 2, op := .asg (.c Tn192 0) }]
def c14_9 : AC := .out [2] (.reg [] c14_r6)
def c14_10 : AC := (.seq c14_0 (.seq c14_1 (.seq c14_8 (.seq c14_9 .ret))))
def c14 : AC := c14_10
def d14 : FD := { nargs := 1, body := c14, res := [.t 2] }
-- anceps/junction.first$1
def c62_r0 : List AI := [{ dst := some 1, op := .box Tn1915 (.t 0) },
  { dst := some 2, op := .asg (.c .bool false) }]
def c62_0 : AC := .out [1] (.reg [0] c62_r0)
def c62_r1 : List AI := [{ dst := some 3, op := .fieldAddr Tn1915 [.l] (.t 1) },
  { dst := some 4, op := .load Tn192 (.t 3) },
  { dst := some 5, op := .bin .neq (.t 4) (.c Tn192 9) },
  { dst := some 2, op := .asg (.t 5) }]
def c62_1 : AC := .out [2] (.reg [1] c62_r1)
def c62_2 : AC := (.seq c62_0 (.seq c62_1 .ret))
def c62 : AC := c62_2
def d62 : FD := { nargs := 1, body := c62, res := [.t 2] }
-- slices.IndexFunc[[]anceps/api.Sound,anceps/api.Sound]
def c61_r0 : List AI := [{ dst := some 4, op := .asg (.c Tn192 0) }]
def c61_0 : AC := .out [0, 1] (.reg [0, 1] c61_r0)
def c61_r1 : List AI := [{ dst := some 6, op := .mv (.t 0) },
  { dst := some 7, op := .lenL (.t 6) },
  { dst := some 8, op := .mv (.c Tn192 0) }]
def c61_1 : AC := .out [0, 1, 7, 8] (.reg [0, 1] c61_r1)
def c61_r2 : List AI := [{ dst := some 9, op := .bin .lss (.t 8) (.t 7) }]
def c61_2 : AC := .out [0, 1, 7, 8, 9] (.reg [0, 1, 7, 8] c61_r2)
def c61_3 : AC := .out [0, 1, 7, 8] (.cond (.t 9) .skip (.exit 0))
def c61_r3 : List AI := [{ dst := some 10, op := .mv (.t 8) },
  { dst := some 5, op := .asg (.t 10) }]
def c61_4 : AC := .out [0, 1, 5, 7, 8] (.reg [0, 1, 7, 8] c61_r3)
def c61_r4 : List AI := [{ dst := some 11, op := .mv (.t 1) },
  { dst := some 12, op := .mv (.t 0) },
  { dst := some 13, op := .mv (.t 5) },
  { dst := some 14, op := .indexAddr Tn1915 (.t 12) (.t 13) },
  { dst := some 15, op := .load Tn1915 (.t 14) },
  { dst := some 16, op := .callv (.t 11) [(.t 15)] }]
def c61_5 : AC := .out [0, 1, 5, 7, 8, 16] (.reg [0, 1, 5, 7, 8] c61_r4)
def c61_r5 : List AI := [{ dst := some 17, op := .mv (.t 5) },
  { dst := some 4, op := .asg (.t 17) }]
def c61_6 : AC := .out [4] (.reg [5] c61_r5)
def c61_7 : AC := .out [0, 1, 4, 7, 8] (.cond (.t 16) (.seq c61_6 .ret) .skip)
def c61_8 : AC := .out [0, 1, 4, 7, 8] (.block 1 (.seq c61_4 (.seq c61_5 c61_7)))
def c61_r6 : List AI := [{ dst := some 18, op := .bin .add (.t 8) (.c Tn192 1) },
  { dst := some 8, op := .mv (.t 18) }]
def c61_9 : AC := .out [0, 1, 7, 8] (.reg [0, 1, 7, 8] c61_r6)
def c61_10 : AC := (.seq c61_2 (.seq c61_3 (.seq c61_8 c61_9)))
def c61_11 : AC := .out [4] (.loop [0, 1, 7, 8] c61_10)
def c61_12 : AC := .out [4] (.block 0 c61_11)
def c61_r7 : List AI := [{ dst := some 4, op := .asg (.c Tn192 (-1)) }]
def c61_13 : AC := .out [4] (.reg [] c61_r7)
def c61_14 : AC := (.seq c61_0 (.seq (.seq c61_1 c61_12) (.seq c61_13 .ret)))
def c61 : AC := c61_14
def d61 : FD := { nargs := 2, body := c61, res := [.t 4] }
-- anceps/junction.first
def c42_r0 : List AI := [{ dst := some 2, op := .asg (.c Tn192 0) }]
def c42_0 : AC := .out [0] (.reg [0] c42_r0)
def c42_r1 : List AI := [{ dst := some 4, op := .mv (.t 0) },
  { dst := some 5, op := .call 61 [(.t 4), (.fn 62 Tn1920 .bool)] },
  { dst := some 3, op := .asg (.t 5) }]
def c42_1 : AC := .out [0, 3] (.reg [0] c42_r1)
def c42_r2 : List AI := [{ dst := some 6, op := .mv (.t 3) },
  { dst := some 7, op := .bin .lss (.t 6) (.c Tn192 0) }]
def c42_2 : AC := .out [0, 3, 7] (.reg [0, 3] c42_r2)
def c42_r3 : List AI := [{ dst := some 8, op := .mv (.t 0) },
  { dst := some 9, op := .lenL (.t 8) },
  { dst := some 2, op := .asg (.t 9) }]
def c42_3 : AC := .out [2] (.reg [0] c42_r3)
def c42_4 : AC := .out [2, 3] (.cond (.t 7) (.seq c42_3 .ret) .skip)
def c42_r4 : List AI := [{ dst := some 10, op := .mv (.t 3) },
  { dst := some 2, op := .asg (.t 10) }]
def c42_5 : AC := .out [2] (.reg [3] c42_r4)
def c42_6 : AC := (.seq c42_0 (.seq c42_1 (.seq (.seq c42_2 c42_4) (.seq c42_5 .ret))))
def c42 : AC := c42_6
def d42 : FD := { nargs := 1, body := c42, res := [.t 2] }
-- anceps/junction.Begins
def c13_r0 : List AI := [{ dst := some 2, op := .asg (.c .bool false) }]
def c13_0 : AC := .out [0] (.reg [0] c13_r0)
def c13_r1 : List AI := [{ dst := some 4, op := .mv (.t 0) },
  { dst := some 5, op := .call 42 [(.t 4)] },
  { dst := some 3, op := .asg (.t 5) }]
def c13_1 : AC := .out [0, 3] (.reg [0] c13_r1)
def c13_r2 : List AI := [{ dst := some 6, op := .mv (.t 3) },
  { dst := some 7, op := .mv (.t 0) },
  { dst := some 8, op := .lenL (.t 7) },
  { dst := some 9, op := .bin .lss (.t 6) (.t 8) },
  { dst := some 10, op := .mv (.t 9) },
  { dst := some 11, op := .mv (.t 0), guard := some (10, true) },
  { dst := some 12, op := .mv (.t 3), guard := some (10, true) },
  { dst := some 13, op := .indexAddr Tn1915 (.t 11) (.t 12), guard := some (10, true) },
  { dst := some 14, op := .load Tn1915 (.t 13), guard := some (10, true) },
  { dst := some 15, op := .call 43 [(.t 14)], guard := some (10, true) },
  { dst := some 16, op := .pick (.t 10) (.t 15) (.c .bool false) },
  { dst := some 2, op := .asg (.t 16) }]
def c13_2 : AC := .out [2] (.reg [0, 3] c13_r2)
def c13_3 : AC := (.seq c13_0 (.seq c13_1 (.seq c13_2 .ret)))
def c13 : AC := c13_3
def d13 : FD := { nargs := 1, body := c13, res := [.t 2] }
-- anceps/junction.possible
def c37_r0 : List AI := [{ dst := some 4, op := .asg (.nil 3 Tn192) }]
def c37_0 : AC := .out [0, 1] (.reg [0, 1] c37_r0)
def c37_r1 : List AI := [{ dst := some 6, op := .mv (.t 0) },
  { dst := some 7, op := .call 14 [(.t 6)] },
  { dst := some 5, op := .asg (.t 7) }]
def c37_1 : AC := .out [0, 1, 5] (.reg [0, 1] c37_r1)
def c37_r2 : List AI := [{ dst := some 9, op := .mv (.t 5) },
  { dst := some 10, op := .bin .eql (.t 9) (.c Tn192 0) },
  { dst := some 11, op := .mv (.t 10) },
  { dst := some 12, op := .mv (.t 1), guard := some (11, false) },
  { dst := some 13, op := .call 13 [(.t 12)], guard := some (11, false) },
  { dst := some 14, op := .un .not (.t 13), guard := some (11, false) },
  { dst := some 15, op := .pick (.t 11) (.c .bool true) (.t 14) },
  { dst := some 8, op := .asg (.t 15) }]
def c37_2 : AC := .out [0, 5, 8] (.reg [0, 1, 5] c37_r2)
def c37_r3 : List AI := [{ dst := some 16, op := .buildSlice 3 Tn192 [(.c Tn192 0)] },
  { dst := some 4, op := .asg (.t 16) }]
def c37_3 : AC := .out [4] (.reg [] c37_r3)
def c37_r4 : List AI := [{ dst := some 18, op := .mv (.t 5) },
  { dst := some 19, op := .bin .eql (.t 18) (.c Tn192 2) },
  { dst := some 17, op := .asg (.t 19) }]
def c37_4 : AC := .out [0, 17] (.reg [0, 5] c37_r4)
def c37_r5 : List AI := [{ dst := some 20, op := .buildSlice 3 Tn192 [(.c Tn192 1), (.c Tn192 3)] },
  { dst := some 4, op := .asg (.t 20) }]
def c37_5 : AC := .out [4] (.reg [] c37_r5)
def c37_r6 : List AI := [{ dst := some 22, op := .mv (.t 0) },
  { dst := some 23, op := .mv (.t 0) },
  { dst := some 24, op := .lenL (.t 23) },
  { dst := some 25, op := .bin .sub (.t 24) (.c Tn192 1) },
  { dst := some 26, op := .indexAddr Tn1915 (.t 22) (.t 25) },
  { dst := some 27, op := .fieldAddr Tn1915 [.r, .l] (.t 26) },
  { dst := some 28, op := .load Tn192 (.t 27) },
  { dst := some 29, op := .bin .eql (.t 28) (.c Tn192 1) },
  { dst := some 21, op := .asg (.t 29) }]
def c37_6 : AC := .out [21] (.reg [0] c37_r6)
def c37_r7 : List AI := [{ dst := some 30, op := .buildSlice 3 Tn192 [(.c Tn192 1), (.c Tn192 2), (.c Tn192 3)] },
  { dst := some 4, op := .asg (.t 30) }]
def c37_7 : AC := .out [4] (.reg [] c37_r7)
def c37_8 : AC := .out [4] (.cond (.t 21) (.seq c37_7 .ret) .skip)
def c37_9 : AC := .out [4] (.cond (.t 17) (.seq c37_5 .ret) (.seq c37_6 c37_8))
def c37_10 : AC := .out [4] (.cond (.t 8) (.seq c37_3 .ret) (.seq c37_4 c37_9))
def c37_11 : AC := .out [4] (.block 0 (.seq c37_2 c37_10))
def c37_r8 : List AI := [{ dst := some 31, op := .buildSlice 3 Tn192 [(.c Tn192 1), (.c Tn192 2), (.c Tn192 3), (.c Tn192 4)] },
  { dst := some 4, op := .asg (.t 31) }]
def c37_12 : AC := .out [4] (.reg [] c37_r8)
def c37_13 : AC := (.seq c37_0 (.seq c37_1 (.seq c37_11 (.seq c37_12 .ret))))
def c37 : AC := c37_13
def d37 : FD := { nargs := 2, body := c37, res := [.t 4] }
-- slices.Index[[]int,int]
def c80_r0 : List AI := [{ dst := some 4, op := .asg (.c Tn192 0) }]
def c80_0 : AC := .out [0, 1] (.reg [0, 1] c80_r0)
def c80_r1 : List AI := [{ dst := some 6, op := .mv (.t 0) },
  { dst := some 7, op := .lenL (.t 6) },
  { dst := some 8, op := .mv (.c Tn192 0) }]
def c80_1 : AC := .out [0, 1, 7, 8] (.reg [0, 1] c80_r1)
def c80_r2 : List AI := [{ dst := some 9, op := .bin .lss (.t 8) (.t 7) }]
def c80_2 : AC := .out [0, 1, 7, 8, 9] (.reg [0, 1, 7, 8] c80_r2)
def c80_3 : AC := .out [0, 1, 7, 8] (.cond (.t 9) .skip (.exit 0))
def c80_r3 : List AI := [{ dst := some 10, op := .mv (.t 8) },
  { dst := some 5, op := .asg (.t 10) }]
def c80_4 : AC := .out [0, 1, 5, 7, 8] (.reg [0, 1, 7, 8] c80_r3)
def c80_r4 : List AI := [{ dst := some 11, op := .mv (.t 1) },
  { dst := some 12, op := .mv (.t 0) },
  { dst := some 13, op := .mv (.t 5) },
  { dst := some 14, op := .indexAddr Tn192 (.t 12) (.t 13) },
  { dst := some 15, op := .load Tn192 (.t 14) },
  { dst := some 16, op := .bin .eql (.t 11) (.t 15) }]
def c80_5 : AC := .out [0, 1, 5, 7, 8, 16] (.reg [0, 1, 5, 7, 8] c80_r4)
def c80_r5 : List AI := [{ dst := some 17, op := .mv (.t 5) },
  { dst := some 4, op := .asg (.t 17) }]
def c80_6 : AC := .out [4] (.reg [5] c80_r5)
def c80_7 : AC := .out [0, 1, 4, 7, 8] (.cond (.t 16) (.seq c80_6 .ret) .skip)
def c80_8 : AC := .out [0, 1, 4, 7, 8] (.block 1 (.seq c80_4 (.seq c80_5 c80_7)))
def c80_r6 : List AI := [{ dst := some 18, op := .bin .add (.t 8) (.c Tn192 1) },
  { dst := some 8, op := .mv (.t 18) }]
def c80_9 : AC := .out [0, 1, 7, 8] (.reg [0, 1, 7, 8] c80_r6)
def c80_10 : AC := (.seq c80_2 (.seq c80_3 (.seq c80_8 c80_9)))
def c80_11 : AC := .out [4] (.loop [0, 1, 7, 8] c80_10)
def c80_12 : AC := .out [4] (.block 0 c80_11)
def c80_r7 : List AI := [{ dst := some 4, op := .asg (.c Tn192 (-1)) }]
def c80_13 : AC := .out [4] (.reg [] c80_r7)
def c80_14 : AC := (.seq c80_0 (.seq (.seq c80_1 c80_12) (.seq c80_13 .ret)))
def c80 : AC := c80_14
def d80 : FD := { nargs := 2, body := c80, res := [.t 4] }
-- slices.Contains[[]int,int]
def c63_r0 : List AI := [{ dst := some 4, op := .asg (.c .bool false) }]
def c63_0 : AC := .out [0, 1] (.reg [0, 1] c63_r0)
def c63_r1 : List AI := [{ dst := some 5, op := .mv (.t 0) },
  { dst := some 6, op := .mv (.t 1) },
  { dst := some 7, op := .call 80 [(.t 5), (.t 6)] },
  { dst := some 8, op := .bin .geq (.t 7) (.c Tn192 0) },
  { dst := some 4, op := .asg (.t 8) }]
def c63_1 : AC := .out [4] (.reg [0, 1] c63_r1)
def c63_2 : AC := (.seq c63_0 (.seq c63_1 .ret))
def c63 : AC := c63_2
def d63 : FD := { nargs := 2, body := c63, res := [.t 4] }
-- anceps/junction.apply
def c44_r0 : List AI := [{ dst := some 6, op := .asg (.nil 55 Tn1915) },
  { dst := some 7, op := .asg (.nil 55 Tn1915) },
  { dst := some 8, op := .asg (.nil 55 Tn1915) },
  { dst := some 9, op := .asg (.c Tn192 0) }]
def c44_0 : AC := .out [0, 1, 2] (.reg [0, 1, 2] c44_r0)
def c44_r1 : List AI := [{ dst := some 17, op := .mv (.t 0) },
  { dst := some 18, op := .mv (.t 1) },
  { dst := some 19, op := .call 36 [(.t 17), (.t 18)] },
  { dst := some 10, op := .asg (.t 19) }]
def c44_1 : AC := .out [0, 1, 2, 10] (.reg [0, 1, 2] c44_r1)
def c44_r2 : List AI := [{ dst := some 20, op := .mv (.t 10) },
  { dst := some 21, op := .bin .neq (.t 20) (.c Tn192 0) }]
def c44_2 : AC := .out [0, 1, 2, 10, 21] (.reg [0, 1, 2, 10] c44_r2)
def c44_r3 : List AI := [{ dst := some 22, op := .mv (.t 10) },
  { dst := some 6, op := .asg (.nil 55 Tn1915) },
  { dst := some 7, op := .asg (.nil 55 Tn1915) },
  { dst := some 8, op := .asg (.nil 55 Tn1915) },
  { dst := some 9, op := .asg (.t 22) }]
def c44_3 : AC := .out [6, 7, 8, 9] (.reg [10] c44_r3)
def c44_4 : AC := .out [0, 1, 2, 6, 7, 8, 9] (.cond (.t 21) (.seq c44_3 .ret) .skip)
def c44_r4 : List AI := [{ dst := some 23, op := .mv (.t 2) },
  { dst := some 24, op := .bin .lss (.t 23) (.c Tn192 0) },
  { dst := some 25, op := .mv (.t 24) },
  { dst := some 26, op := .mv (.t 2), guard := some (25, false) },
  { dst := some 27, op := .bin .gtr (.t 26) (.c Tn192 4), guard := some (25, false) },
  { dst := some 28, op := .pick (.t 25) (.c .bool true) (.t 27) }]
def c44_5 : AC := .out [0, 1, 2, 28] (.reg [0, 1, 2] c44_r4)
def c44_r5 : List AI := [{ dst := some 6, op := .asg (.nil 55 Tn1915) },
  { dst := some 7, op := .asg (.nil 55 Tn1915) },
  { dst := some 8, op := .asg (.nil 55 Tn1915) },
  { dst := some 9, op := .asg (.c Tn192 6) }]
def c44_6 : AC := .out [6, 7, 8, 9] (.reg [] c44_r5)
def c44_7 : AC := .out [0, 1, 2, 6, 7, 8, 9] (.cond (.t 28) (.seq c44_6 .ret) .skip)
def c44_r6 : List AI := [{ dst := some 29, op := .mv (.t 0) },
  { dst := some 30, op := .mv (.t 1) },
  { dst := some 31, op := .call 37 [(.t 29), (.t 30)] },
  { dst := some 32, op := .mv (.t 2) },
  { dst := some 33, op := .call 63 [(.t 31), (.t 32)] },
  { dst := some 34, op := .un .not (.t 33) }]
def c44_8 : AC := .out [0, 1, 2, 34] (.reg [0, 1, 2] c44_r6)
def c44_r7 : List AI := [{ dst := some 6, op := .asg (.nil 55 Tn1915) },
  { dst := some 7, op := .asg (.nil 55 Tn1915) },
  { dst := some 8, op := .asg (.nil 55 Tn1915) },
  { dst := some 9, op := .asg (.c Tn192 8) }]
def c44_9 : AC := .out [6, 7, 8, 9] (.reg [] c44_r7)
def c44_10 : AC := .out [0, 1, 2, 6, 7, 8, 9] (.cond (.t 34) (.seq c44_9 .ret) .skip)
def c44_r8 : List AI := [{ dst := some 35, op := .mv (.t 0) },
  { dst := some 36, op := .call 23 [(.t 35)] },
  { dst := some 37, op := .mv (.t 1) },
  { dst := some 38, op := .call 23 [(.t 37)] },
  { dst := some 11, op := .asg (.t 36) },
  { dst := some 12, op := .asg (.t 38) }]
def c44_11 : AC := .out [0, 1, 2, 11, 12] (.reg [0, 1, 2] c44_r8)
def c44_r9 : List AI := [{ dst := some 13, op := .asg (.nil 55 Tn1915) }]
def c44_12 : AC := .out [0, 1, 2, 11, 12, 13] (.reg [0, 1, 2, 11, 12] c44_r9)
def c44_r10 : List AI := [{ dst := some 39, op := .mv (.t 2) }]
def c44_13 : AC := .out [0, 1, 11, 12, 13, 39] (.reg [0, 1, 2, 11, 12, 13] c44_r10)
def c44_r11 : List AI := [{ dst := some 41, op := .bin .eql (.t 39) (.c Tn192 1) },
  { dst := some 40, op := .asg (.t 41) }]
def c44_14 : AC := .out [0, 1, 11, 12, 13, 39, 40] (.reg [0, 1, 11, 12, 13, 39] c44_r11)
def c44_r12 : List AI := [{ dst := some 42, op := .mv (.t 0) },
  { dst := some 43, op := .lenL (.t 42) },
  { dst := some 44, op := .mv (.t 0) },
  { dst := some 45, op := .call 14 [(.t 44)] },
  { dst := some 46, op := .bin .sub (.t 43) (.t 45) },
  { dst := some 14, op := .asg (.t 46) }]
def c44_15 : AC := .out [0, 11, 12, 14] (.reg [0, 11, 12] c44_r12)
def c44_r13 : List DI := [{ ai := { dst := some 47, op := .mv (.t 11) }, hide := [48, 49, 51, 52, 53, 54], wr := [47], pre := [] },
  { ai := { dst := some 48, op := .mv (.t 14) }, hide := [47, 49, 51, 52, 53, 54], wr := [48], pre := [] },
  { ai := { dst := some 49, op := .mv (.t 14) }, hide := [47, 48, 51, 52, 53, 54], wr := [49], pre := [] },
  { ai := { dst := some 50, op := .sliceL Tn1915 (.t 47) none (some (.t 48)) (some (.t 49)) }, hide := [51, 52, 53, 54], wr := [11, 47, 50], pre := [0, 1, 2] },
  { ai := { dst := some 51, op := .mv (.t 0) }, hide := [11, 47, 48, 49, 50, 52], wr := [51], pre := [] },
  { ai := { dst := some 52, op := .mv (.t 14) }, hide := [11, 47, 48, 49, 50, 51], wr := [52], pre := [] },
  { ai := { dst := some 53, op := .sliceL Tn1915 (.t 51) (some (.t 52)) none none }, hide := [11, 47, 48, 49, 50], wr := [51, 53], pre := [4, 5] },
  { ai := { dst := some 54, op := .call 23 [(.t 53)] }, hide := [11, 47, 48, 49, 50], wr := [54], pre := [4, 5, 6] },
  { ai := { dst := some 11, op := .asg (.t 50) }, hide := [], wr := [11], pre := [0, 1, 2, 3, 4, 5, 6, 7], piv := true },
  { ai := { dst := some 13, op := .asg (.t 54) }, hide := [], wr := [13], pre := [0, 1, 2, 3, 4, 5, 6, 7, 8], piv := true }]
def c44_16 : AC := .out [11, 12, 13] (.draw [0, 11, 12, 14] c44_r13)
def c44_r14 : List AI := [{ dst := some 56, op := .bin .eql (.t 39) (.c Tn192 2) },
  { dst := some 55, op := .asg (.t 56) }]
def c44_17 : AC := .out [1, 11, 12, 13, 39, 55] (.reg [1, 11, 12, 13, 39] c44_r14)
def c44_r15 : List AI := [{ dst := some 57, op := .mv (.t 1) },
  { dst := some 58, op := .call 42 [(.t 57)] },
  { dst := some 59, op := .bin .add (.t 58) (.c Tn192 1) },
  { dst := some 15, op := .asg (.t 59) }]
def c44_18 : AC := .out [1, 11, 15] (.reg [1, 11] c44_r15)
def c44_r16 : List DI := [{ ai := { dst := some 60, op := .mv (.t 1) }, hide := [61, 64, 65, 66], wr := [60], pre := [] },
  { ai := { dst := some 61, op := .mv (.t 15) }, hide := [60, 64, 65, 66], wr := [61], pre := [] },
  { ai := { dst := some 62, op := .sliceL Tn1915 (.t 60) (some (.t 61)) none none }, hide := [64, 65, 66], wr := [60, 62], pre := [0, 1] },
  { ai := { dst := some 63, op := .call 23 [(.t 62)] }, hide := [64, 65, 66], wr := [63], pre := [0, 1, 2] },
  { ai := { dst := some 64, op := .mv (.t 1) }, hide := [60, 61, 62, 63, 65], wr := [64], pre := [] },
  { ai := { dst := some 65, op := .mv (.t 15) }, hide := [60, 61, 62, 63, 64], wr := [65], pre := [] },
  { ai := { dst := some 66, op := .sliceL Tn1915 (.t 64) none (some (.t 65)) none }, hide := [60, 61, 62, 63], wr := [64, 66], pre := [4, 5] },
  { ai := { dst := some 67, op := .call 23 [(.t 66)] }, hide := [], wr := [67], pre := [0, 1, 2, 3, 4, 5, 6], piv := true },
  { ai := { dst := some 12, op := .asg (.t 63) }, hide := [], wr := [12], pre := [0, 1, 2, 3, 4, 5, 6, 7], piv := true },
  { ai := { dst := some 13, op := .asg (.t 67) }, hide := [], wr := [13], pre := [0, 1, 2, 3, 4, 5, 6, 7, 8], piv := true }]
def c44_19 : AC := .out [11, 12, 13] (.draw [1, 11, 15] c44_r16)
def c44_r17 : List AI := [{ dst := some 69, op := .bin .eql (.t 39) (.c Tn192 4) },
  { dst := some 68, op := .asg (.t 69) }]
def c44_20 : AC := .out [11, 12, 13, 68] (.reg [11, 12, 13, 39] c44_r17)
def c44_r18 : List AI := [{ dst := some 70, op := .mv (.t 11) },
  { dst := some 71, op := .mv (.t 11) },
  { dst := some 72, op := .lenL (.t 71) },
  { dst := some 73, op := .bin .sub (.t 72) (.c Tn192 1) },
  { dst := some 74, op := .indexAddr Tn1915 (.t 70) (.t 73) },
  { dst := some 16, op := .asg (.t 74) }]
def c44_21 : AC := .out [11, 12, 13, 16] (.reg [11, 12, 13] c44_r18)
def c44_r19 : List AI := [{ dst := some 75, op := .mv (.t 16) },
  { dst := some 76, op := .mv (.t 16) },
  { dst := some 77, op := .nilck (.t 75) },
  { dst := some 78, op := .fieldAddr Tn1915 [.l] (.t 77) },
  { dst := none, op := .store Tn192 (.t 78) (.c Tn192 1) },
  { dst := some 79, op := .nilck (.t 76) },
  { dst := some 80, op := .fieldAddr Tn1915 [.r, .l] (.t 79) },
  { dst := none, op := .store Tn192 (.t 80) (.c Tn192 1) }]
def c44_22 : AC := .out [11, 12, 13] (.reg [11, 12, 13, 16] c44_r19)
def c44_23 : AC := .out [11, 12, 13] (.cond (.t 68) (.seq c44_21 c44_22) .skip)
def c44_24 : AC := .out [11, 12, 13] (.cond (.t 55) (.seq c44_18 c44_19) (.seq c44_20 c44_23))
def c44_25 : AC := .out [11, 12, 13] (.cond (.t 40) (.seq c44_15 c44_16) (.seq c44_17 c44_24))
def c44_26 : AC := .out [11, 12, 13] (.block 0 (.seq c44_14 c44_25))
def c44_27 : AC := (.seq c44_13 c44_26)
def c44_r20 : List AI := [{ dst := some 81, op := .mv (.t 11) },
  { dst := some 82, op := .mv (.t 12) },
  { dst := some 83, op := .mv (.t 13) },
  { dst := some 6, op := .asg (.t 81) },
  { dst := some 7, op := .asg (.t 82) },
  { dst := some 8, op := .asg (.t 83) },
  { dst := some 9, op := .asg (.c Tn192 0) }]
def c44_28 : AC := .out [6, 7, 8, 9, 11, 12, 13] (.reg [11, 12, 13] c44_r20)
def c44_29 : AC := (.seq c44_0 (.seq (.seq c44_1 (.seq c44_2 c44_4)) (.seq (.seq c44_5 c44_7) (.seq (.seq c44_8 c44_10) (.seq c44_11 (.seq c44_12 (.seq c44_27 (.seq c44_28 .ret))))))))
def c44 : AC := c44_29
def d44 : FD := { nargs := 3, body := c44, res := [.p 6, .t 7, .t 8, .t 9] }
-- anceps/junction.Apply
def c16_r0 : List AI := [{ dst := some 6, op := .asg (.nil 55 Tn1915) },
  { dst := some 7, op := .asg (.nil 55 Tn1915) },
  { dst := some 8, op := .asg (.c Tn192 0) }]
def c16_0 : AC := .out [0, 1, 2] (.reg [0, 1, 2] c16_r0)
def c16_r1 : List AI := [{ dst := some 14, op := .mv (.t 0) },
  { dst := some 15, op := .mv (.t 1) },
  { dst := some 16, op := .mv (.t 2) },
  { dst := some 17, op := .call 44 [(.t 14), (.t 15), (.t 16)] },
  { dst := some 13, op := .mv (.t 17) },
  { dst := some 18, op := .extract 13 0 },
  { dst := some 19, op := .extract 13 1 },
  { dst := some 20, op := .extract 13 2 },
  { dst := some 21, op := .extract 13 3 },
  { dst := some 9, op := .asg (.t 18) },
  { dst := some 10, op := .asg (.t 19) },
  { dst := some 11, op := .asg (.t 20) },
  { dst := some 12, op := .asg (.t 21) }]
def c16_1 : AC := .out [9, 10, 12] (.reg [0, 1, 2] c16_r1)
def c16_r2 : List AI := [{ dst := some 22, op := .mv (.t 9) },
  { dst := some 23, op := .mv (.t 10) },
  { dst := some 24, op := .mv (.t 12) },
  { dst := some 6, op := .asg (.t 22) },
  { dst := some 7, op := .asg (.t 23) },
  { dst := some 8, op := .asg (.t 24) }]
def c16_2 : AC := .out [6, 7, 8, 10] (.reg [9, 10, 12] c16_r2)
def c16_3 : AC := (.seq c16_0 (.seq c16_1 (.seq c16_2 .ret)))
def c16 : AC := c16_3
def d16 : FD := { nargs := 3, body := c16, res := [.t 6, .t 7, .t 8] }
-- anceps/ancepsref11.Nucleus
def c45_r0 : List AI := [{ dst := some 1, op := .box Tn1915 (.t 0) },
  { dst := some 2, op := .asg (.c .bool false) }]
def c45_0 : AC := .out [1] (.reg [0] c45_r0)
def c45_r1 : List AI := [{ dst := some 3, op := .fieldAddr Tn1915 [.l] (.t 1) },
  { dst := some 4, op := .load Tn192 (.t 3) },
  { dst := some 5, op := .bin .eql (.t 4) (.c Tn192 1) },
  { dst := some 6, op := .mv (.t 5) },
  { dst := some 7, op := .fieldAddr Tn1915 [.l] (.t 1), guard := some (6, false) },
  { dst := some 8, op := .load Tn192 (.t 7), guard := some (6, false) },
  { dst := some 9, op := .bin .eql (.t 8) (.c Tn192 2), guard := some (6, false) },
  { dst := some 10, op := .pick (.t 6) (.c .bool true) (.t 9) },
  { dst := some 2, op := .asg (.t 10) }]
def c45_1 : AC := .out [2] (.reg [1] c45_r1)
def c45_2 : AC := (.seq c45_0 (.seq c45_1 .ret))
def c45 : AC := c45_2
def d45 : FD := { nargs := 1, body := c45, res := [.t 2] }
-- anceps/ancepsref11.Nuclei
def c17_r0 : List AI := [{ dst := some 2, op := .asg (.nil 3 Tn192) }]
def c17_0 : AC := .out [0] (.reg [0] c17_r0)
def c17_r1 : List AI := [{ dst := some 3, op := .asg (.nil 3 Tn192) }]
def c17_1 : AC := .out [0, 3] (.reg [0] c17_r1)
def c17_r2 : List AI := [{ dst := some 4, op := .asg (.c Tn192 0) }]
def c17_2 : AC := .out [0, 3, 4] (.reg [0, 3] c17_r2)
def c17_r3 : List AI := [{ dst := some 5, op := .mv (.t 4) },
  { dst := some 6, op := .mv (.t 0) },
  { dst := some 7, op := .lenL (.t 6) },
  { dst := some 8, op := .bin .lss (.t 5) (.t 7) }]
def c17_3 : AC := .out [0, 3, 4, 8] (.reg [0, 3, 4] c17_r3)
def c17_4 : AC := .out [0, 3, 4] (.cond (.t 8) .skip (.exit 0))
def c17_r5 : List AI := [{ dst := some 11, op := .mv (.t 0) },
  { dst := some 12, op := .mv (.t 4) },
  { dst := some 13, op := .indexAddr Tn1915 (.t 11) (.t 12) },
  { dst := some 14, op := .load Tn1915 (.t 13) },
  { dst := some 15, op := .call 45 [(.t 14)] }]
def c17_5 : AC := .out [0, 3, 4, 15] (.reg [0, 3, 4] c17_r5)
def c17_r6 : List AI := [{ dst := some 16, op := .mv (.t 3) },
  { dst := some 17, op := .mv (.t 4) },
  { dst := some 18, op := .buildSlice 3 Tn192 [(.t 17)] },
  { dst := some 19, op := .append 3 Tn192 17592186044416 (.t 16) (.t 18) },
  { dst := some 3, op := .asg (.t 19) }]
def c17_6 : AC := .out [0, 3, 4] (.reg [0, 3, 4] c17_r6)
def c17_7 : AC := .out [0, 3, 4] (.cond (.t 15) c17_6 .skip)
def c17_8 : AC := .out [0, 3, 4] (.block 1 (.seq c17_5 c17_7))
def c17_r4 : List AI := [{ dst := some 9, op := .mv (.t 4) },
  { dst := some 10, op := .bin .add (.t 9) (.c Tn192 1) },
  { dst := some 4, op := .asg (.t 10) }]
def c17_9 : AC := .out [0, 3, 4] (.reg [0, 3, 4] c17_r4)
def c17_10 : AC := (.seq (.seq c17_3 c17_4) (.seq c17_8 c17_9))
def c17_11 : AC := .out [3] (.loop [0, 3, 4] c17_10)
def c17_12 : AC := .out [3] (.block 0 c17_11)
def c17_r7 : List AI := [{ dst := some 20, op := .mv (.t 3) },
  { dst := some 2, op := .asg (.t 20) }]
def c17_13 : AC := .out [2, 3] (.reg [3] c17_r7)
def c17_14 : AC := (.seq c17_0 (.seq c17_1 (.seq (.seq c17_2 c17_12) (.seq c17_13 .ret))))
def c17 : AC := c17_14
def d17 : FD := { nargs := 1, body := c17, res := [.t 2] }
-- anceps/ancepslaw19.JunctionNuclei
def c4_r0 : List AI := [{ dst := some 6, op := .asg (.c .bool false) }]
def c4_0 : AC := .out [0, 1, 2] (.reg [0, 1, 2] c4_r0)
def c4_r1 : List AI := [{ dst := some 14, op := .call 8 [] },
  { dst := some 15, op := .un .not (.t 14) },
  { dst := some 16, op := .mv (.t 15) },
  { dst := some 17, op := .mv (.t 0), guard := some (16, false) },
  { dst := some 18, op := .lenL (.t 17), guard := some (16, false) },
  { dst := some 19, op := .bin .gtr (.t 18) (.c Tn192 60), guard := some (16, false) },
  { dst := some 20, op := .pick (.t 16) (.c .bool true) (.t 19) },
  { dst := some 21, op := .mv (.t 20) },
  { dst := some 22, op := .mv (.t 1), guard := some (21, false) },
  { dst := some 23, op := .lenL (.t 22), guard := some (21, false) },
  { dst := some 24, op := .bin .gtr (.t 23) (.c Tn192 60), guard := some (21, false) },
  { dst := some 25, op := .pick (.t 21) (.c .bool true) (.t 24) }]
def c4_1 : AC := .out [0, 1, 2, 25] (.reg [0, 1, 2] c4_r1)
def c4_r2 : List AI := [{ dst := some 26, op := .call 8 [] },
  { dst := some 6, op := .asg (.t 26) }]
def c4_2 : AC := .out [6] (.reg [] c4_r2)
def c4_3 : AC := .out [0, 1, 2, 6] (.cond (.t 25) (.seq c4_2 .ret) .skip)
def c4_r3 : List AI := [{ dst := some 27, op := .mv (.t 0) },
  { dst := some 28, op := .call 10 [(.t 27)] },
  { dst := some 29, op := .mv (.t 1) },
  { dst := some 30, op := .call 10 [(.t 29)] },
  { dst := some 7, op := .asg (.t 28) },
  { dst := some 8, op := .asg (.t 30) }]
def c4_4 : AC := .out [2, 7, 8] (.reg [0, 1, 2] c4_r3)
def c4_r4 : List AI := [{ dst := some 31, op := .mv (.t 2) },
  { dst := some 32, op := .bin .rem (.t 31) (.c Tn190 5) },
  { dst := some 33, op := .convI .i64 (.t 32) },
  { dst := some 9, op := .asg (.t 33) }]
def c4_5 : AC := .out [7, 8, 9] (.reg [2, 7, 8] c4_r4)
def c4_r5 : List AI := [{ dst := some 35, op := .mv (.t 7) },
  { dst := some 36, op := .mv (.t 8) },
  { dst := some 37, op := .mv (.t 9) },
  { dst := some 38, op := .call 16 [(.t 35), (.t 36), (.t 37)] },
  { dst := some 34, op := .mv (.t 38) },
  { dst := some 39, op := .extract 34 0 },
  { dst := some 40, op := .extract 34 1 },
  { dst := some 41, op := .extract 34 2 },
  { dst := some 10, op := .asg (.t 39) },
  { dst := some 11, op := .asg (.t 40) },
  { dst := some 12, op := .asg (.t 41) }]
def c4_6 : AC := .out [7, 8, 9, 10, 11, 12] (.reg [7, 8, 9] c4_r5)
def c4_r6 : List AI := [{ dst := some 42, op := .mv (.t 12) },
  { dst := some 43, op := .bin .neq (.t 42) (.c Tn192 0) }]
def c4_7 : AC := .out [7, 8, 9, 10, 11, 12, 43] (.reg [7, 8, 9, 10, 11, 12] c4_r6)
def c4_r7 : List AI := [{ dst := some 44, op := .mv (.t 12) },
  { dst := some 45, op := .bin .eql (.t 44) (.c Tn192 8) },
  { dst := some 6, op := .asg (.t 45) }]
def c4_8 : AC := .out [6] (.reg [12] c4_r7)
def c4_9 : AC := .out [6, 7, 8, 9, 10, 11] (.cond (.t 43) (.seq c4_8 .ret) .skip)
def c4_r8 : List AI := [{ dst := some 46, op := .mv (.t 7) },
  { dst := some 47, op := .call 17 [(.t 46)] },
  { dst := some 48, op := .lenL (.t 47) },
  { dst := some 49, op := .mv (.t 8) },
  { dst := some 50, op := .call 17 [(.t 49)] },
  { dst := some 51, op := .lenL (.t 50) },
  { dst := some 52, op := .bin .add (.t 48) (.t 51) },
  { dst := some 13, op := .asg (.t 52) }]
def c4_10 : AC := .out [9, 10, 11, 13] (.reg [7, 8, 9, 10, 11] c4_r8)
def c4_r9 : List AI := [{ dst := some 53, op := .mv (.t 9) },
  { dst := some 54, op := .bin .eql (.t 53) (.c Tn192 1) },
  { dst := some 55, op := .mv (.t 54) },
  { dst := some 56, op := .mv (.t 9), guard := some (55, false) },
  { dst := some 57, op := .bin .eql (.t 56) (.c Tn192 2), guard := some (55, false) },
  { dst := some 58, op := .pick (.t 55) (.c .bool true) (.t 57) }]
def c4_11 : AC := .out [10, 11, 13, 58] (.reg [9, 10, 11, 13] c4_r9)
def c4_r10 : List AI := [{ dst := some 59, op := .mv (.t 13) },
  { dst := some 60, op := .bin .sub (.t 59) (.c Tn192 1) },
  { dst := some 13, op := .asg (.t 60) }]
def c4_12 : AC := .out [10, 11, 13] (.reg [10, 11, 13] c4_r10)
def c4_13 : AC := .out [10, 11, 13] (.cond (.t 58) c4_12 .skip)
def c4_14 : AC := (.seq c4_11 c4_13)
def c4_r11 : List AI := [{ dst := some 61, op := .mv (.t 10) },
  { dst := some 62, op := .call 17 [(.t 61)] },
  { dst := some 63, op := .lenL (.t 62) },
  { dst := some 64, op := .mv (.t 11) },
  { dst := some 65, op := .call 17 [(.t 64)] },
  { dst := some 66, op := .lenL (.t 65) },
  { dst := some 67, op := .bin .add (.t 63) (.t 66) },
  { dst := some 68, op := .mv (.t 13) },
  { dst := some 69, op := .bin .eql (.t 67) (.t 68) },
  { dst := some 6, op := .asg (.t 69) }]
def c4_15 : AC := .out [6] (.reg [10, 11, 13] c4_r11)
def c4_16 : AC := (.seq c4_0 (.seq (.seq c4_1 c4_3) (.seq c4_4 (.seq c4_5 (.seq c4_6 (.seq (.seq c4_7 c4_9) (.seq c4_10 (.seq c4_14 (.seq c4_15 .ret)))))))))
def c4 : AC := c4_16
def d4 : FD := { nargs := 3, body := c4, res := [.t 6] }
-- anceps/ancepslaw19.awake
def c8_r0 : List AI := [{ dst := some 0, op := .asg (.c .bool false) }]
def c8_r1 : List AI := [{ dst := some 11, op := .call 31 [(.c .str [105, 47, 118, 51, 32, 108, 47, 108, 32, 108, 47, 108, 32, 101, 47, 118, 51])] },
  { dst := some 10, op := .mv (.t 11) },
  { dst := some 12, op := .extract 10 0 },
  { dst := some 13, op := .extract 10 1 },
  { dst := some 1, op := .asg (.t 12) },
  { dst := some 2, op := .asg (.t 13) }]
def c8_r2 : List AI := [{ dst := some 15, op := .call 31 [(.c .str [101, 47, 118, 51, 32, 116, 47, 109])] },
  { dst := some 14, op := .mv (.t 15) },
  { dst := some 16, op := .extract 14 0 },
  { dst := some 17, op := .extract 14 1 },
  { dst := some 3, op := .asg (.t 16) },
  { dst := some 4, op := .asg (.t 17) }]
def c8_r3 : List AI := [{ dst := some 19, op := .call 32 [] },
  { dst := some 20, op := .mv (.t 1) },
  { dst := some 21, op := .mv (.t 3) },
  { dst := some 22, op := .call 11 [(.t 19), (.c .str [105, 108, 108, 101]), (.c .str [101, 116]), (.t 20), (.t 21)] },
  { dst := some 18, op := .mv (.t 22) },
  { dst := some 23, op := .extract 18 0 },
  { dst := some 24, op := .extract 18 1 },
  { dst := some 5, op := .asg (.t 23) },
  { dst := some 6, op := .asg (.t 24) }]
def c8_r4 : List AI := [{ dst := some 26, op := .mv (.t 1) },
  { dst := some 27, op := .mv (.t 3) },
  { dst := some 28, op := .call 16 [(.t 26), (.t 27), (.c Tn192 1)] },
  { dst := some 25, op := .mv (.t 28) },
  { dst := some 29, op := .extract 25 0 },
  { dst := some 30, op := .extract 25 1 },
  { dst := some 31, op := .extract 25 2 },
  { dst := some 7, op := .asg (.t 29) },
  { dst := some 8, op := .asg (.t 30) },
  { dst := some 9, op := .asg (.t 31) }]
def c8_r5 : List AI := [{ dst := some 32, op := .mv (.t 6) },
  { dst := some 33, op := .bin .eql (.t 32) (.c Tn192 0) },
  { dst := some 34, op := .mv (.t 33) },
  { dst := some 35, op := .mv (.t 5), guard := some (34, true) },
  { dst := some 36, op := .build Tn1914 [([.l], (.c Tn192 1))], guard := some (34, true) },
  { dst := some 37, op := .build Tn1914 [([.l], (.c Tn192 3)), ([.r, .l], (.c Tn192 6))], guard := some (34, true) },
  { dst := some 38, op := .build Tn1914 [([.l], (.c Tn192 4)), ([.r, .l], (.c Tn192 5))], guard := some (34, true) },
  { dst := some 39, op := .buildSlice 39 Tn1914 [(.t 36), (.t 37), (.t 38)], guard := some (34, true) },
  { dst := some 40, op := .call 15 [(.t 35), (.t 39)], guard := some (34, true) },
  { dst := some 41, op := .pick (.t 34) (.t 40) (.c .bool false) },
  { dst := some 42, op := .mv (.t 41) },
  { dst := some 43, op := .mv (.t 9), guard := some (42, true) },
  { dst := some 44, op := .bin .eql (.t 43) (.c Tn192 0), guard := some (42, true) },
  { dst := some 45, op := .pick (.t 42) (.t 44) (.c .bool false) },
  { dst := some 46, op := .mv (.t 45) },
  { dst := some 47, op := .mv (.t 7), guard := some (46, true) },
  { dst := some 48, op := .mv (.t 1), guard := some (46, true) },
  { dst := some 49, op := .sliceL Tn1915 (.t 48) none (some (.c Tn192 3)) none, guard := some (46, true) },
  { dst := some 50, op := .call 29 [(.t 47), (.t 49)], guard := some (46, true) },
  { dst := some 51, op := .pick (.t 46) (.t 50) (.c .bool false) },
  { dst := some 52, op := .mv (.t 51) },
  { dst := some 53, op := .mv (.t 8), guard := some (52, true) },
  { dst := some 54, op := .mv (.t 3), guard := some (52, true) },
  { dst := some 55, op := .call 29 [(.t 53), (.t 54)], guard := some (52, true) },
  { dst := some 56, op := .pick (.t 52) (.t 55) (.c .bool false) },
  { dst := some 0, op := .asg (.t 56) }]
def c8 : AC := (.seq (.reg [] c8_r0) (.seq (.reg [] c8_r1) (.seq (.reg [1, 12] c8_r2) (.seq (.reg [1, 3, 12, 16] c8_r3) (.seq (.reg [1, 3, 5, 6, 12, 16, 23] c8_r4) (.seq (.reg [1, 3, 5, 6, 7, 8, 9, 12, 16, 23, 29, 30] c8_r5) .ret))))))
def d8 : FD := { nargs := 0, body := c8, res := [.t 0] }
-- anceps/junction.Joints
def c11_r0 : List AI := [{ dst := some 5, op := .box Tn1923 (.t 0) },
  { dst := some 10, op := .asg (.nil 39 Tn1914) },
  { dst := some 11, op := .asg (.c Tn192 0) }]
def c11_r1 : List AI := [{ dst := some 20, op := .load Tn1923 (.t 5) },
  { dst := some 21, op := .call 35 [(.t 20)] },
  { dst := some 12, op := .asg (.t 21) }]
def c11_r2 : List AI := [{ dst := some 22, op := .mv (.t 12) },
  { dst := some 23, op := .bin .neq (.t 22) (.c Tn192 0) }]
def c11_r3 : List AI := [{ dst := some 24, op := .mv (.t 12) },
  { dst := some 10, op := .asg (.nil 39 Tn1914) },
  { dst := some 11, op := .asg (.t 24) }]
def c11_r4 : List AI := [{ dst := some 25, op := .mv (.t 3) },
  { dst := some 26, op := .mv (.t 4) },
  { dst := some 27, op := .call 36 [(.t 25), (.t 26)] },
  { dst := some 13, op := .asg (.t 27) }]
def c11_r5 : List AI := [{ dst := some 28, op := .mv (.t 13) },
  { dst := some 29, op := .bin .neq (.t 28) (.c Tn192 0) }]
def c11_r6 : List AI := [{ dst := some 30, op := .mv (.t 13) },
  { dst := some 10, op := .asg (.nil 39 Tn1914) },
  { dst := some 11, op := .asg (.t 30) }]
def c11_r7 : List AI := [{ dst := some 14, op := .asg (.nil 39 Tn1914) }]
def c11_r8 : List AI := [{ dst := some 31, op := .mv (.t 3) },
  { dst := some 32, op := .mv (.t 4) },
  { dst := some 33, op := .call 37 [(.t 31), (.t 32)] },
  { dst := some 34, op := .lenL (.t 33) },
  { dst := some 35, op := .mv (.c Tn192 0) }]
def c11_r9 : List AI := [{ dst := some 36, op := .bin .lss (.t 35) (.t 34) }]
def c11_r10 : List AI := [{ dst := some 37, op := .indexAddr Tn192 (.t 33) (.t 35) },
  { dst := some 38, op := .load Tn192 (.t 37) },
  { dst := some 16, op := .asg (.t 38) }]
def c11_r11 : List AI := [{ dst := some 39, op := .mv (.t 16) },
  { dst := some 40, op := .bin .eql (.t 39) (.c Tn192 0) }]
def c11_r12 : List AI := [{ dst := some 41, op := .mv (.t 14) },
  { dst := some 42, op := .mv (.t 16) },
  { dst := some 43, op := .build Tn1914 [([.l], (.t 42))] },
  { dst := some 44, op := .buildSlice 39 Tn1914 [(.t 43)] },
  { dst := some 45, op := .append 39 Tn1914 8796093022208 (.t 41) (.t 44) },
  { dst := some 14, op := .asg (.t 45) }]
def c11_r13 : List AI := [{ dst := some 46, op := .mv (.t 1) },
  { dst := some 17, op := .asg (.t 46) }]
def c11_r14 : List AI := [{ dst := some 47, op := .mv (.t 16) },
  { dst := some 48, op := .bin .eql (.t 47) (.c Tn192 2) }]
def c11_r15 : List AI := [{ dst := some 49, op := .mv (.t 2) },
  { dst := some 17, op := .asg (.t 49) }]
def c11_r16 : List DI := [{ ai := { dst := some 51, op := .load Tn1923 (.t 5) }, hide := [52, 53, 54, 55, 56], wr := [51], pre := [] },
  { ai := { dst := some 52, op := .mv (.t 16) }, hide := [51, 53, 54, 56], wr := [52], pre := [] },
  { ai := { dst := some 53, op := .mv (.t 3) }, hide := [51, 52, 56], wr := [53], pre := [] },
  { ai := { dst := some 54, op := .call 14 [(.t 53)] }, hide := [51, 52, 56], wr := [54], pre := [2] },
  { ai := { dst := some 55, op := .call 39 [(.t 52), (.t 54)] }, hide := [51, 56], wr := [55], pre := [1, 2, 3] },
  { ai := { dst := some 56, op := .mv (.t 17) }, hide := [51, 52, 53, 54, 55], wr := [56], pre := [] },
  { ai := { dst := some 57, op := .call 38 [(.t 51), (.t 55), (.t 56)] }, hide := [], wr := [57], pre := [0, 1, 2, 3, 4, 5] },
  { ai := { dst := some 50, op := .mv (.t 57) }, hide := [], wr := [50], pre := [0, 1, 2, 3, 4, 5, 6], piv := true },
  { ai := { dst := some 58, op := .extract 50 0 }, hide := [59], wr := [58], pre := [0, 1, 2, 3, 4, 5, 6, 7] },
  { ai := { dst := some 59, op := .extract 50 1 }, hide := [18, 58], wr := [59], pre := [0, 1, 2, 3, 4, 5, 6, 7] },
  { ai := { dst := some 18, op := .asg (.t 58) }, hide := [59], wr := [18], pre := [0, 1, 2, 3, 4, 5, 6, 7, 8] },
  { ai := { dst := some 19, op := .asg (.t 59) }, hide := [], wr := [19], pre := [0, 1, 2, 3, 4, 5, 6, 7, 8, 9, 10] }]
def c11_r17 : List AI := [{ dst := some 60, op := .mv (.t 19) }]
def c11_r18 : List AI := [{ dst := some 61, op := .mv (.t 14) },
  { dst := some 62, op := .mv (.t 16) },
  { dst := some 63, op := .mv (.t 18) },
  { dst := some 64, op := .build Tn1914 [([.l], (.t 62)), ([.r, .l], (.t 63))] },
  { dst := some 65, op := .buildSlice 39 Tn1914 [(.t 64)] },
  { dst := some 66, op := .append 39 Tn1914 8796093022208 (.t 61) (.t 65) },
  { dst := some 14, op := .asg (.t 66) }]
def c11_r19 : List AI := [{ dst := some 67, op := .bin .add (.t 35) (.c Tn192 1) },
  { dst := some 35, op := .mv (.t 67) }]
def c11_r20 : List AI := [{ dst := some 68, op := .mv (.t 14) },
  { dst := some 10, op := .asg (.t 68) },
  { dst := some 11, op := .asg (.c Tn192 0) }]
def c11 : AC := (.seq (.reg [0, 1, 2, 3, 4] c11_r0) (.seq (.seq (.reg [1, 2, 3, 4, 5] c11_r1) (.seq (.reg [1, 2, 3, 4, 5, 12] c11_r2) (.cond (.t 23) (.seq (.reg [12] c11_r3) .ret) .skip))) (.seq (.seq (.reg [1, 2, 3, 4, 5] c11_r4) (.seq (.reg [1, 2, 3, 4, 5, 13] c11_r5) (.cond (.t 29) (.seq (.reg [13] c11_r6) .ret) .skip))) (.seq (.reg [1, 2, 3, 4, 5] c11_r7) (.seq (.seq (.reg [1, 2, 3, 4, 5, 14, 45, 66] c11_r8) (.block 0 (.loop [1, 2, 3, 5, 14, 33, 34, 35, 45, 66] (.seq (.reg [1, 2, 3, 5, 14, 33, 34, 35, 45, 66] c11_r9) (.seq (.cond (.t 36) .skip (.exit 0)) (.seq (.block 1 (.seq (.reg [1, 2, 3, 5, 14, 33, 34, 35, 45, 66] c11_r10) (.seq (.seq (.reg [1, 2, 3, 5, 14, 16, 33, 34, 35, 45, 66] c11_r11) (.cond (.t 40) (.seq (.reg [1, 2, 3, 5, 14, 16, 33, 34, 35, 45, 66] c11_r12) (.exit 1)) .skip)) (.seq (.reg [1, 2, 3, 5, 14, 16, 33, 34, 35, 45, 66] c11_r13) (.seq (.seq (.reg [1, 2, 3, 5, 14, 16, 17, 33, 34, 35, 45, 66] c11_r14) (.cond (.t 48) (.reg [1, 2, 3, 5, 14, 16, 33, 34, 35, 45, 66] c11_r15) .skip)) (.seq (.draw [1, 2, 3, 5, 14, 16, 17, 33, 34, 35, 45, 66] c11_r16) (.seq (.reg [1, 2, 3, 5, 14, 16, 18, 19, 33, 34, 35, 45, 66] c11_r17) (.cond (.t 60) (.reg [1, 2, 3, 5, 14, 16, 18, 33, 34, 35, 45, 66] c11_r18) .skip)))))))) (.reg [1, 2, 3, 5, 14, 33, 34, 35, 45, 66] c11_r19))))))) (.seq (.reg [14, 45, 66] c11_r20) .ret))))))
def d11 : FD := { nargs := 5, body := c11, res := [.t 10, .t 11] }
-- anceps/ancepsref17.Valid
def c12_r0 : List AI := [{ dst := some 1, op := .box Tn1923 (.t 0) },
  { dst := some 2, op := .asg (.c Tn192 0) }]
def c12_r1 : List AI := [{ dst := some 5, op := .fieldAddr Tn1923 [.l] (.t 1) },
  { dst := some 6, op := .load .str (.t 5) },
  { dst := some 7, op := .call 40 [(.t 6)] },
  { dst := some 8, op := .un .not (.t 7) }]
def c12_r2 : List AI := [{ dst := some 2, op := .asg (.c Tn192 2) }]
def c12_r3 : List AI := [{ dst := some 9, op := .fieldAddr Tn1923 [.r, .l] (.t 1) },
  { dst := some 10, op := .load Tn1919 (.t 9) },
  { dst := some 11, op := .lenL (.t 10) },
  { dst := some 12, op := .bin .gtr (.t 11) (.c Tn192 30) }]
def c12_r4 : List AI := [{ dst := some 2, op := .asg (.c Tn192 3) }]
def c12_r5 : List AI := [{ dst := some 3, op := .asg (.c Tn192 0) }]
def c12_r6 : List AI := [{ dst := some 13, op := .mv (.t 3) },
  { dst := some 14, op := .fieldAddr Tn1923 [.r, .l] (.t 1) },
  { dst := some 15, op := .load Tn1919 (.t 14) },
  { dst := some 16, op := .lenL (.t 15) },
  { dst := some 17, op := .bin .lss (.t 13) (.t 16) }]
def c12_r8 : List AI := [{ dst := some 20, op := .fieldAddr Tn1923 [.r, .l] (.t 1) },
  { dst := some 21, op := .load Tn1919 (.t 20) },
  { dst := some 22, op := .mv (.t 3) },
  { dst := some 23, op := .indexAddr Tn1917 (.t 21) (.t 22) },
  { dst := some 24, op := .load Tn1917 (.t 23) },
  { dst := some 25, op := .call 41 [(.t 24)] },
  { dst := some 4, op := .asg (.t 25) }]
def c12_r9 : List AI := [{ dst := some 26, op := .mv (.t 4) },
  { dst := some 27, op := .bin .neq (.t 26) (.c Tn192 0) }]
def c12_r10 : List AI := [{ dst := some 28, op := .mv (.t 4) },
  { dst := some 2, op := .asg (.t 28) }]
def c12_r7 : List AI := [{ dst := some 18, op := .mv (.t 3) },
  { dst := some 19, op := .bin .add (.t 18) (.c Tn192 1) },
  { dst := some 3, op := .asg (.t 19) }]
def c12_r11 : List AI := [{ dst := some 2, op := .asg (.c Tn192 0) }]
def c12 : AC := (.seq (.reg [0] c12_r0) (.seq (.seq (.reg [1] c12_r1) (.cond (.t 8) (.seq (.reg [] c12_r2) .ret) .skip)) (.seq (.seq (.reg [1] c12_r3) (.cond (.t 12) (.seq (.reg [] c12_r4) .ret) .skip)) (.seq (.seq (.reg [1] c12_r5) (.block 0 (.loop [1, 3] (.seq (.seq (.reg [1, 3] c12_r6) (.cond (.t 17) .skip (.exit 0))) (.seq (.block 1 (.seq (.reg [1, 3] c12_r8) (.seq (.reg [1, 3, 4] c12_r9) (.cond (.t 27) (.seq (.reg [4] c12_r10) .ret) .skip)))) (.reg [1, 3] c12_r7)))))) (.seq (.reg [] c12_r11) .ret)))))
def d12 : FD := { nargs := 1, body := c12, res := [.t 2] }
-- anceps/ancepsref19.Same
def c15_r0 : List AI := [{ dst := some 4, op := .asg (.c .bool false) }]
def c15_r1 : List AI := [{ dst := some 6, op := .mv (.t 0) },
  { dst := some 7, op := .lenL (.t 6) },
  { dst := some 8, op := .mv (.t 1) },
  { dst := some 9, op := .lenL (.t 8) },
  { dst := some 10, op := .bin .neq (.t 7) (.t 9) }]
def c15_r2 : List AI := [{ dst := some 4, op := .asg (.c .bool false) }]
def c15_r3 : List AI := [{ dst := some 5, op := .asg (.c Tn192 0) }]
def c15_r4 : List AI := [{ dst := some 11, op := .mv (.t 5) },
  { dst := some 12, op := .mv (.t 0) },
  { dst := some 13, op := .lenL (.t 12) },
  { dst := some 14, op := .bin .lss (.t 11) (.t 13) }]
def c15_r6 : List DI := [{ ai := { dst := some 17, op := .mv (.t 0) }, hide := [18, 21, 22, 23, 24], wr := [17], pre := [] },
  { ai := { dst := some 18, op := .mv (.t 5) }, hide := [17, 21, 22, 23, 24], wr := [18], pre := [] },
  { ai := { dst := some 19, op := .indexAddr Tn1914 (.t 17) (.t 18) }, hide := [21, 22, 23, 24], wr := [19], pre := [0, 1] },
  { ai := { dst := some 20, op := .load Tn1914 (.t 19) }, hide := [21, 22, 23, 24], wr := [20], pre := [0, 1, 2] },
  { ai := { dst := some 21, op := .mv (.t 1) }, hide := [17, 18, 19, 20, 22], wr := [21], pre := [] },
  { ai := { dst := some 22, op := .mv (.t 5) }, hide := [17, 18, 19, 20, 21], wr := [22], pre := [] },
  { ai := { dst := some 23, op := .indexAddr Tn1914 (.t 21) (.t 22) }, hide := [17, 18, 19, 20], wr := [23], pre := [4, 5] },
  { ai := { dst := some 24, op := .load Tn1914 (.t 23) }, hide := [17, 18, 19, 20], wr := [24], pre := [4, 5, 6] },
  { ai := { dst := some 25, op := .eqT true Tn1914 (.t 20) (.t 24) }, hide := [], wr := [25], pre := [0, 1, 2, 3, 4, 5, 6, 7] }]
def c15_r7 : List AI := [{ dst := some 4, op := .asg (.c .bool false) }]
def c15_r5 : List AI := [{ dst := some 15, op := .mv (.t 5) },
  { dst := some 16, op := .bin .add (.t 15) (.c Tn192 1) },
  { dst := some 5, op := .asg (.t 16) }]
def c15_r8 : List AI := [{ dst := some 4, op := .asg (.c .bool true) }]
def c15 : AC := (.seq (.reg [0, 1] c15_r0) (.seq (.seq (.reg [0, 1] c15_r1) (.cond (.t 10) (.seq (.reg [] c15_r2) .ret) .skip)) (.seq (.seq (.reg [0, 1] c15_r3) (.block 0 (.loop [0, 1, 5] (.seq (.seq (.reg [0, 1, 5] c15_r4) (.cond (.t 14) .skip (.exit 0))) (.seq (.block 1 (.seq (.draw [0, 1, 5] c15_r6) (.cond (.t 25) (.seq (.reg [] c15_r7) .ret) .skip))) (.reg [0, 1, 5] c15_r5)))))) (.seq (.reg [] c15_r8) .ret))))
def d15 : FD := { nargs := 2, body := c15, res := [.t 4] }
-- anceps/ancepsref11.Same
def c29_r0 : List AI := [{ dst := some 4, op := .asg (.c .bool false) }]
def c29_r1 : List AI := [{ dst := some 6, op := .mv (.t 0) },
  { dst := some 7, op := .lenL (.t 6) },
  { dst := some 8, op := .mv (.t 1) },
  { dst := some 9, op := .lenL (.t 8) },
  { dst := some 10, op := .bin .neq (.t 7) (.t 9) }]
def c29_r2 : List AI := [{ dst := some 4, op := .asg (.c .bool false) }]
def c29_r3 : List AI := [{ dst := some 5, op := .asg (.c Tn192 0) }]
def c29_r4 : List AI := [{ dst := some 11, op := .mv (.t 5) },
  { dst := some 12, op := .mv (.t 0) },
  { dst := some 13, op := .lenL (.t 12) },
  { dst := some 14, op := .bin .lss (.t 11) (.t 13) }]
def c29_r6 : List DI := [{ ai := { dst := some 17, op := .mv (.t 0) }, hide := [18, 21, 22, 23, 24], wr := [17], pre := [] },
  { ai := { dst := some 18, op := .mv (.t 5) }, hide := [17, 21, 22, 23, 24], wr := [18], pre := [] },
  { ai := { dst := some 19, op := .indexAddr Tn1915 (.t 17) (.t 18) }, hide := [21, 22, 23, 24], wr := [19], pre := [0, 1] },
  { ai := { dst := some 20, op := .load Tn1915 (.t 19) }, hide := [21, 22, 23, 24], wr := [20], pre := [0, 1, 2] },
  { ai := { dst := some 21, op := .mv (.t 1) }, hide := [17, 18, 19, 20, 22], wr := [21], pre := [] },
  { ai := { dst := some 22, op := .mv (.t 5) }, hide := [17, 18, 19, 20, 21], wr := [22], pre := [] },
  { ai := { dst := some 23, op := .indexAddr Tn1915 (.t 21) (.t 22) }, hide := [17, 18, 19, 20], wr := [23], pre := [4, 5] },
  { ai := { dst := some 24, op := .load Tn1915 (.t 23) }, hide := [17, 18, 19, 20], wr := [24], pre := [4, 5, 6] },
  { ai := { dst := some 25, op := .call 48 [(.t 20), (.t 24)] }, hide := [], wr := [25], pre := [0, 1, 2, 3, 4, 5, 6, 7] },
  { ai := { dst := some 26, op := .bin .neq (.t 25) (.c Tn192 0) }, hide := [], wr := [26], pre := [0, 1, 2, 3, 4, 5, 6, 7, 8] }]
def c29_r7 : List AI := [{ dst := some 4, op := .asg (.c .bool false) }]
def c29_r5 : List AI := [{ dst := some 15, op := .mv (.t 5) },
  { dst := some 16, op := .bin .add (.t 15) (.c Tn192 1) },
  { dst := some 5, op := .asg (.t 16) }]
def c29_r8 : List AI := [{ dst := some 4, op := .asg (.c .bool true) }]
def c29 : AC := (.seq (.reg [0, 1] c29_r0) (.seq (.seq (.reg [0, 1] c29_r1) (.cond (.t 10) (.seq (.reg [] c29_r2) .ret) .skip)) (.seq (.seq (.reg [0, 1] c29_r3) (.block 0 (.loop [0, 1, 5] (.seq (.seq (.reg [0, 1, 5] c29_r4) (.cond (.t 14) .skip (.exit 0))) (.seq (.block 1 (.seq (.draw [0, 1, 5] c29_r6) (.cond (.t 26) (.seq (.reg [] c29_r7) .ret) .skip))) (.reg [0, 1, 5] c29_r5)))))) (.seq (.reg [] c29_r8) .ret))))
def d29 : FD := { nargs := 2, body := c29, res := [.t 4] }
-- anceps/ancepsref11.Parse
def c31_r0 : List AI := [{ dst := some 2, op := .asg (.nil 55 Tn1915) },
  { dst := some 3, op := .asg (.c Tn192 0) }]
def c31_r1 : List AI := [{ dst := some 9, op := .mv (.t 0) },
  { dst := some 10, op := .lenS (.t 9) },
  { dst := some 11, op := .bin .gtr (.t 10) (.c Tn192 4000) }]
def c31_r2 : List AI := [{ dst := some 2, op := .asg (.nil 55 Tn1915) },
  { dst := some 3, op := .asg (.c Tn192 3) }]
def c31_r3 : List AI := [{ dst := some 12, op := .mv (.t 0) },
  { dst := some 13, op := .bin .eql (.t 12) (.c .str []) }]
def c31_r4 : List AI := [{ dst := some 2, op := .asg (.nil 55 Tn1915) },
  { dst := some 3, op := .asg (.c Tn192 0) }]
def c31_r5 : List AI := [{ dst := some 4, op := .asg (.nil 55 Tn1915) }]
def c31_r6 : List AI := [{ dst := some 14, op := .mv (.t 0) },
  { dst := some 15, op := .call 50 [(.t 14)] },
  { dst := some 5, op := .asg (.t 15) }]
def c31_r7 : List AI := [{ dst := some 6, op := .asg (.c Tn192 0) }]
def c31_r8 : List AI := [{ dst := some 16, op := .mv (.t 6) },
  { dst := some 17, op := .mv (.t 5) },
  { dst := some 18, op := .lenL (.t 17) },
  { dst := some 19, op := .bin .lss (.t 16) (.t 18) }]
def c31_r10 : List AI := [{ dst := some 23, op := .mv (.t 5) },
  { dst := some 24, op := .mv (.t 6) },
  { dst := some 25, op := .indexAddr .str (.t 23) (.t 24) },
  { dst := some 26, op := .load .str (.t 25) },
  { dst := some 27, op := .call 51 [(.t 26)] },
  { dst := some 22, op := .mv (.t 27) },
  { dst := some 28, op := .extract 22 0 },
  { dst := some 29, op := .extract 22 1 },
  { dst := some 7, op := .alloc Tn1915 .no },
  { dst := none, op := .store Tn1915 (.t 7) (.t 28) },
  { dst := some 8, op := .asg (.t 29) }]
def c31_r11 : List AI := [{ dst := some 30, op := .mv (.t 8) },
  { dst := some 31, op := .un .not (.t 30) }]
def c31_r12 : List AI := [{ dst := some 2, op := .asg (.nil 55 Tn1915) },
  { dst := some 3, op := .asg (.c Tn192 2) }]
def c31_r13 : List AI := [{ dst := some 32, op := .mv (.t 4) },
  { dst := some 33, op := .load Tn1915 (.t 7) },
  { dst := some 34, op := .buildSlice 55 Tn1915 [(.t 33)] },
  { dst := some 35, op := .append 55 Tn1915 4398046511104 (.t 32) (.t 34) },
  { dst := some 4, op := .asg (.t 35) }]
def c31_r9 : List AI := [{ dst := some 20, op := .mv (.t 6) },
  { dst := some 21, op := .bin .add (.t 20) (.c Tn192 1) },
  { dst := some 6, op := .asg (.t 21) }]
def c31_r14 : List AI := [{ dst := some 36, op := .mv (.t 4) },
  { dst := some 37, op := .lenL (.t 36) },
  { dst := some 38, op := .bin .gtr (.t 37) (.c Tn192 200) }]
def c31_r15 : List AI := [{ dst := some 2, op := .asg (.nil 55 Tn1915) },
  { dst := some 3, op := .asg (.c Tn192 2) }]
def c31_r16 : List AI := [{ dst := some 39, op := .mv (.t 4) },
  { dst := some 2, op := .asg (.t 39) },
  { dst := some 3, op := .asg (.c Tn192 0) }]
def c31 : AC := (.seq (.reg [0] c31_r0) (.seq (.seq (.reg [0] c31_r1) (.cond (.t 11) (.seq (.reg [] c31_r2) .ret) .skip)) (.seq (.seq (.reg [0] c31_r3) (.cond (.t 13) (.seq (.reg [] c31_r4) .ret) .skip)) (.seq (.reg [0] c31_r5) (.seq (.reg [0, 4, 35] c31_r6) (.seq (.seq (.reg [4, 5, 15, 35] c31_r7) (.block 0 (.loop [4, 5, 6, 15, 35] (.seq (.seq (.reg [4, 5, 6, 15, 35] c31_r8) (.cond (.t 19) .skip (.exit 0))) (.seq (.block 1 (.seq (.reg [4, 5, 6, 15, 35] c31_r10) (.seq (.seq (.reg [4, 5, 6, 7, 8, 15, 28, 35] c31_r11) (.cond (.t 31) (.seq (.reg [] c31_r12) .ret) .skip)) (.reg [4, 5, 6, 7, 15, 28, 35] c31_r13)))) (.reg [4, 5, 6, 15, 35] c31_r9)))))) (.seq (.seq (.reg [4, 35] c31_r14) (.cond (.t 38) (.seq (.reg [] c31_r15) .ret) .skip)) (.seq (.reg [4, 35] c31_r16) .ret))))))))
def d31 : FD := { nargs := 1, body := c31, res := [.t 2, .t 3] }
-- anceps/ancepsref17.Classical
def c32_r0 : List AI := [{ dst := some 0, op := .alloc Tn1923 (.pair .no (.pair (.own true 66 .no) .no)) }]
def c32_r1 : List AI := [{ dst := some 5, op := .call 52 [(.c .str [108, 105, 99, 101, 110, 99, 101, 32, 99, 108, 97, 115, 115, 105, 99, 97, 108, 32, 123, 10, 32, 32, 109, 117, 116, 101, 32, 49, 59, 10, 32, 32, 98, 114, 101, 118, 105, 115, 32, 49, 59, 10, 32, 32, 105, 110, 100, 105, 102, 102, 101, 114, 101, 110, 116, 32, 49, 59, 10, 32, 32, 115, 121, 110, 105, 122, 101, 115, 105, 115, 32, 52, 59, 10, 32, 32, 101, 108, 105, 115, 105, 111, 110, 32, 48, 59, 10, 32, 32, 101, 99, 116, 104, 108, 105, 112, 115, 105, 115, 32, 48, 59, 10, 32, 32, 112, 114, 111, 100, 101, 108, 105, 115, 105, 111, 110, 32, 48, 32, 105, 110, 32, 34, 101, 115, 34, 44, 32, 34, 101, 115, 116, 34, 59, 10, 32, 32, 104, 105, 97, 116, 117, 115, 32, 54, 59, 10, 32, 32, 99, 111, 114, 114, 101, 112, 116, 105, 111, 110, 32, 53, 59, 10, 32, 32, 108, 101, 110, 103, 116, 104, 101, 110, 32, 56, 59, 10, 125, 10])] },
  { dst := some 4, op := .mv (.t 5) },
  { dst := some 6, op := .extract 4 0 },
  { dst := some 7, op := .extract 4 1 },
  { dst := some 8, op := .extract 4 2 },
  { dst := some 1, op := .alloc Tn1923 (.pair .no (.pair (.own true 66 .no) .no)) },
  { dst := none, op := .store Tn1923 (.t 1) (.t 6) },
  { dst := some 2, op := .asg (.t 7) },
  { dst := some 3, op := .asg (.t 8) }]
def c32_r2 : List AI := [{ dst := some 9, op := .load Tn1923 (.t 1) },
  { dst := none, op := .store Tn1923 (.t 0) (.t 9) }]
def c32 : AC := (.seq (.reg [] c32_r0) (.seq (.reg [0, 1, 6, 9] c32_r1) (.seq (.reg [0, 1, 6, 9] c32_r2) .ret)))
def d32 : FD := { nargs := 0, body := c32, res := [.cell 0 Tn1923] }
-- anceps/licence.Valid
def c35_r0 : List AI := [{ dst := some 1, op := .box Tn1923 (.t 0) },
  { dst := some 2, op := .asg (.c Tn192 0) }]
def c35_r1 : List AI := [{ dst := some 7, op := .fieldAddr Tn1923 [.l] (.t 1) },
  { dst := some 8, op := .load .str (.t 7) },
  { dst := some 9, op := .call 53 [(.t 8)] },
  { dst := some 10, op := .un .not (.t 9) },
  { dst := some 6, op := .asg (.t 10) }]
def c35_r2 : List AI := [{ dst := some 2, op := .asg (.c Tn192 2) }]
def c35_r3 : List AI := [{ dst := some 12, op := .fieldAddr Tn1923 [.r, .l] (.t 1) },
  { dst := some 13, op := .load Tn1919 (.t 12) },
  { dst := some 14, op := .lenL (.t 13) },
  { dst := some 15, op := .bin .gtr (.t 14) (.c Tn192 30) },
  { dst := some 11, op := .asg (.t 15) }]
def c35_r4 : List AI := [{ dst := some 2, op := .asg (.c Tn192 3) }]
def c35_r5 : List AI := [{ dst := some 16, op := .fieldAddr Tn1923 [.r, .l] (.t 1) },
  { dst := some 17, op := .load Tn1919 (.t 16) },
  { dst := some 18, op := .lenL (.t 17) },
  { dst := some 19, op := .mv (.c Tn192 0) }]
def c35_r6 : List AI := [{ dst := some 20, op := .bin .lss (.t 19) (.t 18) }]
def c35_r7 : List AI := [{ dst := some 21, op := .indexAddr Tn1917 (.t 17) (.t 19) },
  { dst := some 22, op := .load Tn1917 (.t 21) },
  { dst := some 4, op := .alloc Tn1917 (.pair .no (.pair .no (.pair (.own true 9 .no) .no))) },
  { dst := none, op := .store Tn1917 (.t 4) (.t 22) }]
def c35_r8 : List AI := [{ dst := some 23, op := .load Tn1917 (.t 4) },
  { dst := some 24, op := .call 54 [(.t 23)] },
  { dst := some 5, op := .asg (.t 24) }]
def c35_r9 : List AI := [{ dst := some 25, op := .mv (.t 5) },
  { dst := some 26, op := .bin .neq (.t 25) (.c Tn192 0) }]
def c35_r10 : List AI := [{ dst := some 27, op := .mv (.t 5) },
  { dst := some 2, op := .asg (.t 27) }]
def c35_r11 : List AI := [{ dst := some 28, op := .bin .add (.t 19) (.c Tn192 1) },
  { dst := some 19, op := .mv (.t 28) }]
def c35_r12 : List AI := [{ dst := some 2, op := .asg (.c Tn192 0) }]
def c35 : AC := (.seq (.reg [0] c35_r0) (.seq (.block 0 (.seq (.reg [1] c35_r1) (.cond (.t 6) (.seq (.reg [] c35_r2) .ret) (.seq (.reg [1] c35_r3) (.cond (.t 11) (.seq (.reg [] c35_r4) .ret) .skip))))) (.seq (.seq (.reg [1] c35_r5) (.block 1 (.loop [1, 16, 17, 18, 19] (.seq (.reg [1, 16, 17, 18, 19] c35_r6) (.seq (.cond (.t 20) .skip (.exit 1)) (.seq (.block 2 (.seq (.reg [1, 16, 17, 18, 19] c35_r7) (.seq (.reg [1, 4, 16, 17, 18, 19, 21, 22] c35_r8) (.seq (.reg [1, 5, 16, 17, 18, 19] c35_r9) (.cond (.t 26) (.seq (.reg [5] c35_r10) .ret) .skip))))) (.reg [1, 16, 17, 18, 19] c35_r11))))))) (.seq (.reg [] c35_r12) .ret))))
def d35 : FD := { nargs := 1, body := c35, res := [.t 2] }
-- anceps/licence.Cost
def c38_r0 : List AI := [{ dst := some 3, op := .box Tn1923 (.t 0) },
  { dst := some 6, op := .asg (.c Tn192 0) },
  { dst := some 7, op := .asg (.c .bool false) }]
def c38_r1 : List AI := [{ dst := some 12, op := .mv (.t 2) },
  { dst := some 13, op := .call 56 [(.t 12)] },
  { dst := some 2, op := .asg (.t 13) }]
def c38_r2 : List AI := [{ dst := some 8, op := .asg (.c Tn192 0) },
  { dst := some 9, op := .asg (.c .bool false) }]
def c38_r3 : List AI := [{ dst := some 14, op := .fieldAddr Tn1923 [.r, .l] (.t 3) },
  { dst := some 15, op := .load Tn1919 (.t 14) },
  { dst := some 16, op := .lenL (.t 15) },
  { dst := some 17, op := .mv (.c Tn192 0) }]
def c38_r4 : List AI := [{ dst := some 18, op := .bin .lss (.t 17) (.t 16) }]
def c38_r5 : List AI := [{ dst := some 19, op := .indexAddr Tn1917 (.t 15) (.t 17) },
  { dst := some 20, op := .load Tn1917 (.t 19) },
  { dst := some 11, op := .alloc Tn1917 (.pair .no (.pair .no (.pair (.own true 9 .no) .no))) },
  { dst := none, op := .store Tn1917 (.t 11) (.t 20) }]
def c38_r6 : List AI := [{ dst := some 21, op := .fieldAddr Tn1917 [.l] (.t 11) },
  { dst := some 22, op := .load Tn192 (.t 21) },
  { dst := some 23, op := .mv (.t 1) },
  { dst := some 24, op := .bin .eql (.t 22) (.t 23) },
  { dst := some 25, op := .mv (.t 24) },
  { dst := some 26, op := .load Tn1917 (.t 11), guard := some (25, true) },
  { dst := some 27, op := .mv (.t 2), guard := some (25, true) },
  { dst := some 28, op := .call 57 [(.t 26), (.t 27)], guard := some (25, true) },
  { dst := some 29, op := .pick (.t 25) (.t 28) (.c .bool false) },
  { dst := some 30, op := .mv (.t 29) },
  { dst := some 31, op := .mv (.t 9), guard := some (30, true) },
  { dst := some 32, op := .un .not (.t 31), guard := some (30, true) },
  { dst := some 33, op := .mv (.t 32), guard := some (30, true) },
  { dst := some 34, op := .fieldAddr Tn1917 [.r, .l] (.t 11), guard := some (33, false) },
  { dst := some 35, op := .load Tn192 (.t 34), guard := some (33, false) },
  { dst := some 36, op := .mv (.t 8), guard := some (33, false) },
  { dst := some 37, op := .bin .lss (.t 35) (.t 36), guard := some (33, false) },
  { dst := some 38, op := .pick (.t 33) (.c .bool true) (.t 37), guard := some (30, true) },
  { dst := some 39, op := .pick (.t 30) (.t 38) (.c .bool false) }]
def c38_r7 : List AI := [{ dst := some 40, op := .fieldAddr Tn1917 [.r, .l] (.t 11) },
  { dst := some 41, op := .load Tn192 (.t 40) },
  { dst := some 8, op := .asg (.t 41) },
  { dst := some 9, op := .asg (.c .bool true) }]
def c38_r8 : List AI := [{ dst := some 42, op := .bin .add (.t 17) (.c Tn192 1) },
  { dst := some 17, op := .mv (.t 42) }]
def c38_r9 : List AI := [{ dst := some 43, op := .mv (.t 8) },
  { dst := some 44, op := .mv (.t 9) },
  { dst := some 6, op := .asg (.t 43) },
  { dst := some 7, op := .asg (.t 44) }]
def c38 : AC := (.seq (.reg [0, 1, 2] c38_r0) (.seq (.reg [1, 2, 3] c38_r1) (.seq (.reg [1, 2, 3] c38_r2) (.seq (.seq (.reg [1, 2, 3, 8, 9] c38_r3) (.block 0 (.loop [1, 2, 3, 8, 9, 14, 15, 16, 17] (.seq (.reg [1, 2, 3, 8, 9, 14, 15, 16, 17] c38_r4) (.seq (.cond (.t 18) .skip (.exit 0)) (.seq (.block 1 (.seq (.reg [1, 2, 3, 8, 9, 14, 15, 16, 17] c38_r5) (.seq (.reg [1, 2, 3, 8, 9, 11, 14, 15, 16, 17, 19, 20] c38_r6) (.cond (.t 39) (.reg [1, 2, 3, 11, 14, 15, 16, 17, 19, 20] c38_r7) .skip)))) (.reg [1, 2, 3, 8, 9, 14, 15, 16, 17] c38_r8))))))) (.seq (.reg [8, 9] c38_r9) .ret)))))
def d38 : FD := { nargs := 3, body := c38, res := [.t 6, .t 7] }
-- anceps/junction.needed
def c39_r0 : List AI := [{ dst := some 4, op := .asg (.c Tn192 0) }]
def c39_r1 : List AI := [{ dst := some 5, op := .mv (.t 0) }]
def c39_r2 : List AI := [{ dst := some 7, op := .bin .eql (.t 5) (.c Tn192 2) },
  { dst := some 6, op := .asg (.t 7) }]
def c39_r3 : List AI := [{ dst := some 4, op := .asg (.c Tn192 10) }]
def c39_r4 : List AI := [{ dst := some 9, op := .bin .eql (.t 5) (.c Tn192 3) },
  { dst := some 8, op := .asg (.t 9) }]
def c39_r5 : List AI := [{ dst := some 4, op := .asg (.c Tn192 11) }]
def c39_r6 : List AI := [{ dst := some 11, op := .bin .eql (.t 5) (.c Tn192 4) },
  { dst := some 10, op := .asg (.t 11) }]
def c39_r7 : List AI := [{ dst := some 4, op := .asg (.c Tn192 12) }]
def c39_r8 : List AI := [{ dst := some 12, op := .mv (.t 1) },
  { dst := some 13, op := .bin .eql (.t 12) (.c Tn192 2) }]
def c39_r9 : List AI := [{ dst := some 4, op := .asg (.c Tn192 9) }]
def c39_r10 : List AI := [{ dst := some 4, op := .asg (.c Tn192 8) }]
def c39 : AC := (.seq (.reg [0, 1] c39_r0) (.seq (.seq (.reg [0, 1] c39_r1) (.block 0 (.seq (.reg [1, 5] c39_r2) (.cond (.t 6) (.seq (.reg [] c39_r3) .ret) (.seq (.reg [1, 5] c39_r4) (.cond (.t 8) (.seq (.reg [] c39_r5) .ret) (.seq (.reg [1, 5] c39_r6) (.cond (.t 10) (.seq (.reg [] c39_r7) .ret) .skip)))))))) (.seq (.seq (.reg [1] c39_r8) (.cond (.t 13) (.seq (.reg [] c39_r9) .ret) .skip)) (.seq (.reg [] c39_r10) .ret))))
def d39 : FD := { nargs := 2, body := c39, res := [.t 4] }
-- anceps/ancepsref05.IsName
def c40_r0 : List AI := [{ dst := some 2, op := .asg (.c .bool false) }]
def c40_r1 : List AI := [{ dst := some 3, op := .mv (.t 0) },
  { dst := some 4, op := .bin .neq (.t 3) (.c .str []) },
  { dst := some 5, op := .mv (.t 4) },
  { dst := some 6, op := .mv (.t 0), guard := some (5, true) },
  { dst := some 7, op := .lenS (.t 6), guard := some (5, true) },
  { dst := some 8, op := .bin .leq (.t 7) (.c Tn192 20), guard := some (5, true) },
  { dst := some 9, op := .pick (.t 5) (.t 8) (.c .bool false) },
  { dst := some 10, op := .mv (.t 9) },
  { dst := some 11, op := .mv (.t 0), guard := some (10, true) },
  { dst := some 12, op := .call 58 [(.t 11)], guard := some (10, true) },
  { dst := some 13, op := .mv (.t 0), guard := some (10, true) },
  { dst := some 14, op := .lenS (.t 13), guard := some (10, true) },
  { dst := some 15, op := .bin .eql (.t 12) (.t 14), guard := some (10, true) },
  { dst := some 16, op := .pick (.t 10) (.t 15) (.c .bool false) },
  { dst := some 2, op := .asg (.t 16) }]
def c40 : AC := (.seq (.reg [0] c40_r0) (.seq (.reg [0] c40_r1) .ret))
def d40 : FD := { nargs := 1, body := c40, res := [.t 2] }
-- anceps/ancepsref17.rule
def c41_r0 : List AI := [{ dst := some 1, op := .box Tn1917 (.t 0) },
  { dst := some 2, op := .asg (.c Tn192 0) }]
def c41_r1 : List AI := [{ dst := some 5, op := .fieldAddr Tn1917 [.l] (.t 1) },
  { dst := some 6, op := .load Tn192 (.t 5) },
  { dst := some 7, op := .bin .lss (.t 6) (.c Tn192 1) },
  { dst := some 8, op := .mv (.t 7) },
  { dst := some 9, op := .fieldAddr Tn1917 [.l] (.t 1), guard := some (8, false) },
  { dst := some 10, op := .load Tn192 (.t 9), guard := some (8, false) },
  { dst := some 11, op := .bin .gtr (.t 10) (.c Tn192 12), guard := some (8, false) },
  { dst := some 12, op := .pick (.t 8) (.c .bool true) (.t 11) },
  { dst := some 13, op := .mv (.t 12) },
  { dst := some 14, op := .fieldAddr Tn1917 [.r, .l] (.t 1), guard := some (13, false) },
  { dst := some 15, op := .load Tn192 (.t 14), guard := some (13, false) },
  { dst := some 16, op := .bin .lss (.t 15) (.c Tn192 0), guard := some (13, false) },
  { dst := some 17, op := .pick (.t 13) (.c .bool true) (.t 16) },
  { dst := some 18, op := .mv (.t 17) },
  { dst := some 19, op := .fieldAddr Tn1917 [.r, .l] (.t 1), guard := some (18, false) },
  { dst := some 20, op := .load Tn192 (.t 19), guard := some (18, false) },
  { dst := some 21, op := .bin .gtr (.t 20) (.c Tn192 999), guard := some (18, false) },
  { dst := some 22, op := .pick (.t 18) (.c .bool true) (.t 21) }]
def c41_r2 : List AI := [{ dst := some 2, op := .asg (.c Tn192 6) }]
def c41_r3 : List AI := [{ dst := some 23, op := .fieldAddr Tn1917 [.r, .r, .l] (.t 1) },
  { dst := some 24, op := .load Tn191 (.t 23) },
  { dst := some 25, op := .lenL (.t 24) },
  { dst := some 26, op := .bin .gtr (.t 25) (.c Tn192 20) }]
def c41_r4 : List AI := [{ dst := some 2, op := .asg (.c Tn192 3) }]
def c41_r5 : List AI := [{ dst := some 3, op := .asg (.c Tn192 0) }]
def c41_r6 : List AI := [{ dst := some 27, op := .mv (.t 3) },
  { dst := some 28, op := .fieldAddr Tn1917 [.r, .r, .l] (.t 1) },
  { dst := some 29, op := .load Tn191 (.t 28) },
  { dst := some 30, op := .lenL (.t 29) },
  { dst := some 31, op := .bin .lss (.t 27) (.t 30) }]
def c41_r8 : List AI := [{ dst := some 34, op := .fieldAddr Tn1917 [.r, .r, .l] (.t 1) },
  { dst := some 35, op := .load Tn191 (.t 34) },
  { dst := some 36, op := .mv (.t 3) },
  { dst := some 37, op := .indexAddr .str (.t 35) (.t 36) },
  { dst := some 38, op := .load .str (.t 37) },
  { dst := some 39, op := .call 59 [(.t 38)] },
  { dst := some 4, op := .asg (.t 39) }]
def c41_r9 : List AI := [{ dst := some 40, op := .mv (.t 4) },
  { dst := some 41, op := .bin .neq (.t 40) (.c Tn192 0) }]
def c41_r10 : List AI := [{ dst := some 42, op := .mv (.t 4) },
  { dst := some 2, op := .asg (.t 42) }]
def c41_r11 : List DI := [{ ai := { dst := some 43, op := .fieldAddr Tn1917 [.r, .r, .l] (.t 1) }, hide := [45, 47, 48, 49, 50, 51], wr := [43], pre := [] },
  { ai := { dst := some 44, op := .load Tn191 (.t 43) }, hide := [45, 47, 48, 49, 50, 51], wr := [44], pre := [0] },
  { ai := { dst := some 45, op := .mv (.t 3) }, hide := [43, 44, 47, 48, 49, 50, 51], wr := [45], pre := [] },
  { ai := { dst := some 46, op := .sliceL .str (.t 44) none (some (.t 45)) none }, hide := [47, 48, 49, 50, 51], wr := [46], pre := [0, 1, 2] },
  { ai := { dst := some 47, op := .fieldAddr Tn1917 [.r, .r, .l] (.t 1) }, hide := [43, 44, 45, 46, 49], wr := [47], pre := [] },
  { ai := { dst := some 48, op := .load Tn191 (.t 47) }, hide := [43, 44, 45, 46, 49], wr := [48], pre := [4] },
  { ai := { dst := some 49, op := .mv (.t 3) }, hide := [43, 44, 45, 46, 47, 48], wr := [49], pre := [] },
  { ai := { dst := some 50, op := .indexAddr .str (.t 48) (.t 49) }, hide := [43, 44, 45, 46], wr := [50], pre := [4, 5, 6] },
  { ai := { dst := some 51, op := .load .str (.t 50) }, hide := [43, 44, 45, 46], wr := [51], pre := [4, 5, 6, 7] },
  { ai := { dst := some 52, op := .call 60 [(.t 46), (.t 51)] }, hide := [], wr := [52], pre := [0, 1, 2, 3, 4, 5, 6, 7, 8] }]
def c41_r12 : List AI := [{ dst := some 2, op := .asg (.c Tn192 5) }]
def c41_r7 : List AI := [{ dst := some 32, op := .mv (.t 3) },
  { dst := some 33, op := .bin .add (.t 32) (.c Tn192 1) },
  { dst := some 3, op := .asg (.t 33) }]
def c41_r13 : List AI := [{ dst := some 2, op := .asg (.c Tn192 0) }]
def c41 : AC := (.seq (.reg [0] c41_r0) (.seq (.seq (.reg [1] c41_r1) (.cond (.t 22) (.seq (.reg [] c41_r2) .ret) .skip)) (.seq (.seq (.reg [1] c41_r3) (.cond (.t 26) (.seq (.reg [] c41_r4) .ret) .skip)) (.seq (.seq (.reg [1] c41_r5) (.block 0 (.loop [1, 3] (.seq (.seq (.reg [1, 3] c41_r6) (.cond (.t 31) .skip (.exit 0))) (.seq (.block 1 (.seq (.seq (.reg [1, 3] c41_r8) (.seq (.reg [1, 3, 4] c41_r9) (.cond (.t 41) (.seq (.reg [4] c41_r10) .ret) .skip))) (.seq (.draw [1, 3] c41_r11) (.cond (.t 52) (.seq (.reg [] c41_r12) .ret) .skip)))) (.reg [1, 3] c41_r7)))))) (.seq (.reg [] c41_r13) .ret)))))
def d41 : FD := { nargs := 1, body := c41, res := [.t 2] }
-- anceps/ancepsref11.Compare
def c48_r0 : List AI := [{ dst := some 2, op := .box Tn1915 (.t 0) },
  { dst := some 3, op := .box Tn1915 (.t 1) },
  { dst := some 4, op := .asg (.c Tn192 0) }]
def c48_r1 : List AI := [{ dst := some 7, op := .fieldAddr Tn1915 [.l] (.t 2) },
  { dst := some 8, op := .load Tn192 (.t 7) },
  { dst := some 9, op := .fieldAddr Tn1915 [.l] (.t 3) },
  { dst := some 10, op := .load Tn192 (.t 9) },
  { dst := some 11, op := .call 64 [(.t 8), (.t 10)] },
  { dst := some 5, op := .asg (.t 11) }]
def c48_r2 : List AI := [{ dst := some 12, op := .mv (.t 5) },
  { dst := some 13, op := .bin .neq (.t 12) (.c Tn192 0) }]
def c48_r3 : List AI := [{ dst := some 14, op := .mv (.t 5) },
  { dst := some 4, op := .asg (.t 14) }]
def c48_r4 : List AI := [{ dst := some 15, op := .fieldAddr Tn1915 [.r, .l] (.t 2) },
  { dst := some 16, op := .load Tn192 (.t 15) },
  { dst := some 17, op := .fieldAddr Tn1915 [.r, .l] (.t 3) },
  { dst := some 18, op := .load Tn192 (.t 17) },
  { dst := some 19, op := .call 64 [(.t 16), (.t 18)] },
  { dst := some 6, op := .asg (.t 19) }]
def c48_r5 : List AI := [{ dst := some 20, op := .mv (.t 6) },
  { dst := some 21, op := .bin .neq (.t 20) (.c Tn192 0) }]
def c48_r6 : List AI := [{ dst := some 22, op := .mv (.t 6) },
  { dst := some 4, op := .asg (.t 22) }]
def c48_r7 : List AI := [{ dst := some 23, op := .fieldAddr Tn1915 [.r, .r, .l] (.t 2) },
  { dst := some 24, op := .load .str (.t 23) },
  { dst := some 25, op := .fieldAddr Tn1915 [.r, .r, .l] (.t 3) },
  { dst := some 26, op := .load .str (.t 25) },
  { dst := some 27, op := .bin .lss (.t 24) (.t 26) }]
def c48_r8 : List AI := [{ dst := some 4, op := .asg (.c Tn192 (-1)) }]
def c48_r9 : List AI := [{ dst := some 28, op := .fieldAddr Tn1915 [.r, .r, .l] (.t 2) },
  { dst := some 29, op := .load .str (.t 28) },
  { dst := some 30, op := .fieldAddr Tn1915 [.r, .r, .l] (.t 3) },
  { dst := some 31, op := .load .str (.t 30) },
  { dst := some 32, op := .bin .gtr (.t 29) (.t 31) }]
def c48_r10 : List AI := [{ dst := some 4, op := .asg (.c Tn192 1) }]
def c48_r11 : List AI := [{ dst := some 4, op := .asg (.c Tn192 0) }]
def c48 : AC := (.seq (.reg [0, 1] c48_r0) (.seq (.seq (.reg [2, 3] c48_r1) (.seq (.reg [2, 3, 5] c48_r2) (.cond (.t 13) (.seq (.reg [5] c48_r3) .ret) .skip))) (.seq (.seq (.reg [2, 3] c48_r4) (.seq (.reg [2, 3, 6] c48_r5) (.cond (.t 21) (.seq (.reg [6] c48_r6) .ret) .skip))) (.seq (.seq (.reg [2, 3] c48_r7) (.cond (.t 27) (.seq (.reg [] c48_r8) .ret) .skip)) (.seq (.seq (.reg [2, 3] c48_r9) (.cond (.t 32) (.seq (.reg [] c48_r10) .ret) .skip)) (.seq (.reg [] c48_r11) .ret))))))
def d48 : FD := { nargs := 2, body := c48, res := [.t 4] }
-- anceps/ancepsref11.split
def c50_r0 : List AI := [{ dst := some 2, op := .asg (.nil 9 .str) }]
def c50_r1 : List AI := [{ dst := some 5, op := .buildSlice 9 .str [(.c .str [])] },
  { dst := some 3, op := .asg (.t 5) }]
def c50_r2 : List AI := [{ dst := some 4, op := .asg (.c Tn192 0) }]
def c50_r3 : List AI := [{ dst := some 6, op := .mv (.t 4) },
  { dst := some 7, op := .mv (.t 0) },
  { dst := some 8, op := .lenS (.t 7) },
  { dst := some 9, op := .bin .lss (.t 6) (.t 8) }]
def c50_r5 : List AI := [{ dst := some 12, op := .mv (.t 0) },
  { dst := some 13, op := .mv (.t 4) },
  { dst := some 14, op := .indexS (.t 12) (.t 13) },
  { dst := some 15, op := .bin .eql (.t 14) (.c Tn190 32) }]
def c50_r6 : List AI := [{ dst := some 16, op := .mv (.t 3) },
  { dst := some 17, op := .buildSlice 9 .str [(.c .str [])] },
  { dst := some 18, op := .append 9 .str 8796093022208 (.t 16) (.t 17) },
  { dst := some 3, op := .asg (.t 18) }]
def c50_r7 : List DI := [{ ai := { dst := some 19, op := .mv (.t 3) }, hide := [20, 21, 22, 23, 24, 25, 26, 27, 28, 29, 30, 31, 32, 33, 34], wr := [19], pre := [] },
  { ai := { dst := some 20, op := .mv (.t 3) }, hide := [19, 23, 24, 25, 26, 27, 28, 29, 30, 31, 32, 33, 34], wr := [20], pre := [] },
  { ai := { dst := some 21, op := .lenL (.t 20) }, hide := [19, 23, 24, 25, 26, 27, 28, 29, 30, 31, 32, 33, 34], wr := [21], pre := [1] },
  { ai := { dst := some 22, op := .bin .sub (.t 21) (.c Tn192 1) }, hide := [19, 23, 24, 25, 26, 27, 28, 29, 30, 31, 32, 33, 34], wr := [22], pre := [1, 2] },
  { ai := { dst := some 23, op := .mv (.t 3) }, hide := [19, 20, 21, 22, 24, 25, 26, 29, 30, 31, 32, 33], wr := [23], pre := [] },
  { ai := { dst := some 24, op := .mv (.t 3) }, hide := [19, 20, 21, 22, 23, 29, 30, 31, 32, 33], wr := [24], pre := [] },
  { ai := { dst := some 25, op := .lenL (.t 24) }, hide := [19, 20, 21, 22, 23, 29, 30, 31, 32, 33], wr := [25], pre := [5] },
  { ai := { dst := some 26, op := .bin .sub (.t 25) (.c Tn192 1) }, hide := [19, 20, 21, 22, 23, 29, 30, 31, 32, 33], wr := [26], pre := [5, 6] },
  { ai := { dst := some 27, op := .indexAddr .str (.t 23) (.t 26) }, hide := [19, 20, 21, 22, 29, 30, 31, 32, 33], wr := [27], pre := [4, 5, 6, 7] },
  { ai := { dst := some 28, op := .load .str (.t 27) }, hide := [19, 20, 21, 22, 29, 30, 31, 32, 33], wr := [28], pre := [4, 5, 6, 7, 8] },
  { ai := { dst := some 29, op := .mv (.t 0) }, hide := [19, 20, 21, 22, 23, 24, 25, 26, 27, 28, 30, 31, 32], wr := [29], pre := [] },
  { ai := { dst := some 30, op := .mv (.t 4) }, hide := [19, 20, 21, 22, 23, 24, 25, 26, 27, 28, 29, 31, 32], wr := [30], pre := [] },
  { ai := { dst := some 31, op := .mv (.t 4) }, hide := [19, 20, 21, 22, 23, 24, 25, 26, 27, 28, 29, 30], wr := [31], pre := [] },
  { ai := { dst := some 32, op := .bin .add (.t 31) (.c Tn192 1) }, hide := [19, 20, 21, 22, 23, 24, 25, 26, 27, 28, 29, 30], wr := [32], pre := [12] },
  { ai := { dst := some 33, op := .sliceS (.t 29) (some (.t 30)) (some (.t 32)) }, hide := [19, 20, 21, 22, 23, 24, 25, 26, 27, 28], wr := [33], pre := [10, 11, 12, 13] },
  { ai := { dst := some 34, op := .bin .add (.t 28) (.t 33) }, hide := [19, 20, 21, 22], wr := [34], pre := [4, 5, 6, 7, 8, 9, 10, 11, 12, 13, 14] },
  { ai := { dst := some 35, op := .indexAddr .str (.t 19) (.t 22) }, hide := [], wr := [35], pre := [0, 1, 2, 3, 4, 5, 6, 7, 8, 9, 10, 11, 12, 13, 14, 15] },
  { ai := { dst := none, op := .store .str (.t 35) (.t 34) }, hide := [], wr := [3, 19, 35], pre := [0, 1, 2, 3, 4, 5, 6, 7, 8, 9, 10, 11, 12, 13, 14, 15, 16] }]
def c50_r4 : List AI := [{ dst := some 10, op := .mv (.t 4) },
  { dst := some 11, op := .bin .add (.t 10) (.c Tn192 1) },
  { dst := some 4, op := .asg (.t 11) }]
def c50_r8 : List AI := [{ dst := some 36, op := .mv (.t 3) },
  { dst := some 2, op := .asg (.t 36) }]
def c50 : AC := (.seq (.reg [0] c50_r0) (.seq (.reg [0] c50_r1) (.seq (.seq (.reg [0, 3, 5, 18] c50_r2) (.block 0 (.loop [0, 3, 4, 5, 18] (.seq (.seq (.reg [0, 3, 4, 5, 18] c50_r3) (.cond (.t 9) .skip (.exit 0))) (.seq (.block 1 (.seq (.reg [0, 3, 4, 5, 18] c50_r5) (.cond (.t 15) (.reg [0, 3, 4, 5, 18] c50_r6) (.draw [0, 3, 4, 5, 18] c50_r7)))) (.reg [0, 3, 4, 5, 18] c50_r4)))))) (.seq (.reg [3, 5, 18] c50_r8) .ret))))
def d50 : FD := { nargs := 1, body := c50, res := [.t 2] }
-- anceps/ancepsref11.one
def c51_r0 : List AI := [{ dst := some 2, op := .alloc Tn1915 .no },
  { dst := some 3, op := .asg (.c .bool false) }]
def c51_r1 : List AI := [{ dst := some 4, op := .asg (.c Tn192 0) }]
def c51_r2 : List AI := [{ dst := some 8, op := .mv (.t 4) },
  { dst := some 9, op := .mv (.t 0) },
  { dst := some 10, op := .lenS (.t 9) },
  { dst := some 11, op := .bin .lss (.t 8) (.t 10) },
  { dst := some 12, op := .mv (.t 11) },
  { dst := some 13, op := .mv (.t 0), guard := some (12, true) },
  { dst := some 14, op := .mv (.t 4), guard := some (12, true) },
  { dst := some 15, op := .indexS (.t 13) (.t 14), guard := some (12, true) },
  { dst := some 16, op := .bin .neq (.t 15) (.c Tn190 47), guard := some (12, true) },
  { dst := some 17, op := .pick (.t 12) (.t 16) (.c .bool false) }]
def c51_r3 : List AI := [{ dst := some 18, op := .mv (.t 4) },
  { dst := some 19, op := .bin .add (.t 18) (.c Tn192 1) },
  { dst := some 4, op := .asg (.t 19) }]
def c51_r4 : List AI := [{ dst := some 5, op := .asg (.c .str []) }]
def c51_r5 : List AI := [{ dst := some 20, op := .mv (.t 4) },
  { dst := some 21, op := .mv (.t 0) },
  { dst := some 22, op := .lenS (.t 21) },
  { dst := some 23, op := .bin .lss (.t 20) (.t 22) }]
def c51_r6 : List AI := [{ dst := some 24, op := .mv (.t 0) },
  { dst := some 25, op := .mv (.t 4) },
  { dst := some 26, op := .bin .add (.t 25) (.c Tn192 1) },
  { dst := some 27, op := .sliceS (.t 24) (some (.t 26)) none },
  { dst := some 5, op := .asg (.t 27) }]
def c51_r7 : List AI := [{ dst := some 28, op := .mv (.t 5) },
  { dst := some 29, op := .bin .eql (.t 28) (.c .str []) }]
def c51_r8 : List AI := [{ dst := some 30, op := .build Tn1915 [] },
  { dst := none, op := .store Tn1915 (.t 2) (.t 30) },
  { dst := some 3, op := .asg (.c .bool false) }]
def c51_r9 : List AI := [{ dst := some 31, op := .mv (.t 0) },
  { dst := some 32, op := .mv (.t 4) },
  { dst := some 33, op := .sliceS (.t 31) none (some (.t 32)) },
  { dst := some 34, op := .build Tn1915 [([.r, .r, .l], (.t 33))] },
  { dst := some 6, op := .alloc Tn1915 .no },
  { dst := none, op := .store Tn1915 (.t 6) (.t 34) }]
def c51_r10 : List AI := [{ dst := some 7, op := .asg (.c Tn192 1) }]
def c51_r11 : List AI := [{ dst := some 35, op := .mv (.t 7) },
  { dst := some 36, op := .call 65 [] },
  { dst := some 37, op := .lenS (.t 36) },
  { dst := some 38, op := .bin .lss (.t 35) (.t 37) }]
def c51_r13 : List DI := [{ ai := { dst := some 41, op := .call 65 [] }, hide := [42, 44, 45], wr := [41], pre := [] },
  { ai := { dst := some 42, op := .mv (.t 7) }, hide := [41, 44, 45], wr := [42], pre := [] },
  { ai := { dst := some 43, op := .indexS (.t 41) (.t 42) }, hide := [44, 45], wr := [43], pre := [0, 1] },
  { ai := { dst := some 44, op := .mv (.t 5) }, hide := [41, 42, 43], wr := [44], pre := [] },
  { ai := { dst := some 45, op := .indexS (.t 44) (.c Tn192 0) }, hide := [41, 42, 43], wr := [45], pre := [3] },
  { ai := { dst := some 46, op := .bin .eql (.t 43) (.t 45) }, hide := [], wr := [46], pre := [0, 1, 2, 3, 4] }]
def c51_r14 : List AI := [{ dst := some 47, op := .mv (.t 7) },
  { dst := some 48, op := .fieldAddr Tn1915 [.l] (.t 6) },
  { dst := none, op := .store Tn192 (.t 48) (.t 47) }]
def c51_r12 : List AI := [{ dst := some 39, op := .mv (.t 7) },
  { dst := some 40, op := .bin .add (.t 39) (.c Tn192 1) },
  { dst := some 7, op := .asg (.t 40) }]
def c51_r15 : List AI := [{ dst := some 49, op := .mv (.t 5) },
  { dst := some 50, op := .sliceS (.t 49) (some (.c Tn192 1)) none },
  { dst := some 5, op := .asg (.t 50) }]
def c51_r16 : List AI := [{ dst := some 51, op := .load Tn1915 (.t 6) },
  { dst := some 52, op := .call 45 [(.t 51)] },
  { dst := some 53, op := .mv (.t 52) },
  { dst := some 54, op := .mv (.t 5), guard := some (53, true) },
  { dst := some 55, op := .lenS (.t 54), guard := some (53, true) },
  { dst := some 56, op := .bin .eql (.t 55) (.c Tn192 1), guard := some (53, true) },
  { dst := some 57, op := .pick (.t 53) (.t 56) (.c .bool false) },
  { dst := some 58, op := .mv (.t 57) },
  { dst := some 59, op := .mv (.t 5), guard := some (58, true) },
  { dst := some 60, op := .indexS (.t 59) (.c Tn192 0), guard := some (58, true) },
  { dst := some 61, op := .bin .geq (.t 60) (.c Tn190 49), guard := some (58, true) },
  { dst := some 62, op := .pick (.t 58) (.t 61) (.c .bool false) },
  { dst := some 63, op := .mv (.t 62) },
  { dst := some 64, op := .mv (.t 5), guard := some (63, true) },
  { dst := some 65, op := .indexS (.t 64) (.c Tn192 0), guard := some (63, true) },
  { dst := some 66, op := .bin .leq (.t 65) (.c Tn190 51), guard := some (63, true) },
  { dst := some 67, op := .pick (.t 63) (.t 66) (.c .bool false) }]
def c51_r17 : List AI := [{ dst := some 68, op := .mv (.t 5) },
  { dst := some 69, op := .indexS (.t 68) (.c Tn192 0) },
  { dst := some 70, op := .convI .i64 (.t 69) },
  { dst := some 71, op := .bin .sub (.t 70) (.c Tn192 48) },
  { dst := some 72, op := .fieldAddr Tn1915 [.r, .l] (.t 6) },
  { dst := none, op := .store Tn192 (.t 72) (.t 71) }]
def c51_r18 : List AI := [{ dst := some 5, op := .asg (.c .str []) }]
def c51_r19 : List DI := [{ ai := { dst := some 73, op := .load Tn1915 (.t 6) }, hide := [74, 75, 76, 77, 78, 79, 80], wr := [73], pre := [] },
  { ai := { dst := some 74, op := .mv (.t 5) }, hide := [73], wr := [74], pre := [] },
  { ai := { dst := some 75, op := .bin .eql (.t 74) (.c .str []) }, hide := [73], wr := [75], pre := [1] },
  { ai := { dst := some 76, op := .mv (.t 75) }, hide := [73], wr := [76], pre := [1, 2] },
  { ai := { dst := some 77, op := .load Tn1915 (.t 6), guard := some (76, true) }, hide := [73], wr := [77], pre := [1, 2, 3] },
  { ai := { dst := some 78, op := .call 66 [(.t 77)], guard := some (76, true) }, hide := [73], wr := [78], pre := [1, 2, 3, 4] },
  { ai := { dst := some 79, op := .bin .eql (.t 78) (.c Tn192 0), guard := some (76, true) }, hide := [2, 73], wr := [79], pre := [1, 2, 3, 4, 5] },
  { ai := { dst := some 80, op := .pick (.t 76) (.t 79) (.c .bool false) }, hide := [2, 73], wr := [80], pre := [1, 2, 3, 4, 5, 6] },
  { ai := { dst := none, op := .store Tn1915 (.t 2) (.t 73) }, hide := [79, 80], wr := [2], pre := [0, 1, 2, 3, 4, 5] },
  { ai := { dst := some 3, op := .asg (.t 80) }, hide := [], wr := [3], pre := [0, 1, 2, 3, 4, 5, 6, 7, 8] }]
def c51 : AC := (.seq (.reg [0] c51_r0) (.seq (.reg [0, 2, 6, 30, 34, 73] c51_r1) (.seq (.block 0 (.loop [0, 2, 4, 6, 30, 34, 73] (.seq (.seq (.reg [0, 2, 4, 6, 30, 34, 73] c51_r2) (.cond (.t 17) .skip (.exit 0))) (.block 1 (.reg [0, 2, 4, 6, 30, 34, 73] c51_r3))))) (.seq (.reg [0, 2, 4, 6, 30, 34, 73] c51_r4) (.seq (.seq (.reg [0, 2, 4, 5, 6, 30, 34, 73] c51_r5) (.cond (.t 23) (.reg [0, 2, 4, 6, 30, 34, 73] c51_r6) .skip)) (.seq (.seq (.reg [0, 2, 4, 5, 6, 30, 34, 73] c51_r7) (.cond (.t 29) (.seq (.reg [2, 6, 30, 34, 73] c51_r8) .ret) .skip)) (.seq (.reg [0, 2, 4, 5, 6, 30, 34, 73] c51_r9) (.seq (.seq (.reg [2, 5, 6, 30, 34, 73] c51_r10) (.block 2 (.loop [2, 5, 6, 7, 30, 34, 73] (.seq (.seq (.reg [2, 5, 6, 7, 30, 34, 73] c51_r11) (.cond (.t 38) .skip (.exit 2))) (.seq (.block 3 (.seq (.draw [2, 5, 6, 7, 30, 34, 73] c51_r13) (.cond (.t 46) (.reg [2, 5, 6, 7, 30, 34, 73] c51_r14) .skip))) (.reg [2, 5, 6, 7, 30, 34, 73] c51_r12)))))) (.seq (.reg [2, 5, 6, 30, 34, 73] c51_r15) (.seq (.seq (.reg [2, 5, 6, 30, 34, 73] c51_r16) (.cond (.t 67) (.seq (.reg [2, 5, 6, 30, 34, 73] c51_r17) (.reg [2, 6, 30, 34, 73] c51_r18)) .skip)) (.seq (.draw [2, 5, 6, 30, 34, 73] c51_r19) .ret)))))))))))
def d51 : FD := { nargs := 1, body := c51, res := [.cell 2 Tn1915, .t 3] }
-- anceps/ancepsref17.Parse
def c52_r0 : List AI := [{ dst := some 2, op := .alloc Tn1923 .no },
  { dst := some 3, op := .asg (.c Tn192 0) },
  { dst := some 4, op := .asg (.c Tn192 0) }]
def c52_r1 : List AI := [{ dst := some 18, op := .mv (.t 0) },
  { dst := some 19, op := .call 67 [(.t 18)] },
  { dst := some 17, op := .mv (.t 19) },
  { dst := some 20, op := .extract 17 0 },
  { dst := some 21, op := .extract 17 1 },
  { dst := some 22, op := .extract 17 2 },
  { dst := some 5, op := .asg (.t 20) },
  { dst := some 6, op := .asg (.t 21) },
  { dst := some 7, op := .asg (.t 22) }]
def c52_r2 : List AI := [{ dst := some 23, op := .mv (.t 7) },
  { dst := some 24, op := .bin .neq (.t 23) (.c Tn192 0) }]
def c52_r3 : List AI := [{ dst := some 25, op := .buildN Tn1923 (.pair .no (.pair (.own true 66 .no) .no)) [] },
  { dst := some 26, op := .mv (.t 6) },
  { dst := some 27, op := .mv (.t 7) },
  { dst := none, op := .store Tn1923 (.t 2) (.t 25) },
  { dst := some 3, op := .asg (.t 26) },
  { dst := some 4, op := .asg (.t 27) }]
def c52_r4 : List AI := [{ dst := some 28, op := .mv (.t 5) },
  { dst := some 29, op := .call 68 [(.t 28), (.c Tn192 0), (.c Tn192 1), (.c .str [108, 105, 99, 101, 110, 99, 101])] },
  { dst := some 30, op := .un .not (.t 29) }]
def c52_r5 : List AI := [{ dst := some 31, op := .mv (.t 5) },
  { dst := some 32, op := .call 69 [(.t 31), (.c Tn192 0)] },
  { dst := some 33, op := .extract 32 0 },
  { dst := some 34, op := .extract 32 1 },
  { dst := some 35, op := .extract 32 2 },
  { dst := none, op := .store Tn1923 (.t 2) (.t 33) },
  { dst := some 3, op := .asg (.t 34) },
  { dst := some 4, op := .asg (.t 35) }]
def c52_r6 : List AI := [{ dst := some 36, op := .mv (.t 5) },
  { dst := some 37, op := .call 68 [(.t 36), (.c Tn192 1), (.c Tn192 1), (.c .str [])] },
  { dst := some 38, op := .un .not (.t 37) }]
def c52_r7 : List AI := [{ dst := some 39, op := .mv (.t 5) },
  { dst := some 40, op := .call 69 [(.t 39), (.c Tn192 1)] },
  { dst := some 41, op := .extract 40 0 },
  { dst := some 42, op := .extract 40 1 },
  { dst := some 43, op := .extract 40 2 },
  { dst := none, op := .store Tn1923 (.t 2) (.t 41) },
  { dst := some 3, op := .asg (.t 42) },
  { dst := some 4, op := .asg (.t 43) }]
def c52_r8 : List AI := [{ dst := some 44, op := .mv (.t 5) },
  { dst := some 45, op := .call 68 [(.t 44), (.c Tn192 2), (.c Tn192 4), (.c .str [123])] },
  { dst := some 46, op := .un .not (.t 45) }]
def c52_r9 : List AI := [{ dst := some 47, op := .mv (.t 5) },
  { dst := some 48, op := .call 69 [(.t 47), (.c Tn192 2)] },
  { dst := some 49, op := .extract 48 0 },
  { dst := some 50, op := .extract 48 1 },
  { dst := some 51, op := .extract 48 2 },
  { dst := none, op := .store Tn1923 (.t 2) (.t 49) },
  { dst := some 3, op := .asg (.t 50) },
  { dst := some 4, op := .asg (.t 51) }]
def c52_r10 : List AI := [{ dst := some 52, op := .mv (.t 5) },
  { dst := some 53, op := .indexAddr Tn1916 (.t 52) (.c Tn192 1) },
  { dst := some 54, op := .fieldAddr Tn1916 [.r, .l] (.t 53) },
  { dst := some 55, op := .load .str (.t 54) },
  { dst := some 56, op := .buildN Tn1923 (.pair .no (.pair (.own true 66 .no) .no)) [([.l], (.t 55))] },
  { dst := some 8, op := .alloc Tn1923 (.pair .no (.pair (.own true 66 .no) .no)) },
  { dst := none, op := .store Tn1923 (.t 8) (.t 56) }]
def c52_r11 : List AI := [{ dst := some 9, op := .asg (.nil 3 Tn192) }]
def c52_r12 : List AI := [{ dst := some 10, op := .asg (.c Tn192 3) }]
def c52_r13 : List AI := [{ dst := some 57, op := .mv (.t 5) },
  { dst := some 58, op := .mv (.t 10) },
  { dst := some 59, op := .call 68 [(.t 57), (.t 58), (.c Tn192 4), (.c .str [125])] },
  { dst := some 60, op := .un .not (.t 59) }]
def c52_r14 : List AI := [{ dst := some 62, op := .mv (.t 5) },
  { dst := some 63, op := .mv (.t 10) },
  { dst := some 64, op := .call 70 [(.t 62), (.t 63)] },
  { dst := some 61, op := .mv (.t 64) },
  { dst := some 65, op := .extract 61 0 },
  { dst := some 66, op := .extract 61 1 },
  { dst := some 67, op := .extract 61 2 },
  { dst := some 11, op := .alloc Tn1917 (.pair .no (.pair .no (.pair (.own true 9 .no) .no))) },
  { dst := none, op := .store Tn1917 (.t 11) (.t 65) },
  { dst := some 12, op := .asg (.t 66) },
  { dst := some 13, op := .asg (.t 67) }]
def c52_r15 : List AI := [{ dst := some 68, op := .mv (.t 13) },
  { dst := some 69, op := .un .not (.t 68) }]
def c52_r16 : List AI := [{ dst := some 70, op := .mv (.t 5) },
  { dst := some 71, op := .mv (.t 12) },
  { dst := some 72, op := .call 69 [(.t 70), (.t 71)] },
  { dst := some 73, op := .extract 72 0 },
  { dst := some 74, op := .extract 72 1 },
  { dst := some 75, op := .extract 72 2 },
  { dst := none, op := .store Tn1923 (.t 2) (.t 73) },
  { dst := some 3, op := .asg (.t 74) },
  { dst := some 4, op := .asg (.t 75) }]
def c52_r17 : List AI := [{ dst := some 76, op := .fieldAddr Tn1923 [.r, .l] (.t 8) },
  { dst := some 77, op := .load Tn1919 (.t 76) },
  { dst := some 78, op := .load Tn1917 (.t 11) },
  { dst := some 79, op := .buildSlice 66 Tn1917 [(.t 78)] },
  { dst := some 80, op := .append 66 Tn1917 3518437208883 (.t 77) (.t 79) },
  { dst := some 81, op := .fieldAddr Tn1923 [.r, .l] (.t 8) },
  { dst := none, op := .store Tn1919 (.t 81) (.t 80) }]
def c52_r18 : List AI := [{ dst := some 82, op := .mv (.t 9) },
  { dst := some 83, op := .mv (.t 10) },
  { dst := some 84, op := .buildSlice 3 Tn192 [(.t 83)] },
  { dst := some 85, op := .append 3 Tn192 17592186044416 (.t 82) (.t 84) },
  { dst := some 9, op := .asg (.t 85) }]
def c52_r19 : List AI := [{ dst := some 86, op := .mv (.t 12) },
  { dst := some 10, op := .asg (.t 86) }]
def c52_r20 : List AI := [{ dst := some 87, op := .mv (.t 10) },
  { dst := some 88, op := .bin .add (.t 87) (.c Tn192 1) },
  { dst := some 89, op := .mv (.t 5) },
  { dst := some 90, op := .lenL (.t 89) },
  { dst := some 91, op := .bin .neq (.t 88) (.t 90) }]
def c52_r21 : List AI := [{ dst := some 92, op := .mv (.t 5) },
  { dst := some 93, op := .mv (.t 10) },
  { dst := some 94, op := .bin .add (.t 93) (.c Tn192 1) },
  { dst := some 95, op := .call 69 [(.t 92), (.t 94)] },
  { dst := some 96, op := .extract 95 0 },
  { dst := some 97, op := .extract 95 1 },
  { dst := some 98, op := .extract 95 2 },
  { dst := none, op := .store Tn1923 (.t 2) (.t 96) },
  { dst := some 3, op := .asg (.t 97) },
  { dst := some 4, op := .asg (.t 98) }]
def c52_r22 : List AI := [{ dst := some 14, op := .asg (.c Tn192 0) }]
def c52_r23 : List AI := [{ dst := some 99, op := .mv (.t 14) },
  { dst := some 100, op := .mv (.t 9) },
  { dst := some 101, op := .lenL (.t 100) },
  { dst := some 102, op := .bin .lss (.t 99) (.t 101) }]
def c52_r25 : List AI := [{ dst := some 15, op := .asg (.c Tn192 1) }]
def c52_r26 : List AI := [{ dst := some 105, op := .mv (.t 15) },
  { dst := some 106, op := .bin .leq (.t 105) (.c Tn192 12) }]
def c52_r28 : List DI := [{ ai := { dst := some 109, op := .mv (.t 15) }, hide := [111, 112, 113, 114, 115, 116, 117, 118], wr := [109], pre := [] },
  { ai := { dst := some 110, op := .call 71 [(.t 109)] }, hide := [111, 112, 113, 114, 115, 116, 117, 118], wr := [110], pre := [0] },
  { ai := { dst := some 111, op := .mv (.t 5) }, hide := [109, 110, 112, 113, 114, 115], wr := [111], pre := [] },
  { ai := { dst := some 112, op := .mv (.t 9) }, hide := [109, 110, 111, 113], wr := [112], pre := [] },
  { ai := { dst := some 113, op := .mv (.t 14) }, hide := [109, 110, 111, 112], wr := [113], pre := [] },
  { ai := { dst := some 114, op := .indexAddr Tn192 (.t 112) (.t 113) }, hide := [109, 110, 111], wr := [114], pre := [3, 4] },
  { ai := { dst := some 115, op := .load Tn192 (.t 114) }, hide := [109, 110, 111], wr := [115], pre := [3, 4, 5] },
  { ai := { dst := some 116, op := .indexAddr Tn1916 (.t 111) (.t 115) }, hide := [109, 110], wr := [116], pre := [2, 3, 4, 5, 6] },
  { ai := { dst := some 117, op := .fieldAddr Tn1916 [.r, .l] (.t 116) }, hide := [109, 110], wr := [117], pre := [2, 3, 4, 5, 6, 7] },
  { ai := { dst := some 118, op := .load .str (.t 117) }, hide := [109, 110], wr := [118], pre := [2, 3, 4, 5, 6, 7, 8] },
  { ai := { dst := some 119, op := .bin .eql (.t 110) (.t 118) }, hide := [], wr := [119], pre := [0, 1, 2, 3, 4, 5, 6, 7, 8, 9] }]
def c52_r29 : List AI := [{ dst := some 120, op := .fieldAddr Tn1923 [.r, .l] (.t 8) },
  { dst := some 121, op := .load Tn1919 (.t 120) },
  { dst := some 122, op := .mv (.t 14) },
  { dst := some 123, op := .mv (.t 15) },
  { dst := some 124, op := .indexAddr Tn1917 (.t 121) (.t 122) },
  { dst := some 125, op := .fieldAddr Tn1917 [.l] (.t 124) },
  { dst := none, op := .store Tn192 (.t 125) (.t 123) }]
def c52_r27 : List AI := [{ dst := some 107, op := .mv (.t 15) },
  { dst := some 108, op := .bin .add (.t 107) (.c Tn192 1) },
  { dst := some 15, op := .asg (.t 108) }]
def c52_r30 : List AI := [{ dst := some 126, op := .fieldAddr Tn1923 [.r, .l] (.t 8) },
  { dst := some 127, op := .load Tn1919 (.t 126) },
  { dst := some 128, op := .mv (.t 14) },
  { dst := some 129, op := .indexAddr Tn1917 (.t 127) (.t 128) },
  { dst := some 130, op := .fieldAddr Tn1917 [.l] (.t 129) },
  { dst := some 131, op := .load Tn192 (.t 130) },
  { dst := some 132, op := .bin .eql (.t 131) (.c Tn192 0) }]
def c52_r31 : List DI := [{ ai := { dst := some 133, op := .build Tn1923 [] }, hide := [134, 135, 136, 137, 138, 139, 140, 141], wr := [133], pre := [] },
  { ai := { dst := some 134, op := .mv (.t 5) }, hide := [2, 133, 135, 136, 137, 138], wr := [134], pre := [] },
  { ai := { dst := some 135, op := .mv (.t 9) }, hide := [2, 133, 134, 136], wr := [135], pre := [] },
  { ai := { dst := some 136, op := .mv (.t 14) }, hide := [2, 133, 134, 135], wr := [136], pre := [] },
  { ai := { dst := some 137, op := .indexAddr Tn192 (.t 135) (.t 136) }, hide := [2, 133, 134], wr := [137], pre := [2, 3] },
  { ai := { dst := some 138, op := .load Tn192 (.t 137) }, hide := [2, 133, 134], wr := [138], pre := [2, 3, 4] },
  { ai := { dst := some 139, op := .indexAddr Tn1916 (.t 134) (.t 138) }, hide := [2, 133], wr := [139], pre := [1, 2, 3, 4, 5] },
  { ai := { dst := some 140, op := .fieldAddr Tn1916 [.r, .r, .l] (.t 139) }, hide := [2, 133], wr := [140], pre := [1, 2, 3, 4, 5, 6] },
  { ai := { dst := some 141, op := .load Tn192 (.t 140) }, hide := [2, 133], wr := [141], pre := [1, 2, 3, 4, 5, 6, 7] },
  { ai := { dst := none, op := .store Tn1923 (.t 2) (.t 133) }, hide := [134, 135, 136, 137, 138, 139, 140, 141], wr := [2], pre := [0] },
  { ai := { dst := some 3, op := .asg (.t 141) }, hide := [], wr := [3], pre := [0, 1, 2, 3, 4, 5, 6, 7, 8, 9] },
  { ai := { dst := some 4, op := .asg (.c Tn192 9) }, hide := [], wr := [4], pre := [0, 1, 2, 3, 4, 5, 6, 7, 8, 9, 10] }]
def c52_r24 : List AI := [{ dst := some 103, op := .mv (.t 14) },
  { dst := some 104, op := .bin .add (.t 103) (.c Tn192 1) },
  { dst := some 14, op := .asg (.t 104) }]
def c52_r32 : List AI := [{ dst := some 142, op := .load Tn1923 (.t 8) },
  { dst := some 143, op := .call 12 [(.t 142)] },
  { dst := some 16, op := .asg (.t 143) }]
def c52_r33 : List AI := [{ dst := some 144, op := .mv (.t 16) },
  { dst := some 145, op := .bin .neq (.t 144) (.c Tn192 0) }]
def c52_r34 : List AI := [{ dst := some 146, op := .buildN Tn1923 (.pair .no (.pair (.own true 66 .no) .no)) [] },
  { dst := some 147, op := .mv (.t 16) },
  { dst := none, op := .store Tn1923 (.t 2) (.t 146) },
  { dst := some 3, op := .asg (.c Tn192 0) },
  { dst := some 4, op := .asg (.t 147) }]
def c52_r35 : List AI := [{ dst := some 148, op := .load Tn1923 (.t 8) },
  { dst := none, op := .store Tn1923 (.t 2) (.t 148) },
  { dst := some 3, op := .asg (.c Tn192 0) },
  { dst := some 4, op := .asg (.c Tn192 0) }]
def c52 : AC := (.seq (.reg [0] c52_r0) (.seq (.reg [0, 2, 8, 25, 33, 41, 49, 56, 73, 96, 133, 146, 148] c52_r1) (.seq (.seq (.reg [2, 5, 6, 7, 8, 20, 25, 33, 41, 49, 56, 73, 96, 133, 146, 148] c52_r2) (.cond (.t 24) (.seq (.reg [2, 6, 7, 8, 25, 33, 41, 49, 56, 73, 96, 133, 146, 148] c52_r3) .ret) .skip)) (.seq (.seq (.reg [2, 5, 8, 20, 25, 33, 41, 49, 56, 73, 96, 133, 146, 148] c52_r4) (.cond (.t 30) (.seq (.reg [2, 5, 8, 20, 25, 33, 41, 49, 56, 73, 96, 133, 146, 148] c52_r5) .ret) .skip)) (.seq (.seq (.reg [2, 5, 8, 20, 25, 33, 41, 49, 56, 73, 96, 133, 146, 148] c52_r6) (.cond (.t 38) (.seq (.reg [2, 5, 8, 20, 25, 33, 41, 49, 56, 73, 96, 133, 146, 148] c52_r7) .ret) .skip)) (.seq (.seq (.reg [2, 5, 8, 20, 25, 33, 41, 49, 56, 73, 96, 133, 146, 148] c52_r8) (.cond (.t 46) (.seq (.reg [2, 5, 8, 20, 25, 33, 41, 49, 56, 73, 96, 133, 146, 148] c52_r9) .ret) .skip)) (.seq (.reg [2, 5, 8, 20, 25, 33, 41, 49, 56, 73, 96, 133, 146, 148] c52_r10) (.seq (.reg [2, 5, 8, 20, 25, 33, 41, 49, 56, 73, 96, 133, 146, 148] c52_r11) (.seq (.reg [2, 5, 8, 9, 20, 25, 33, 41, 49, 56, 73, 85, 96, 133, 146, 148] c52_r12) (.seq (.block 0 (.loop [2, 5, 8, 9, 10, 20, 25, 33, 41, 49, 56, 73, 85, 96, 133, 146, 148] (.seq (.seq (.reg [2, 5, 8, 9, 10, 20, 25, 33, 41, 49, 56, 73, 85, 96, 133, 146, 148] c52_r13) (.cond (.t 60) .skip (.exit 0))) (.block 1 (.seq (.reg [2, 5, 8, 9, 10, 20, 25, 33, 41, 49, 56, 73, 85, 96, 133, 146, 148] c52_r14) (.seq (.seq (.reg [2, 5, 8, 9, 10, 11, 12, 13, 20, 25, 33, 41, 49, 56, 65, 73, 85, 96, 133, 146, 148] c52_r15) (.cond (.t 69) (.seq (.reg [2, 5, 8, 12, 20, 25, 33, 41, 49, 56, 73, 96, 133, 146, 148] c52_r16) .ret) .skip)) (.seq (.reg [2, 5, 8, 9, 10, 11, 12, 20, 25, 33, 41, 49, 56, 65, 73, 85, 96, 133, 146, 148] c52_r17) (.seq (.reg [2, 5, 8, 9, 10, 12, 20, 25, 33, 41, 49, 56, 73, 85, 96, 133, 146, 148] c52_r18) (.reg [2, 5, 8, 9, 12, 20, 25, 33, 41, 49, 56, 73, 85, 96, 133, 146, 148] c52_r19))))))))) (.seq (.seq (.reg [2, 5, 8, 9, 10, 20, 25, 33, 41, 49, 56, 73, 85, 96, 133, 146, 148] c52_r20) (.cond (.t 91) (.seq (.reg [2, 5, 8, 10, 20, 25, 33, 41, 49, 56, 73, 96, 133, 146, 148] c52_r21) .ret) .skip)) (.seq (.seq (.reg [2, 5, 8, 9, 20, 25, 33, 41, 49, 56, 73, 85, 96, 133, 146, 148] c52_r22) (.block 2 (.loop [2, 5, 8, 9, 14, 20, 25, 33, 41, 49, 56, 73, 85, 96, 133, 146, 148] (.seq (.seq (.reg [2, 5, 8, 9, 14, 20, 25, 33, 41, 49, 56, 73, 85, 96, 133, 146, 148] c52_r23) (.cond (.t 102) .skip (.exit 2))) (.seq (.block 3 (.seq (.seq (.reg [2, 5, 8, 9, 14, 20, 25, 33, 41, 49, 56, 73, 85, 96, 133, 146, 148] c52_r25) (.block 4 (.loop [2, 5, 8, 9, 14, 15, 20, 25, 33, 41, 49, 56, 73, 85, 96, 133, 146, 148] (.seq (.seq (.reg [2, 5, 8, 9, 14, 15, 20, 25, 33, 41, 49, 56, 73, 85, 96, 133, 146, 148] c52_r26) (.cond (.t 106) .skip (.exit 4))) (.seq (.block 5 (.seq (.draw [2, 5, 8, 9, 14, 15, 20, 25, 33, 41, 49, 56, 73, 85, 96, 133, 146, 148] c52_r28) (.cond (.t 119) (.reg [2, 5, 8, 9, 14, 15, 20, 25, 33, 41, 49, 56, 73, 85, 96, 133, 146, 148] c52_r29) .skip))) (.reg [2, 5, 8, 9, 14, 15, 20, 25, 33, 41, 49, 56, 73, 85, 96, 133, 146, 148] c52_r27)))))) (.seq (.reg [2, 5, 8, 9, 14, 20, 25, 33, 41, 49, 56, 73, 85, 96, 133, 146, 148] c52_r30) (.cond (.t 132) (.seq (.draw [2, 5, 8, 9, 14, 20, 25, 33, 41, 49, 56, 73, 85, 96, 133, 146, 148] c52_r31) .ret) .skip)))) (.reg [2, 5, 8, 9, 14, 20, 25, 33, 41, 49, 56, 73, 85, 96, 133, 146, 148] c52_r24)))))) (.seq (.seq (.reg [2, 8, 25, 33, 41, 49, 56, 73, 96, 133, 146, 148] c52_r32) (.seq (.reg [2, 8, 16, 25, 33, 41, 49, 56, 73, 96, 133, 146, 148] c52_r33) (.cond (.t 145) (.seq (.reg [2, 8, 16, 25, 33, 41, 49, 56, 73, 96, 133, 146, 148] c52_r34) .ret) .skip))) (.seq (.reg [2, 8, 25, 33, 41, 49, 56, 73, 96, 133, 146, 148] c52_r35) .ret))))))))))))))
def d52 : FD := { nargs := 1, body := c52, res := [.cell 2 Tn1923, .t 3, .t 4] }
-- anceps/token.IsName
def c53_r0 : List AI := [{ dst := some 2, op := .asg (.c .bool false) }]
def c53_r1 : List AI := [{ dst := some 3, op := .mv (.t 0) },
  { dst := some 4, op := .bin .neq (.t 3) (.c .str []) },
  { dst := some 5, op := .mv (.t 4) },
  { dst := some 6, op := .mv (.t 0), guard := some (5, true) },
  { dst := some 7, op := .lenS (.t 6), guard := some (5, true) },
  { dst := some 8, op := .bin .leq (.t 7) (.c Tn192 20), guard := some (5, true) },
  { dst := some 9, op := .pick (.t 5) (.t 8) (.c .bool false) },
  { dst := some 10, op := .mv (.t 9) },
  { dst := some 11, op := .mv (.t 0), guard := some (10, true) },
  { dst := some 12, op := .call 72 [(.t 11)], guard := some (10, true) },
  { dst := some 13, op := .mv (.t 0), guard := some (10, true) },
  { dst := some 14, op := .lenS (.t 13), guard := some (10, true) },
  { dst := some 15, op := .bin .eql (.t 12) (.t 14), guard := some (10, true) },
  { dst := some 16, op := .pick (.t 10) (.t 15) (.c .bool false) },
  { dst := some 2, op := .asg (.t 16) }]
def c53 : AC := (.seq (.reg [0] c53_r0) (.seq (.reg [0] c53_r1) .ret))
def d53 : FD := { nargs := 1, body := c53, res := [.t 2] }
-- anceps/licence.rule
def c54_r0 : List AI := [{ dst := some 1, op := .box Tn1917 (.t 0) },
  { dst := some 2, op := .asg (.c Tn192 0) }]
def c54_r1 : List AI := [{ dst := some 7, op := .fieldAddr Tn1917 [.l] (.t 1) },
  { dst := some 8, op := .load Tn192 (.t 7) },
  { dst := some 9, op := .bin .lss (.t 8) (.c Tn192 1) },
  { dst := some 10, op := .mv (.t 9) },
  { dst := some 11, op := .fieldAddr Tn1917 [.l] (.t 1), guard := some (10, false) },
  { dst := some 12, op := .load Tn192 (.t 11), guard := some (10, false) },
  { dst := some 13, op := .bin .gtr (.t 12) (.c Tn192 12), guard := some (10, false) },
  { dst := some 14, op := .pick (.t 10) (.c .bool true) (.t 13) },
  { dst := some 15, op := .mv (.t 14) },
  { dst := some 16, op := .fieldAddr Tn1917 [.r, .l] (.t 1), guard := some (15, false) },
  { dst := some 17, op := .load Tn192 (.t 16), guard := some (15, false) },
  { dst := some 18, op := .bin .lss (.t 17) (.c Tn192 0), guard := some (15, false) },
  { dst := some 19, op := .pick (.t 15) (.c .bool true) (.t 18) },
  { dst := some 20, op := .mv (.t 19) },
  { dst := some 21, op := .fieldAddr Tn1917 [.r, .l] (.t 1), guard := some (20, false) },
  { dst := some 22, op := .load Tn192 (.t 21), guard := some (20, false) },
  { dst := some 23, op := .bin .gtr (.t 22) (.c Tn192 999), guard := some (20, false) },
  { dst := some 24, op := .pick (.t 20) (.c .bool true) (.t 23) },
  { dst := some 6, op := .asg (.t 24) }]
def c54_r2 : List AI := [{ dst := some 2, op := .asg (.c Tn192 6) }]
def c54_r3 : List AI := [{ dst := some 26, op := .fieldAddr Tn1917 [.r, .r, .l] (.t 1) },
  { dst := some 27, op := .load Tn191 (.t 26) },
  { dst := some 28, op := .lenL (.t 27) },
  { dst := some 29, op := .bin .gtr (.t 28) (.c Tn192 20) },
  { dst := some 25, op := .asg (.t 29) }]
def c54_r4 : List AI := [{ dst := some 2, op := .asg (.c Tn192 3) }]
def c54_r5 : List AI := [{ dst := some 30, op := .fieldAddr Tn1917 [.r, .r, .l] (.t 1) },
  { dst := some 31, op := .load Tn191 (.t 30) },
  { dst := some 32, op := .lenL (.t 31) },
  { dst := some 33, op := .mv (.c Tn192 0) }]
def c54_r6 : List AI := [{ dst := some 34, op := .bin .lss (.t 33) (.t 32) }]
def c54_r7 : List AI := [{ dst := some 35, op := .mv (.t 33) },
  { dst := some 36, op := .indexAddr .str (.t 31) (.t 33) },
  { dst := some 37, op := .load .str (.t 36) },
  { dst := some 3, op := .asg (.t 35) },
  { dst := some 4, op := .asg (.t 37) }]
def c54_r8 : List AI := [{ dst := some 38, op := .mv (.t 4) },
  { dst := some 39, op := .call 73 [(.t 38)] },
  { dst := some 5, op := .asg (.t 39) }]
def c54_r9 : List AI := [{ dst := some 40, op := .mv (.t 5) },
  { dst := some 41, op := .bin .neq (.t 40) (.c Tn192 0) }]
def c54_r10 : List AI := [{ dst := some 42, op := .mv (.t 5) },
  { dst := some 2, op := .asg (.t 42) }]
def c54_r11 : List AI := [{ dst := some 43, op := .fieldAddr Tn1917 [.r, .r, .l] (.t 1) },
  { dst := some 44, op := .load Tn191 (.t 43) },
  { dst := some 45, op := .mv (.t 3) },
  { dst := some 46, op := .sliceL .str (.t 44) none (some (.t 45)) none },
  { dst := some 47, op := .mv (.t 4) },
  { dst := some 48, op := .call 74 [(.t 46), (.t 47)] }]
def c54_r12 : List AI := [{ dst := some 2, op := .asg (.c Tn192 5) }]
def c54_r13 : List AI := [{ dst := some 49, op := .bin .add (.t 33) (.c Tn192 1) },
  { dst := some 33, op := .mv (.t 49) }]
def c54_r14 : List AI := [{ dst := some 2, op := .asg (.c Tn192 0) }]
def c54 : AC := (.seq (.reg [0] c54_r0) (.seq (.block 0 (.seq (.reg [1] c54_r1) (.cond (.t 6) (.seq (.reg [] c54_r2) .ret) (.seq (.reg [1] c54_r3) (.cond (.t 25) (.seq (.reg [] c54_r4) .ret) .skip))))) (.seq (.seq (.reg [1] c54_r5) (.block 1 (.loop [1, 30, 31, 32, 33] (.seq (.reg [1, 30, 31, 32, 33] c54_r6) (.seq (.cond (.t 34) .skip (.exit 1)) (.seq (.block 2 (.seq (.reg [1, 30, 31, 32, 33] c54_r7) (.seq (.seq (.reg [1, 3, 4, 30, 31, 32, 33] c54_r8) (.seq (.reg [1, 3, 4, 5, 30, 31, 32, 33] c54_r9) (.cond (.t 41) (.seq (.reg [5] c54_r10) .ret) .skip))) (.seq (.reg [1, 3, 4, 30, 31, 32, 33] c54_r11) (.cond (.t 48) (.seq (.reg [] c54_r12) .ret) .skip))))) (.reg [1, 30, 31, 32, 33] c54_r13))))))) (.seq (.reg [] c54_r14) .ret))))
def d54 : FD := { nargs := 1, body := c54, res := [.t 2] }
-- anceps/text.Fold
def c56_r0 : List AI := [{ dst := some 2, op := .asg (.c .str []) }]
def c56_r1 : List AI := [{ dst := some 6, op := .mv (.t 0) },
  { dst := some 7, op := .toSl (.t 6) },
  { dst := some 3, op := .asg (.t 7) }]
def c56_r2 : List AI := [{ dst := some 8, op := .mv (.t 3) },
  { dst := some 9, op := .lenL (.t 8) },
  { dst := some 10, op := .mv (.c Tn192 0) }]
def c56_r3 : List AI := [{ dst := some 11, op := .bin .lss (.t 10) (.t 9) }]
def c56_r4 : List AI := [{ dst := some 12, op := .mv (.t 10) },
  { dst := some 13, op := .indexAddr Tn190 (.t 8) (.t 10) },
  { dst := some 14, op := .load Tn190 (.t 13) },
  { dst := some 4, op := .asg (.t 12) },
  { dst := some 5, op := .asg (.t 14) }]
def c56_r5 : List AI := [{ dst := some 15, op := .mv (.t 5) },
  { dst := some 16, op := .bin .geq (.t 15) (.c Tn190 65) },
  { dst := some 17, op := .mv (.t 16) },
  { dst := some 18, op := .mv (.t 5), guard := some (17, true) },
  { dst := some 19, op := .bin .leq (.t 18) (.c Tn190 90), guard := some (17, true) },
  { dst := some 20, op := .pick (.t 17) (.t 19) (.c .bool false) }]
def c56_r6 : List AI := [{ dst := some 21, op := .mv (.t 3) },
  { dst := some 22, op := .mv (.t 4) },
  { dst := some 23, op := .mv (.t 5) },
  { dst := some 24, op := .bin .sub (.t 23) (.c Tn190 65) },
  { dst := some 25, op := .bin .add (.t 24) (.c Tn190 97) },
  { dst := some 26, op := .indexAddr Tn190 (.t 21) (.t 22) },
  { dst := none, op := .store Tn190 (.t 26) (.t 25) }]
def c56_r7 : List AI := [{ dst := some 27, op := .bin .add (.t 10) (.c Tn192 1) },
  { dst := some 10, op := .mv (.t 27) }]
def c56_r8 : List AI := [{ dst := some 28, op := .mv (.t 3) },
  { dst := some 29, op := .toStr (.t 28) },
  { dst := some 2, op := .asg (.t 29) }]
def c56 : AC := (.seq (.reg [0] c56_r0) (.seq (.reg [0] c56_r1) (.seq (.seq (.reg [3, 7] c56_r2) (.block 0 (.loop [3, 7, 8, 9, 10] (.seq (.reg [3, 7, 8, 9, 10] c56_r3) (.seq (.cond (.t 11) .skip (.exit 0)) (.seq (.block 1 (.seq (.reg [3, 7, 8, 9, 10] c56_r4) (.seq (.reg [3, 4, 5, 7, 8, 9, 10] c56_r5) (.cond (.t 20) (.reg [3, 4, 5, 7, 8, 9, 10] c56_r6) .skip)))) (.reg [3, 7, 8, 9, 10] c56_r7))))))) (.seq (.reg [3, 7] c56_r8) .ret))))
def d56 : FD := { nargs := 1, body := c56, res := [.t 2] }
-- anceps/licence.applies
def c57_r0 : List AI := [{ dst := some 2, op := .box Tn1917 (.t 0) },
  { dst := some 4, op := .asg (.c .bool false) }]
def c57_r1 : List AI := [{ dst := some 5, op := .fieldAddr Tn1917 [.r, .r, .l] (.t 2) },
  { dst := some 6, op := .load Tn191 (.t 5) },
  { dst := some 7, op := .lenL (.t 6) },
  { dst := some 8, op := .bin .eql (.t 7) (.c Tn192 0) },
  { dst := some 9, op := .mv (.t 8) },
  { dst := some 10, op := .fieldAddr Tn1917 [.r, .r, .l] (.t 2), guard := some (9, false) },
  { dst := some 11, op := .load Tn191 (.t 10), guard := some (9, false) },
  { dst := some 12, op := .mv (.t 1), guard := some (9, false) },
  { dst := some 13, op := .call 74 [(.t 11), (.t 12)], guard := some (9, false) },
  { dst := some 14, op := .pick (.t 9) (.c .bool true) (.t 13) },
  { dst := some 4, op := .asg (.t 14) }]
def c57 : AC := (.seq (.reg [0, 1] c57_r0) (.seq (.reg [1, 2] c57_r1) .ret))
def d57 : FD := { nargs := 2, body := c57, res := [.t 4] }
-- anceps/ancepsref05.name
def c58_r0 : List AI := [{ dst := some 2, op := .asg (.c Tn192 0) }]
def c58_r1 : List AI := [{ dst := some 4, op := .mv (.t 0) },
  { dst := some 5, op := .bin .eql (.t 4) (.c .str []) },
  { dst := some 6, op := .mv (.t 5) },
  { dst := some 7, op := .mv (.t 0), guard := some (6, false) },
  { dst := some 8, op := .indexS (.t 7) (.c Tn192 0), guard := some (6, false) },
  { dst := some 9, op := .call 76 [(.t 8)], guard := some (6, false) },
  { dst := some 10, op := .un .not (.t 9), guard := some (6, false) },
  { dst := some 11, op := .pick (.t 6) (.c .bool true) (.t 10) }]
def c58_r2 : List AI := [{ dst := some 2, op := .asg (.c Tn192 0) }]
def c58_r3 : List AI := [{ dst := some 3, op := .asg (.c Tn192 1) }]
def c58_r4 : List AI := [{ dst := some 12, op := .mv (.t 3) },
  { dst := some 13, op := .mv (.t 0) },
  { dst := some 14, op := .lenS (.t 13) },
  { dst := some 15, op := .bin .lss (.t 12) (.t 14) }]
def c58_r5 : List AI := [{ dst := some 16, op := .mv (.t 0) },
  { dst := some 17, op := .mv (.t 3) },
  { dst := some 18, op := .indexS (.t 16) (.t 17) },
  { dst := some 19, op := .call 76 [(.t 18)] },
  { dst := some 20, op := .mv (.t 19) },
  { dst := some 21, op := .mv (.t 0), guard := some (20, false) },
  { dst := some 22, op := .mv (.t 3), guard := some (20, false) },
  { dst := some 23, op := .indexS (.t 21) (.t 22), guard := some (20, false) },
  { dst := some 24, op := .call 77 [(.t 23)], guard := some (20, false) },
  { dst := some 25, op := .pick (.t 20) (.c .bool true) (.t 24) }]
def c58_r6 : List AI := [{ dst := some 26, op := .mv (.t 3) },
  { dst := some 27, op := .bin .add (.t 26) (.c Tn192 1) },
  { dst := some 3, op := .asg (.t 27) }]
def c58_r7 : List AI := [{ dst := some 28, op := .mv (.t 0) },
  { dst := some 29, op := .mv (.t 3) },
  { dst := some 30, op := .indexS (.t 28) (.t 29) },
  { dst := some 31, op := .bin .neq (.t 30) (.c Tn190 45) },
  { dst := some 32, op := .mv (.t 31) },
  { dst := some 33, op := .mv (.t 3), guard := some (32, false) },
  { dst := some 34, op := .bin .add (.t 33) (.c Tn192 1), guard := some (32, false) },
  { dst := some 35, op := .mv (.t 0), guard := some (32, false) },
  { dst := some 36, op := .lenS (.t 35), guard := some (32, false) },
  { dst := some 37, op := .bin .eql (.t 34) (.t 36), guard := some (32, false) },
  { dst := some 38, op := .pick (.t 32) (.c .bool true) (.t 37) },
  { dst := some 39, op := .mv (.t 38) },
  { dst := some 40, op := .mv (.t 0), guard := some (39, false) },
  { dst := some 41, op := .mv (.t 3), guard := some (39, false) },
  { dst := some 42, op := .bin .add (.t 41) (.c Tn192 1), guard := some (39, false) },
  { dst := some 43, op := .indexS (.t 40) (.t 42), guard := some (39, false) },
  { dst := some 44, op := .call 76 [(.t 43)], guard := some (39, false) },
  { dst := some 45, op := .un .not (.t 44), guard := some (39, false) },
  { dst := some 46, op := .mv (.t 45), guard := some (39, false) },
  { dst := some 47, op := .mv (.t 0), guard := some (46, true) },
  { dst := some 48, op := .mv (.t 3), guard := some (46, true) },
  { dst := some 49, op := .bin .add (.t 48) (.c Tn192 1), guard := some (46, true) },
  { dst := some 50, op := .indexS (.t 47) (.t 49), guard := some (46, true) },
  { dst := some 51, op := .call 77 [(.t 50)], guard := some (46, true) },
  { dst := some 52, op := .un .not (.t 51), guard := some (46, true) },
  { dst := some 53, op := .pick (.t 46) (.t 52) (.c .bool false), guard := some (39, false) },
  { dst := some 54, op := .pick (.t 39) (.c .bool true) (.t 53) }]
def c58_r8 : List AI := [{ dst := some 55, op := .mv (.t 3) },
  { dst := some 56, op := .bin .add (.t 55) (.c Tn192 2) },
  { dst := some 3, op := .asg (.t 56) }]
def c58_r9 : List AI := [{ dst := some 57, op := .mv (.t 3) },
  { dst := some 2, op := .asg (.t 57) }]
def c58 : AC := (.seq (.reg [0] c58_r0) (.seq (.seq (.reg [0] c58_r1) (.cond (.t 11) (.seq (.reg [] c58_r2) .ret) .skip)) (.seq (.reg [0] c58_r3) (.seq (.block 0 (.loop [0, 3] (.seq (.seq (.reg [0, 3] c58_r4) (.cond (.t 15) .skip (.exit 0))) (.block 1 (.seq (.seq (.reg [0, 3] c58_r5) (.cond (.t 25) (.seq (.reg [0, 3] c58_r6) (.exit 1)) .skip)) (.seq (.seq (.reg [0, 3] c58_r7) (.cond (.t 54) (.exit 0) .skip)) (.reg [0, 3] c58_r8))))))) (.seq (.reg [3] c58_r9) .ret)))))
def d58 : FD := { nargs := 1, body := c58, res := [.t 2] }
-- anceps/ancepsref17.word
def c59_r0 : List AI := [{ dst := some 2, op := .asg (.c Tn192 0) }]
def c59_r1 : List AI := [{ dst := some 4, op := .mv (.t 0) },
  { dst := some 5, op := .lenS (.t 4) },
  { dst := some 6, op := .bin .gtr (.t 5) (.c Tn192 16) }]
def c59_r2 : List AI := [{ dst := some 2, op := .asg (.c Tn192 3) }]
def c59_r3 : List AI := [{ dst := some 7, op := .mv (.t 0) },
  { dst := some 8, op := .bin .eql (.t 7) (.c .str []) },
  { dst := some 9, op := .mv (.t 8) },
  { dst := some 10, op := .mv (.t 0), guard := some (9, false) },
  { dst := some 11, op := .call 78 [(.t 10)], guard := some (9, false) },
  { dst := some 12, op := .mv (.t 0), guard := some (9, false) },
  { dst := some 13, op := .bin .neq (.t 11) (.t 12), guard := some (9, false) },
  { dst := some 14, op := .pick (.t 9) (.c .bool true) (.t 13) }]
def c59_r4 : List AI := [{ dst := some 2, op := .asg (.c Tn192 2) }]
def c59_r5 : List AI := [{ dst := some 3, op := .asg (.c Tn192 0) }]
def c59_r6 : List AI := [{ dst := some 15, op := .mv (.t 3) },
  { dst := some 16, op := .mv (.t 0) },
  { dst := some 17, op := .lenS (.t 16) },
  { dst := some 18, op := .bin .lss (.t 15) (.t 17) }]
def c59_r8 : List AI := [{ dst := some 21, op := .mv (.t 0) },
  { dst := some 22, op := .mv (.t 3) },
  { dst := some 23, op := .indexS (.t 21) (.t 22) },
  { dst := some 24, op := .call 79 [(.t 23)] },
  { dst := some 25, op := .un .not (.t 24) }]
def c59_r9 : List AI := [{ dst := some 2, op := .asg (.c Tn192 2) }]
def c59_r7 : List AI := [{ dst := some 19, op := .mv (.t 3) },
  { dst := some 20, op := .bin .add (.t 19) (.c Tn192 1) },
  { dst := some 3, op := .asg (.t 20) }]
def c59_r10 : List AI := [{ dst := some 2, op := .asg (.c Tn192 0) }]
def c59 : AC := (.seq (.reg [0] c59_r0) (.seq (.seq (.reg [0] c59_r1) (.cond (.t 6) (.seq (.reg [] c59_r2) .ret) .skip)) (.seq (.seq (.reg [0] c59_r3) (.cond (.t 14) (.seq (.reg [] c59_r4) .ret) .skip)) (.seq (.seq (.reg [0] c59_r5) (.block 0 (.loop [0, 3] (.seq (.seq (.reg [0, 3] c59_r6) (.cond (.t 18) .skip (.exit 0))) (.seq (.block 1 (.seq (.reg [0, 3] c59_r8) (.cond (.t 25) (.seq (.reg [] c59_r9) .ret) .skip))) (.reg [0, 3] c59_r7)))))) (.seq (.reg [] c59_r10) .ret)))))
def d59 : FD := { nargs := 1, body := c59, res := [.t 2] }
-- anceps/ancepsref17.has
def c60_r0 : List AI := [{ dst := some 4, op := .asg (.c .bool false) }]
def c60_r1 : List AI := [{ dst := some 5, op := .asg (.c Tn192 0) }]
def c60_r2 : List AI := [{ dst := some 6, op := .mv (.t 5) },
  { dst := some 7, op := .mv (.t 0) },
  { dst := some 8, op := .lenL (.t 7) },
  { dst := some 9, op := .bin .lss (.t 6) (.t 8) }]
def c60_r4 : List AI := [{ dst := some 12, op := .mv (.t 0) },
  { dst := some 13, op := .mv (.t 5) },
  { dst := some 14, op := .indexAddr .str (.t 12) (.t 13) },
  { dst := some 15, op := .load .str (.t 14) },
  { dst := some 16, op := .mv (.t 1) },
  { dst := some 17, op := .bin .eql (.t 15) (.t 16) }]
def c60_r5 : List AI := [{ dst := some 4, op := .asg (.c .bool true) }]
def c60_r3 : List AI := [{ dst := some 10, op := .mv (.t 5) },
  { dst := some 11, op := .bin .add (.t 10) (.c Tn192 1) },
  { dst := some 5, op := .asg (.t 11) }]
def c60_r6 : List AI := [{ dst := some 4, op := .asg (.c .bool false) }]
def c60 : AC := (.seq (.reg [0, 1] c60_r0) (.seq (.seq (.reg [0, 1] c60_r1) (.block 0 (.loop [0, 1, 5] (.seq (.seq (.reg [0, 1, 5] c60_r2) (.cond (.t 9) .skip (.exit 0))) (.seq (.block 1 (.seq (.reg [0, 1, 5] c60_r4) (.cond (.t 17) (.seq (.reg [] c60_r5) .ret) .skip))) (.reg [0, 1, 5] c60_r3)))))) (.seq (.reg [] c60_r6) .ret)))
def d60 : FD := { nargs := 2, body := c60, res := [.t 4] }
-- anceps/ancepsref11.order
def c64_r0 : List AI := [{ dst := some 4, op := .asg (.c Tn192 0) }]
def c64_r1 : List AI := [{ dst := some 5, op := .mv (.t 0) },
  { dst := some 6, op := .mv (.t 1) },
  { dst := some 7, op := .bin .lss (.t 5) (.t 6) }]
def c64_r2 : List AI := [{ dst := some 4, op := .asg (.c Tn192 (-1)) }]
def c64_r3 : List AI := [{ dst := some 8, op := .mv (.t 0) },
  { dst := some 9, op := .mv (.t 1) },
  { dst := some 10, op := .bin .gtr (.t 8) (.t 9) }]
def c64_r4 : List AI := [{ dst := some 4, op := .asg (.c Tn192 1) }]
def c64_r5 : List AI := [{ dst := some 4, op := .asg (.c Tn192 0) }]
def c64 : AC := (.seq (.reg [0, 1] c64_r0) (.seq (.seq (.reg [0, 1] c64_r1) (.cond (.t 7) (.seq (.reg [] c64_r2) .ret) .skip)) (.seq (.seq (.reg [0, 1] c64_r3) (.cond (.t 10) (.seq (.reg [] c64_r4) .ret) .skip)) (.seq (.reg [] c64_r5) .ret))))
def d64 : FD := { nargs := 2, body := c64, res := [.t 4] }
-- anceps/ancepsref11.letters
def c65_r0 : List AI := [{ dst := some 0, op := .asg (.c .str []) }]
def c65_r1 : List AI := [{ dst := some 0, op := .asg (.c .str [32, 118, 100, 109, 108, 110, 115, 120, 103, 98]) }]
def c65 : AC := (.seq (.reg [] c65_r0) (.seq (.reg [] c65_r1) .ret))
def d65 : FD := { nargs := 0, body := c65, res := [.t 0] }
-- anceps/ancepsref11.Valid
def c66_r0 : List AI := [{ dst := some 1, op := .box Tn1915 (.t 0) },
  { dst := some 2, op := .asg (.c Tn192 0) }]
def c66_r1 : List AI := [{ dst := some 5, op := .fieldAddr Tn1915 [.l] (.t 1) },
  { dst := some 6, op := .load Tn192 (.t 5) },
  { dst := some 7, op := .bin .lss (.t 6) (.c Tn192 1) },
  { dst := some 8, op := .mv (.t 7) },
  { dst := some 9, op := .fieldAddr Tn1915 [.l] (.t 1), guard := some (8, false) },
  { dst := some 10, op := .load Tn192 (.t 9), guard := some (8, false) },
  { dst := some 11, op := .bin .gtr (.t 10) (.c Tn192 9), guard := some (8, false) },
  { dst := some 12, op := .pick (.t 8) (.c .bool true) (.t 11) }]
def c66_r2 : List AI := [{ dst := some 2, op := .asg (.c Tn192 1) }]
def c66_r3 : List AI := [{ dst := some 13, op := .fieldAddr Tn1915 [.r, .l] (.t 1) },
  { dst := some 14, op := .load Tn192 (.t 13) },
  { dst := some 15, op := .bin .eql (.t 14) (.c Tn192 0) },
  { dst := some 3, op := .asg (.t 15) }]
def c66_r4 : List AI := [{ dst := some 16, op := .fieldAddr Tn1915 [.l] (.t 1) },
  { dst := some 17, op := .load Tn192 (.t 16) },
  { dst := some 18, op := .bin .eql (.t 17) (.c Tn192 1) }]
def c66_r5 : List AI := [{ dst := some 19, op := .fieldAddr Tn1915 [.r, .l] (.t 1) },
  { dst := some 20, op := .load Tn192 (.t 19) },
  { dst := some 21, op := .bin .geq (.t 20) (.c Tn192 1) },
  { dst := some 22, op := .mv (.t 21) },
  { dst := some 23, op := .fieldAddr Tn1915 [.r, .l] (.t 1), guard := some (22, true) },
  { dst := some 24, op := .load Tn192 (.t 23), guard := some (22, true) },
  { dst := some 25, op := .bin .leq (.t 24) (.c Tn192 3), guard := some (22, true) },
  { dst := some 26, op := .pick (.t 22) (.t 25) (.c .bool false) },
  { dst := some 3, op := .asg (.t 26) }]
def c66_r6 : List AI := [{ dst := some 27, op := .fieldAddr Tn1915 [.l] (.t 1) },
  { dst := some 28, op := .load Tn192 (.t 27) },
  { dst := some 29, op := .bin .eql (.t 28) (.c Tn192 2) }]
def c66_r7 : List AI := [{ dst := some 30, op := .fieldAddr Tn1915 [.r, .l] (.t 1) },
  { dst := some 31, op := .load Tn192 (.t 30) },
  { dst := some 32, op := .bin .eql (.t 31) (.c Tn192 2) },
  { dst := some 3, op := .asg (.t 32) }]
def c66_r8 : List AI := [{ dst := some 33, op := .mv (.t 3) },
  { dst := some 34, op := .un .not (.t 33) }]
def c66_r9 : List AI := [{ dst := some 2, op := .asg (.c Tn192 6) }]
def c66_r10 : List AI := [{ dst := some 35, op := .fieldAddr Tn1915 [.r, .r, .l] (.t 1) },
  { dst := some 36, op := .load .str (.t 35) },
  { dst := some 37, op := .bin .eql (.t 36) (.c .str []) }]
def c66_r11 : List AI := [{ dst := some 2, op := .asg (.c Tn192 7) }]
def c66_r12 : List AI := [{ dst := some 38, op := .fieldAddr Tn1915 [.r, .r, .l] (.t 1) },
  { dst := some 39, op := .load .str (.t 38) },
  { dst := some 40, op := .lenS (.t 39) },
  { dst := some 41, op := .bin .gtr (.t 40) (.c Tn192 8) }]
def c66_r13 : List AI := [{ dst := some 2, op := .asg (.c Tn192 3) }]
def c66_r14 : List AI := [{ dst := some 4, op := .asg (.c Tn192 0) }]
def c66_r15 : List AI := [{ dst := some 42, op := .mv (.t 4) },
  { dst := some 43, op := .fieldAddr Tn1915 [.r, .r, .l] (.t 1) },
  { dst := some 44, op := .load .str (.t 43) },
  { dst := some 45, op := .lenS (.t 44) },
  { dst := some 46, op := .bin .lss (.t 42) (.t 45) }]
def c66_r17 : List AI := [{ dst := some 49, op := .fieldAddr Tn1915 [.r, .r, .l] (.t 1) },
  { dst := some 50, op := .load .str (.t 49) },
  { dst := some 51, op := .mv (.t 4) },
  { dst := some 52, op := .indexS (.t 50) (.t 51) },
  { dst := some 53, op := .call 81 [(.t 52)] },
  { dst := some 54, op := .un .not (.t 53) }]
def c66_r18 : List AI := [{ dst := some 2, op := .asg (.c Tn192 2) }]
def c66_r16 : List AI := [{ dst := some 47, op := .mv (.t 4) },
  { dst := some 48, op := .bin .add (.t 47) (.c Tn192 1) },
  { dst := some 4, op := .asg (.t 48) }]
def c66_r19 : List AI := [{ dst := some 2, op := .asg (.c Tn192 0) }]
def c66 : AC := (.seq (.reg [0] c66_r0) (.seq (.seq (.reg [1] c66_r1) (.cond (.t 12) (.seq (.reg [] c66_r2) .ret) .skip)) (.seq (.reg [1] c66_r3) (.seq (.seq (.reg [1, 3] c66_r4) (.cond (.t 18) (.reg [1] c66_r5) .skip)) (.seq (.seq (.reg [1, 3] c66_r6) (.cond (.t 29) (.reg [1] c66_r7) .skip)) (.seq (.seq (.reg [1, 3] c66_r8) (.cond (.t 34) (.seq (.reg [] c66_r9) .ret) .skip)) (.seq (.seq (.reg [1] c66_r10) (.cond (.t 37) (.seq (.reg [] c66_r11) .ret) .skip)) (.seq (.seq (.reg [1] c66_r12) (.cond (.t 41) (.seq (.reg [] c66_r13) .ret) .skip)) (.seq (.seq (.reg [1] c66_r14) (.block 0 (.loop [1, 4] (.seq (.seq (.reg [1, 4] c66_r15) (.cond (.t 46) .skip (.exit 0))) (.seq (.block 1 (.seq (.reg [1, 4] c66_r17) (.cond (.t 54) (.seq (.reg [] c66_r18) .ret) .skip))) (.reg [1, 4] c66_r16)))))) (.seq (.reg [] c66_r19) .ret))))))))))
def d66 : FD := { nargs := 1, body := c66, res := [.t 2] }
-- anceps/ancepsref05.Tokens
def c67_r0 : List AI := [{ dst := some 2, op := .asg (.nil 104 Tn1916) },
  { dst := some 3, op := .asg (.c Tn192 0) },
  { dst := some 4, op := .asg (.c Tn192 0) }]
def c67_r1 : List AI := [{ dst := some 11, op := .mv (.t 0) },
  { dst := some 12, op := .lenS (.t 11) },
  { dst := some 13, op := .bin .gtr (.t 12) (.c Tn192 20000) }]
def c67_r2 : List AI := [{ dst := some 2, op := .asg (.nil 104 Tn1916) },
  { dst := some 3, op := .asg (.c Tn192 0) },
  { dst := some 4, op := .asg (.c Tn192 3) }]
def c67_r3 : List AI := [{ dst := some 5, op := .asg (.nil 104 Tn1916) }]
def c67_r4 : List AI := [{ dst := some 6, op := .asg (.c Tn192 1) }]
def c67_r5 : List AI := [{ dst := some 7, op := .asg (.c Tn192 0) }]
def c67_r6 : List AI := [{ dst := some 14, op := .mv (.t 0) },
  { dst := some 15, op := .mv (.t 7) },
  { dst := some 16, op := .sliceS (.t 14) (some (.t 15)) none },
  { dst := some 17, op := .call 82 [(.t 16)] },
  { dst := some 8, op := .asg (.t 17) }]
def c67_r7 : List AI := [{ dst := some 18, op := .mv (.t 6) },
  { dst := some 19, op := .mv (.t 0) },
  { dst := some 20, op := .mv (.t 7) },
  { dst := some 21, op := .mv (.t 7) },
  { dst := some 22, op := .mv (.t 8) },
  { dst := some 23, op := .bin .add (.t 21) (.t 22) },
  { dst := some 24, op := .sliceS (.t 19) (some (.t 20)) (some (.t 23)) },
  { dst := some 25, op := .call 83 [(.t 24)] },
  { dst := some 26, op := .bin .add (.t 18) (.t 25) },
  { dst := some 6, op := .asg (.t 26) }]
def c67_r8 : List AI := [{ dst := some 27, op := .mv (.t 7) },
  { dst := some 28, op := .mv (.t 8) },
  { dst := some 29, op := .bin .add (.t 27) (.t 28) },
  { dst := some 7, op := .asg (.t 29) }]
def c67_r9 : List AI := [{ dst := some 30, op := .mv (.t 7) },
  { dst := some 31, op := .mv (.t 0) },
  { dst := some 32, op := .lenS (.t 31) },
  { dst := some 33, op := .bin .eql (.t 30) (.t 32) }]
def c67_r10 : List AI := [{ dst := some 34, op := .mv (.t 5) },
  { dst := some 2, op := .asg (.t 34) },
  { dst := some 3, op := .asg (.c Tn192 0) },
  { dst := some 4, op := .asg (.c Tn192 0) }]
def c67_r11 : List AI := [{ dst := some 36, op := .mv (.t 0) },
  { dst := some 37, op := .mv (.t 7) },
  { dst := some 38, op := .sliceS (.t 36) (some (.t 37)) none },
  { dst := some 39, op := .call 84 [(.t 38)] },
  { dst := some 35, op := .mv (.t 39) },
  { dst := some 40, op := .extract 35 0 },
  { dst := some 41, op := .extract 35 1 },
  { dst := some 42, op := .extract 35 2 },
  { dst := some 9, op := .alloc Tn1916 .no },
  { dst := none, op := .store Tn1916 (.t 9) (.t 40) },
  { dst := some 8, op := .asg (.t 41) },
  { dst := some 10, op := .asg (.t 42) }]
def c67_r12 : List AI := [{ dst := some 43, op := .mv (.t 10) },
  { dst := some 44, op := .bin .neq (.t 43) (.c Tn192 0) }]
def c67_r13 : List AI := [{ dst := some 45, op := .mv (.t 6) },
  { dst := some 46, op := .mv (.t 10) },
  { dst := some 2, op := .asg (.nil 104 Tn1916) },
  { dst := some 3, op := .asg (.t 45) },
  { dst := some 4, op := .asg (.t 46) }]
def c67_r14 : List AI := [{ dst := some 47, op := .mv (.t 6) },
  { dst := some 48, op := .fieldAddr Tn1916 [.r, .r, .l] (.t 9) },
  { dst := none, op := .store Tn192 (.t 48) (.t 47) }]
def c67_r15 : List AI := [{ dst := some 49, op := .mv (.t 5) },
  { dst := some 50, op := .load Tn1916 (.t 9) },
  { dst := some 51, op := .buildSlice 104 Tn1916 [(.t 50)] },
  { dst := some 52, op := .append 104 Tn1916 4398046511104 (.t 49) (.t 51) },
  { dst := some 5, op := .asg (.t 52) }]
def c67_r16 : List AI := [{ dst := some 53, op := .mv (.t 7) },
  { dst := some 54, op := .mv (.t 8) },
  { dst := some 55, op := .bin .add (.t 53) (.t 54) },
  { dst := some 7, op := .asg (.t 55) }]
def c67 : AC := (.seq (.reg [0] c67_r0) (.seq (.seq (.reg [0] c67_r1) (.cond (.t 13) (.seq (.reg [] c67_r2) .ret) .skip)) (.seq (.reg [0] c67_r3) (.seq (.reg [0, 5, 52] c67_r4) (.seq (.reg [0, 5, 6, 52] c67_r5) (.block 0 (.loop [0, 5, 6, 7, 52] (.block 1 (.seq (.reg [0, 5, 6, 7, 52] c67_r6) (.seq (.reg [0, 5, 6, 7, 8, 52] c67_r7) (.seq (.reg [0, 5, 6, 7, 8, 52] c67_r8) (.seq (.seq (.reg [0, 5, 6, 7, 52] c67_r9) (.cond (.t 33) (.seq (.reg [5, 52] c67_r10) .ret) .skip)) (.seq (.reg [0, 5, 6, 7, 52] c67_r11) (.seq (.seq (.reg [0, 5, 6, 7, 8, 9, 10, 40, 52] c67_r12) (.cond (.t 44) (.seq (.reg [6, 10] c67_r13) .ret) .skip)) (.seq (.reg [0, 5, 6, 7, 8, 9, 40, 52] c67_r14) (.seq (.reg [0, 5, 6, 7, 8, 9, 40, 52] c67_r15) (.reg [0, 5, 6, 7, 8, 52] c67_r16)))))))))))))))))
def d67 : FD := { nargs := 1, body := c67, res := [.t 2, .t 3, .t 4] }
-- anceps/ancepsref17.is
def c68_r0 : List AI := [{ dst := some 8, op := .asg (.c .bool false) }]
def c68_r1 : List AI := [{ dst := some 9, op := .mv (.t 1) },
  { dst := some 10, op := .mv (.t 0) },
  { dst := some 11, op := .lenL (.t 10) },
  { dst := some 12, op := .bin .lss (.t 9) (.t 11) },
  { dst := some 13, op := .mv (.t 12) },
  { dst := some 14, op := .mv (.t 0), guard := some (13, true) },
  { dst := some 15, op := .mv (.t 1), guard := some (13, true) },
  { dst := some 16, op := .indexAddr Tn1916 (.t 14) (.t 15), guard := some (13, true) },
  { dst := some 17, op := .fieldAddr Tn1916 [.l] (.t 16), guard := some (13, true) },
  { dst := some 18, op := .load Tn192 (.t 17), guard := some (13, true) },
  { dst := some 19, op := .mv (.t 2), guard := some (13, true) },
  { dst := some 20, op := .bin .eql (.t 18) (.t 19), guard := some (13, true) },
  { dst := some 21, op := .pick (.t 13) (.t 20) (.c .bool false) },
  { dst := some 22, op := .mv (.t 21) },
  { dst := some 23, op := .mv (.t 3), guard := some (22, true) },
  { dst := some 24, op := .bin .eql (.t 23) (.c .str []), guard := some (22, true) },
  { dst := some 25, op := .mv (.t 24), guard := some (22, true) },
  { dst := some 26, op := .mv (.t 0), guard := some (25, false) },
  { dst := some 27, op := .mv (.t 1), guard := some (25, false) },
  { dst := some 28, op := .indexAddr Tn1916 (.t 26) (.t 27), guard := some (25, false) },
  { dst := some 29, op := .fieldAddr Tn1916 [.r, .l] (.t 28), guard := some (25, false) },
  { dst := some 30, op := .load .str (.t 29), guard := some (25, false) },
  { dst := some 31, op := .mv (.t 3), guard := some (25, false) },
  { dst := some 32, op := .bin .eql (.t 30) (.t 31), guard := some (25, false) },
  { dst := some 33, op := .pick (.t 25) (.c .bool true) (.t 32), guard := some (22, true) },
  { dst := some 34, op := .pick (.t 22) (.t 33) (.c .bool false) },
  { dst := some 8, op := .asg (.t 34) }]
def c68 : AC := (.seq (.reg [0, 1, 2, 3] c68_r0) (.seq (.reg [0, 1, 2, 3] c68_r1) .ret))
def d68 : FD := { nargs := 4, body := c68, res := [.t 8] }
-- anceps/ancepsref17.fails
def c69_r0 : List AI := [{ dst := some 4, op := .alloc Tn1923 .no },
  { dst := some 5, op := .asg (.c Tn192 0) },
  { dst := some 6, op := .asg (.c Tn192 0) }]
def c69_r1 : List AI := [{ dst := some 7, op := .mv (.t 1) },
  { dst := some 8, op := .mv (.t 0) },
  { dst := some 9, op := .lenL (.t 8) },
  { dst := some 10, op := .bin .lss (.t 7) (.t 9) }]
def c69_r2 : List DI := [{ ai := { dst := some 11, op := .build Tn1923 [] }, hide := [12, 13, 14, 15, 16], wr := [11], pre := [] },
  { ai := { dst := some 12, op := .mv (.t 0) }, hide := [4, 11, 13], wr := [12], pre := [] },
  { ai := { dst := some 13, op := .mv (.t 1) }, hide := [4, 11, 12], wr := [13], pre := [] },
  { ai := { dst := some 14, op := .indexAddr Tn1916 (.t 12) (.t 13) }, hide := [4, 11], wr := [14], pre := [1, 2] },
  { ai := { dst := some 15, op := .fieldAddr Tn1916 [.r, .r, .l] (.t 14) }, hide := [4, 11], wr := [15], pre := [1, 2, 3] },
  { ai := { dst := some 16, op := .load Tn192 (.t 15) }, hide := [4, 11], wr := [16], pre := [1, 2, 3, 4] },
  { ai := { dst := none, op := .store Tn1923 (.t 4) (.t 11) }, hide := [12, 13, 14, 15, 16], wr := [4], pre := [0] },
  { ai := { dst := some 5, op := .asg (.t 16) }, hide := [], wr := [5], pre := [0, 1, 2, 3, 4, 5, 6] },
  { ai := { dst := some 6, op := .asg (.c Tn192 2) }, hide := [], wr := [6], pre := [0, 1, 2, 3, 4, 5, 6, 7] }]
def c69_r3 : List AI := [{ dst := some 17, op := .mv (.t 0) },
  { dst := some 18, op := .lenL (.t 17) },
  { dst := some 19, op := .bin .gtr (.t 18) (.c Tn192 0) }]
def c69_r4 : List DI := [{ ai := { dst := some 20, op := .build Tn1923 [] }, hide := [21, 22, 23, 24, 25, 26, 27], wr := [20], pre := [] },
  { ai := { dst := some 21, op := .mv (.t 0) }, hide := [4, 20, 22, 23, 24], wr := [21], pre := [] },
  { ai := { dst := some 22, op := .mv (.t 0) }, hide := [4, 20, 21], wr := [22], pre := [] },
  { ai := { dst := some 23, op := .lenL (.t 22) }, hide := [4, 20, 21], wr := [23], pre := [2] },
  { ai := { dst := some 24, op := .bin .sub (.t 23) (.c Tn192 1) }, hide := [4, 20, 21], wr := [24], pre := [2, 3] },
  { ai := { dst := some 25, op := .indexAddr Tn1916 (.t 21) (.t 24) }, hide := [4, 20], wr := [25], pre := [1, 2, 3, 4] },
  { ai := { dst := some 26, op := .fieldAddr Tn1916 [.r, .r, .l] (.t 25) }, hide := [4, 20], wr := [26], pre := [1, 2, 3, 4, 5] },
  { ai := { dst := some 27, op := .load Tn192 (.t 26) }, hide := [4, 20], wr := [27], pre := [1, 2, 3, 4, 5, 6] },
  { ai := { dst := none, op := .store Tn1923 (.t 4) (.t 20) }, hide := [21, 22, 23, 24, 25, 26, 27], wr := [4], pre := [0] },
  { ai := { dst := some 5, op := .asg (.t 27) }, hide := [], wr := [5], pre := [0, 1, 2, 3, 4, 5, 6, 7, 8] },
  { ai := { dst := some 6, op := .asg (.c Tn192 2) }, hide := [], wr := [6], pre := [0, 1, 2, 3, 4, 5, 6, 7, 8, 9] }]
def c69_r5 : List AI := [{ dst := some 28, op := .buildN Tn1923 (.pair .no (.pair (.own true 66 .no) .no)) [] },
  { dst := none, op := .store Tn1923 (.t 4) (.t 28) },
  { dst := some 5, op := .asg (.c Tn192 1) },
  { dst := some 6, op := .asg (.c Tn192 2) }]
def c69 : AC := (.seq (.reg [0, 1] c69_r0) (.seq (.seq (.reg [0, 1, 4, 11, 20, 28] c69_r1) (.cond (.t 10) (.seq (.draw [0, 1, 4, 11, 20, 28] c69_r2) .ret) .skip)) (.seq (.seq (.reg [0, 4, 11, 20, 28] c69_r3) (.cond (.t 19) (.seq (.draw [0, 4, 11, 20, 28] c69_r4) .ret) .skip)) (.seq (.reg [4, 11, 20, 28] c69_r5) .ret))))
def d69 : FD := { nargs := 2, body := c69, res := [.cell 4 Tn1923, .t 5, .t 6] }
-- anceps/ancepsref17.parsed
def c70_r0 : List AI := [{ dst := some 4, op := .alloc Tn1917 (.pair .no (.pair .no (.pair (.own true 9 .no) .no))) },
  { dst := some 5, op := .asg (.c Tn192 0) },
  { dst := some 6, op := .asg (.c .bool false) }]
def c70_r1 : List AI := [{ dst := some 7, op := .alloc Tn1917 (.pair .no (.pair .no (.pair (.own true 9 .no) .no))) }]
def c70_r2 : List AI := [{ dst := some 8, op := .mv (.t 0) },
  { dst := some 9, op := .mv (.t 1) },
  { dst := some 10, op := .call 68 [(.t 8), (.t 9), (.c Tn192 1), (.c .str [])] },
  { dst := some 11, op := .un .not (.t 10) }]
def c70_r3 : List AI := [{ dst := some 12, op := .load Tn1917 (.t 7) },
  { dst := some 13, op := .mv (.t 1) },
  { dst := none, op := .store Tn1917 (.t 4) (.t 12) },
  { dst := some 5, op := .asg (.t 13) },
  { dst := some 6, op := .asg (.c .bool false) }]
def c70_r4 : List AI := [{ dst := some 14, op := .mv (.t 0) },
  { dst := some 15, op := .mv (.t 1) },
  { dst := some 16, op := .bin .add (.t 15) (.c Tn192 1) },
  { dst := some 17, op := .call 68 [(.t 14), (.t 16), (.c Tn192 2), (.c .str [])] },
  { dst := some 18, op := .un .not (.t 17) }]
def c70_r5 : List AI := [{ dst := some 19, op := .load Tn1917 (.t 7) },
  { dst := some 20, op := .mv (.t 1) },
  { dst := some 21, op := .bin .add (.t 20) (.c Tn192 1) },
  { dst := none, op := .store Tn1917 (.t 4) (.t 19) },
  { dst := some 5, op := .asg (.t 21) },
  { dst := some 6, op := .asg (.c .bool false) }]
def c70_r6 : List AI := [{ dst := some 23, op := .mv (.t 0) },
  { dst := some 24, op := .mv (.t 1) },
  { dst := some 25, op := .bin .add (.t 24) (.c Tn192 1) },
  { dst := some 26, op := .indexAddr Tn1916 (.t 23) (.t 25) },
  { dst := some 27, op := .fieldAddr Tn1916 [.r, .l] (.t 26) },
  { dst := some 28, op := .load .str (.t 27) },
  { dst := some 29, op := .call 85 [(.t 28)] },
  { dst := some 22, op := .mv (.t 29) },
  { dst := some 30, op := .extract 22 0 },
  { dst := some 31, op := .extract 22 1 },
  { dst := some 32, op := .fieldAddr Tn1917 [.r, .l] (.t 7) },
  { dst := none, op := .store Tn192 (.t 32) (.t 30) }]
def c70_r7 : List AI := [{ dst := some 33, op := .mv (.t 1) },
  { dst := some 34, op := .bin .add (.t 33) (.c Tn192 2) },
  { dst := some 1, op := .asg (.t 34) }]
def c70_r8 : List AI := [{ dst := some 35, op := .mv (.t 0) },
  { dst := some 36, op := .mv (.t 1) },
  { dst := some 37, op := .call 68 [(.t 35), (.t 36), (.c Tn192 1), (.c .str [105, 110])] }]
def c70_r9 : List AI := [{ dst := some 38, op := .mv (.t 0) },
  { dst := some 39, op := .mv (.t 1) },
  { dst := some 40, op := .bin .add (.t 39) (.c Tn192 1) },
  { dst := some 41, op := .call 68 [(.t 38), (.t 40), (.c Tn192 3), (.c .str [])] },
  { dst := some 42, op := .un .not (.t 41) }]
def c70_r10 : List AI := [{ dst := some 43, op := .load Tn1917 (.t 7) },
  { dst := some 44, op := .mv (.t 1) },
  { dst := some 45, op := .bin .add (.t 44) (.c Tn192 1) },
  { dst := none, op := .store Tn1917 (.t 4) (.t 43) },
  { dst := some 5, op := .asg (.t 45) },
  { dst := some 6, op := .asg (.c .bool false) }]
def c70_r11 : List DI := [{ ai := { dst := some 46, op := .fieldAddr Tn1917 [.r, .r, .l] (.t 7) }, hide := [48, 49, 50, 51, 52, 53, 54], wr := [46], pre := [] },
  { ai := { dst := some 47, op := .load Tn191 (.t 46) }, hide := [48, 49, 50, 51, 52, 53, 54], wr := [47], pre := [0] },
  { ai := { dst := some 48, op := .mv (.t 0) }, hide := [46, 47, 49, 50], wr := [48], pre := [] },
  { ai := { dst := some 49, op := .mv (.t 1) }, hide := [46, 47, 48], wr := [49], pre := [] },
  { ai := { dst := some 50, op := .bin .add (.t 49) (.c Tn192 1) }, hide := [46, 47, 48], wr := [50], pre := [3] },
  { ai := { dst := some 51, op := .indexAddr Tn1916 (.t 48) (.t 50) }, hide := [46, 47], wr := [51], pre := [2, 3, 4] },
  { ai := { dst := some 52, op := .fieldAddr Tn1916 [.r, .l] (.t 51) }, hide := [46, 47], wr := [52], pre := [2, 3, 4, 5] },
  { ai := { dst := some 53, op := .load .str (.t 52) }, hide := [46, 47], wr := [53], pre := [2, 3, 4, 5, 6] },
  { ai := { dst := some 54, op := .buildSlice 9 .str [(.t 53)] }, hide := [46, 47], wr := [54], pre := [2, 3, 4, 5, 6, 7] },
  { ai := { dst := some 55, op := .append 9 .str 8796093022208 (.t 47) (.t 54) }, hide := [], wr := [55], pre := [0, 1, 2, 3, 4, 5, 6, 7, 8], piv := true },
  { ai := { dst := some 56, op := .fieldAddr Tn1917 [.r, .r, .l] (.t 7) }, hide := [], wr := [56], pre := [0, 1, 2, 3, 4, 5, 6, 7, 8, 9] },
  { ai := { dst := none, op := .store Tn191 (.t 56) (.t 55) }, hide := [], wr := [7, 56], pre := [0, 1, 2, 3, 4, 5, 6, 7, 8, 9, 10], piv := true }]
def c70_r12 : List AI := [{ dst := some 57, op := .mv (.t 1) },
  { dst := some 58, op := .bin .add (.t 57) (.c Tn192 2) },
  { dst := some 1, op := .asg (.t 58) }]
def c70_r13 : List AI := [{ dst := some 59, op := .mv (.t 0) },
  { dst := some 60, op := .mv (.t 1) },
  { dst := some 61, op := .call 68 [(.t 59), (.t 60), (.c Tn192 4), (.c .str [44])] },
  { dst := some 62, op := .un .not (.t 61) }]
def c70_r14 : List AI := [{ dst := some 63, op := .mv (.t 0) },
  { dst := some 64, op := .mv (.t 1) },
  { dst := some 65, op := .call 68 [(.t 63), (.t 64), (.c Tn192 4), (.c .str [59])] },
  { dst := some 66, op := .un .not (.t 65) }]
def c70_r15 : List AI := [{ dst := some 67, op := .load Tn1917 (.t 7) },
  { dst := some 68, op := .mv (.t 1) },
  { dst := none, op := .store Tn1917 (.t 4) (.t 67) },
  { dst := some 5, op := .asg (.t 68) },
  { dst := some 6, op := .asg (.c .bool false) }]
def c70_r16 : List AI := [{ dst := some 69, op := .load Tn1917 (.t 7) },
  { dst := some 70, op := .mv (.t 1) },
  { dst := some 71, op := .bin .add (.t 70) (.c Tn192 1) },
  { dst := none, op := .store Tn1917 (.t 4) (.t 69) },
  { dst := some 5, op := .asg (.t 71) },
  { dst := some 6, op := .asg (.c .bool true) }]
def c70 : AC := (.seq (.reg [0, 1] c70_r0) (.seq (.reg [0, 1, 4, 7, 12, 19, 43, 67, 69] c70_r1) (.seq (.seq (.reg [0, 1, 4, 7, 12, 19, 43, 67, 69] c70_r2) (.cond (.t 11) (.seq (.reg [1, 4, 7, 12, 19, 43, 67, 69] c70_r3) .ret) .skip)) (.seq (.seq (.reg [0, 1, 4, 7, 12, 19, 43, 67, 69] c70_r4) (.cond (.t 18) (.seq (.reg [1, 4, 7, 12, 19, 43, 67, 69] c70_r5) .ret) .skip)) (.seq (.reg [0, 1, 4, 7, 12, 19, 43, 67, 69] c70_r6) (.seq (.reg [0, 1, 4, 7, 12, 19, 43, 67, 69] c70_r7) (.seq (.seq (.reg [0, 1, 4, 7, 12, 19, 43, 67, 69] c70_r8) (.cond (.t 37) (.block 0 (.loop [0, 1, 4, 7, 12, 19, 43, 67, 69] (.block 1 (.seq (.seq (.reg [0, 1, 4, 7, 12, 19, 43, 67, 69] c70_r9) (.cond (.t 42) (.seq (.reg [1, 4, 7, 12, 19, 43, 67, 69] c70_r10) .ret) .skip)) (.seq (.draw [0, 1, 4, 7, 12, 19, 43, 67, 69] c70_r11) (.seq (.reg [0, 1, 4, 7, 12, 19, 43, 67, 69] c70_r12) (.seq (.reg [0, 1, 4, 7, 12, 19, 43, 67, 69] c70_r13) (.cond (.t 62) (.exit 0) .skip)))))))) .skip)) (.seq (.seq (.reg [0, 1, 4, 7, 12, 19, 43, 67, 69] c70_r14) (.cond (.t 66) (.seq (.reg [1, 4, 7, 12, 19, 43, 67, 69] c70_r15) .ret) .skip)) (.seq (.reg [1, 4, 7, 12, 19, 43, 67, 69] c70_r16) .ret)))))))))
def d70 : FD := { nargs := 2, body := c70, res := [.cell 4 Tn1917, .t 5, .t 6] }
-- anceps/ancepsref16.Kind
def c71_r0 : List AI := [{ dst := some 2, op := .asg (.c .str []) }]
def c71_r1 : List AI := [{ dst := some 3, op := .mv (.t 0) },
  { dst := some 4, op := .bin .lss (.t 3) (.c Tn192 1) },
  { dst := some 5, op := .mv (.t 4) },
  { dst := some 6, op := .mv (.t 0), guard := some (5, false) },
  { dst := some 7, op := .bin .gtr (.t 6) (.c Tn192 12), guard := some (5, false) },
  { dst := some 8, op := .pick (.t 5) (.c .bool true) (.t 7) }]
def c71_r2 : List AI := [{ dst := some 2, op := .asg (.c .str []) }]
def c71_r3 : List AI := [{ dst := some 9, op := .buildSlice 9 .str [(.c .str [109, 117, 116, 101]), (.c .str [110, 101, 120, 116]), (.c .str [98, 114, 101, 118, 105, 115]), (.c .str [105, 110, 100, 105, 102, 102, 101, 114, 101, 110, 116]), (.c .str [108, 101, 110, 103, 116, 104, 101, 110]), (.c .str [115, 104, 111, 114, 116, 101, 110]), (.c .str [115, 121, 110, 105, 122, 101, 115, 105, 115]), (.c .str [101, 108, 105, 115, 105, 111, 110]), (.c .str [101, 99, 116, 104, 108, 105, 112, 115, 105, 115]), (.c .str [112, 114, 111, 100, 101, 108, 105, 115, 105, 111, 110]), (.c .str [104, 105, 97, 116, 117, 115]), (.c .str [99, 111, 114, 114, 101, 112, 116, 105, 111, 110])] },
  { dst := some 10, op := .mv (.t 0) },
  { dst := some 11, op := .bin .sub (.t 10) (.c Tn192 1) },
  { dst := some 12, op := .indexAddr .str (.t 9) (.t 11) },
  { dst := some 13, op := .load .str (.t 12) },
  { dst := some 2, op := .asg (.t 13) }]
def c71 : AC := (.seq (.reg [0] c71_r0) (.seq (.seq (.reg [0] c71_r1) (.cond (.t 8) (.seq (.reg [] c71_r2) .ret) .skip)) (.seq (.reg [0] c71_r3) .ret)))
def d71 : FD := { nargs := 1, body := c71, res := [.t 2] }
-- anceps/token.name
def c72_r0 : List AI := [{ dst := some 2, op := .asg (.c Tn192 0) }]
def c72_r1 : List AI := [{ dst := some 5, op := .mv (.t 0) },
  { dst := some 6, op := .bin .eql (.t 5) (.c .str []) },
  { dst := some 7, op := .mv (.t 6) },
  { dst := some 8, op := .mv (.t 0), guard := some (7, false) },
  { dst := some 9, op := .indexS (.t 8) (.c Tn192 0), guard := some (7, false) },
  { dst := some 10, op := .call 86 [(.t 9)], guard := some (7, false) },
  { dst := some 11, op := .un .not (.t 10), guard := some (7, false) },
  { dst := some 12, op := .pick (.t 7) (.c .bool true) (.t 11) }]
def c72_r2 : List AI := [{ dst := some 2, op := .asg (.c Tn192 0) }]
def c72_r3 : List AI := [{ dst := some 3, op := .asg (.c Tn192 1) }]
def c72_r4 : List AI := [{ dst := some 13, op := .mv (.t 3) },
  { dst := some 14, op := .mv (.t 0) },
  { dst := some 15, op := .lenS (.t 14) },
  { dst := some 16, op := .bin .lss (.t 13) (.t 15) }]
def c72_r5 : List AI := [{ dst := some 17, op := .mv (.t 0) },
  { dst := some 18, op := .mv (.t 3) },
  { dst := some 19, op := .indexS (.t 17) (.t 18) },
  { dst := some 4, op := .asg (.t 19) }]
def c72_r7 : List AI := [{ dst := some 22, op := .mv (.t 4) },
  { dst := some 23, op := .call 86 [(.t 22)] },
  { dst := some 24, op := .mv (.t 23) },
  { dst := some 25, op := .mv (.t 4), guard := some (24, false) },
  { dst := some 26, op := .call 87 [(.t 25)], guard := some (24, false) },
  { dst := some 27, op := .pick (.t 24) (.c .bool true) (.t 26) },
  { dst := some 21, op := .asg (.t 27) }]
def c72_r8 : List AI := [{ dst := some 28, op := .mv (.t 3) },
  { dst := some 29, op := .bin .add (.t 28) (.c Tn192 1) },
  { dst := some 3, op := .asg (.t 29) }]
def c72_r9 : List AI := [{ dst := some 31, op := .mv (.t 4) },
  { dst := some 32, op := .bin .eql (.t 31) (.c Tn190 45) },
  { dst := some 33, op := .mv (.t 32) },
  { dst := some 34, op := .mv (.t 3), guard := some (33, true) },
  { dst := some 35, op := .bin .add (.t 34) (.c Tn192 1), guard := some (33, true) },
  { dst := some 36, op := .mv (.t 0), guard := some (33, true) },
  { dst := some 37, op := .lenS (.t 36), guard := some (33, true) },
  { dst := some 38, op := .bin .lss (.t 35) (.t 37), guard := some (33, true) },
  { dst := some 39, op := .pick (.t 33) (.t 38) (.c .bool false) },
  { dst := some 40, op := .mv (.t 39) },
  { dst := some 41, op := .mv (.t 0), guard := some (40, true) },
  { dst := some 42, op := .mv (.t 3), guard := some (40, true) },
  { dst := some 43, op := .bin .add (.t 42) (.c Tn192 1), guard := some (40, true) },
  { dst := some 44, op := .indexS (.t 41) (.t 43), guard := some (40, true) },
  { dst := some 45, op := .call 86 [(.t 44)], guard := some (40, true) },
  { dst := some 46, op := .mv (.t 45), guard := some (40, true) },
  { dst := some 47, op := .mv (.t 0), guard := some (46, false) },
  { dst := some 48, op := .mv (.t 3), guard := some (46, false) },
  { dst := some 49, op := .bin .add (.t 48) (.c Tn192 1), guard := some (46, false) },
  { dst := some 50, op := .indexS (.t 47) (.t 49), guard := some (46, false) },
  { dst := some 51, op := .call 87 [(.t 50)], guard := some (46, false) },
  { dst := some 52, op := .pick (.t 46) (.c .bool true) (.t 51), guard := some (40, true) },
  { dst := some 53, op := .pick (.t 40) (.t 52) (.c .bool false) },
  { dst := some 30, op := .asg (.t 53) }]
def c72_r10 : List AI := [{ dst := some 54, op := .mv (.t 3) },
  { dst := some 55, op := .bin .add (.t 54) (.c Tn192 2) },
  { dst := some 3, op := .asg (.t 55) }]
def c72_r6 : List AI := [{ dst := some 20, op := .mv (.t 3) },
  { dst := some 2, op := .asg (.t 20) }]
def c72_r11 : List AI := [{ dst := some 56, op := .mv (.t 3) },
  { dst := some 2, op := .asg (.t 56) }]
def c72 : AC := (.seq (.reg [0] c72_r0) (.seq (.seq (.reg [0] c72_r1) (.cond (.t 12) (.seq (.reg [] c72_r2) .ret) .skip)) (.seq (.reg [0] c72_r3) (.seq (.block 0 (.loop [0, 3] (.seq (.seq (.reg [0, 3] c72_r4) (.cond (.t 16) .skip (.exit 0))) (.block 1 (.seq (.reg [0, 3] c72_r5) (.block 2 (.seq (.reg [0, 3, 4] c72_r7) (.cond (.t 21) (.reg [0, 3] c72_r8) (.seq (.reg [0, 3, 4] c72_r9) (.cond (.t 30) (.reg [0, 3] c72_r10) (.seq (.reg [3] c72_r6) .ret))))))))))) (.seq (.reg [3] c72_r11) .ret)))))
def d72 : FD := { nargs := 1, body := c72, res := [.t 2] }
-- anceps/licence.word
def c73_r0 : List AI := [{ dst := some 2, op := .asg (.c Tn192 0) }]
def c73_r1 : List AI := [{ dst := some 5, op := .mv (.t 0) },
  { dst := some 6, op := .lenS (.t 5) },
  { dst := some 7, op := .bin .gtr (.t 6) (.c Tn192 16) }]
def c73_r2 : List AI := [{ dst := some 2, op := .asg (.c Tn192 3) }]
def c73_r3 : List AI := [{ dst := some 9, op := .mv (.t 0) },
  { dst := some 10, op := .buildSlice 9 .str [(.t 9)] },
  { dst := some 11, op := .call 88 [(.t 10)] },
  { dst := some 8, op := .mv (.t 11) },
  { dst := some 12, op := .extract 8 0 },
  { dst := some 13, op := .extract 8 1 },
  { dst := some 3, op := .asg (.t 12) },
  { dst := some 4, op := .asg (.t 13) }]
def c73_r4 : List AI := [{ dst := some 14, op := .mv (.t 4) },
  { dst := some 15, op := .bin .neq (.t 14) (.c Tn192 0) },
  { dst := some 16, op := .mv (.t 15) },
  { dst := some 17, op := .mv (.t 0), guard := some (16, false) },
  { dst := some 18, op := .call 56 [(.t 17)], guard := some (16, false) },
  { dst := some 19, op := .mv (.t 0), guard := some (16, false) },
  { dst := some 20, op := .bin .neq (.t 18) (.t 19), guard := some (16, false) },
  { dst := some 21, op := .pick (.t 16) (.c .bool true) (.t 20) }]
def c73_r5 : List AI := [{ dst := some 2, op := .asg (.c Tn192 2) }]
def c73_r6 : List AI := [{ dst := some 2, op := .asg (.c Tn192 0) }]
def c73 : AC := (.seq (.reg [0] c73_r0) (.seq (.seq (.reg [0] c73_r1) (.cond (.t 7) (.seq (.reg [] c73_r2) .ret) .skip)) (.seq (.seq (.reg [0] c73_r3) (.seq (.reg [0, 4] c73_r4) (.cond (.t 21) (.seq (.reg [] c73_r5) .ret) .skip))) (.seq (.reg [] c73_r6) .ret))))
def d73 : FD := { nargs := 1, body := c73, res := [.t 2] }
-- slices.Contains[[]string,string]
def c74_r0 : List AI := [{ dst := some 4, op := .asg (.c .bool false) }]
def c74_r1 : List AI := [{ dst := some 5, op := .mv (.t 0) },
  { dst := some 6, op := .mv (.t 1) },
  { dst := some 7, op := .call 89 [(.t 5), (.t 6)] },
  { dst := some 8, op := .bin .geq (.t 7) (.c Tn192 0) },
  { dst := some 4, op := .asg (.t 8) }]
def c74 : AC := (.seq (.reg [0, 1] c74_r0) (.seq (.reg [0, 1] c74_r1) .ret))
def d74 : FD := { nargs := 2, body := c74, res := [.t 4] }
-- anceps/ancepsref05.small
def c76_r0 : List AI := [{ dst := some 2, op := .asg (.c .bool false) }]
def c76_r1 : List AI := [{ dst := some 3, op := .mv (.t 0) },
  { dst := some 4, op := .bin .geq (.t 3) (.c Tn190 97) },
  { dst := some 5, op := .mv (.t 4) },
  { dst := some 6, op := .mv (.t 0), guard := some (5, true) },
  { dst := some 7, op := .bin .leq (.t 6) (.c Tn190 122), guard := some (5, true) },
  { dst := some 8, op := .pick (.t 5) (.t 7) (.c .bool false) },
  { dst := some 2, op := .asg (.t 8) }]
def c76 : AC := (.seq (.reg [0] c76_r0) (.seq (.reg [0] c76_r1) .ret))
def d76 : FD := { nargs := 1, body := c76, res := [.t 2] }
-- anceps/ancepsref05.digit
def c77_r0 : List AI := [{ dst := some 2, op := .asg (.c .bool false) }]
def c77_r1 : List AI := [{ dst := some 3, op := .mv (.t 0) },
  { dst := some 4, op := .bin .geq (.t 3) (.c Tn190 48) },
  { dst := some 5, op := .mv (.t 4) },
  { dst := some 6, op := .mv (.t 0), guard := some (5, true) },
  { dst := some 7, op := .bin .leq (.t 6) (.c Tn190 57), guard := some (5, true) },
  { dst := some 8, op := .pick (.t 5) (.t 7) (.c .bool false) },
  { dst := some 2, op := .asg (.t 8) }]
def c77 : AC := (.seq (.reg [0] c77_r0) (.seq (.reg [0] c77_r1) .ret))
def d77 : FD := { nargs := 1, body := c77, res := [.t 2] }
-- anceps/ancepsref01.Fold
def c78_r0 : List AI := [{ dst := some 2, op := .asg (.c .str []) }]
def c78_r1 : List AI := [{ dst := some 5, op := .mv (.t 0) },
  { dst := some 6, op := .lenS (.t 5) },
  { dst := some 7, op := .mkSlice 5 Tn190 140737488355328 (.t 6) (.t 6) },
  { dst := some 3, op := .asg (.t 7) }]
def c78_r2 : List AI := [{ dst := some 4, op := .asg (.c Tn192 0) }]
def c78_r3 : List AI := [{ dst := some 8, op := .mv (.t 4) },
  { dst := some 9, op := .mv (.t 0) },
  { dst := some 10, op := .lenS (.t 9) },
  { dst := some 11, op := .bin .lss (.t 8) (.t 10) }]
def c78_r5 : List AI := [{ dst := some 14, op := .mv (.t 3) },
  { dst := some 15, op := .mv (.t 4) },
  { dst := some 16, op := .mv (.t 0) },
  { dst := some 17, op := .mv (.t 4) },
  { dst := some 18, op := .indexS (.t 16) (.t 17) },
  { dst := some 19, op := .indexAddr Tn190 (.t 14) (.t 15) },
  { dst := none, op := .store Tn190 (.t 19) (.t 18) }]
def c78_r6 : List AI := [{ dst := some 20, op := .mv (.t 0) },
  { dst := some 21, op := .mv (.t 4) },
  { dst := some 22, op := .indexS (.t 20) (.t 21) },
  { dst := some 23, op := .bin .geq (.t 22) (.c Tn190 65) },
  { dst := some 24, op := .mv (.t 23) },
  { dst := some 25, op := .mv (.t 0), guard := some (24, true) },
  { dst := some 26, op := .mv (.t 4), guard := some (24, true) },
  { dst := some 27, op := .indexS (.t 25) (.t 26), guard := some (24, true) },
  { dst := some 28, op := .bin .leq (.t 27) (.c Tn190 90), guard := some (24, true) },
  { dst := some 29, op := .pick (.t 24) (.t 28) (.c .bool false) }]
def c78_r7 : List AI := [{ dst := some 30, op := .mv (.t 3) },
  { dst := some 31, op := .mv (.t 4) },
  { dst := some 32, op := .mv (.t 0) },
  { dst := some 33, op := .mv (.t 4) },
  { dst := some 34, op := .indexS (.t 32) (.t 33) },
  { dst := some 35, op := .bin .sub (.t 34) (.c Tn190 65) },
  { dst := some 36, op := .bin .add (.t 35) (.c Tn190 97) },
  { dst := some 37, op := .indexAddr Tn190 (.t 30) (.t 31) },
  { dst := none, op := .store Tn190 (.t 37) (.t 36) }]
def c78_r4 : List AI := [{ dst := some 12, op := .mv (.t 4) },
  { dst := some 13, op := .bin .add (.t 12) (.c Tn192 1) },
  { dst := some 4, op := .asg (.t 13) }]
def c78_r8 : List AI := [{ dst := some 38, op := .mv (.t 3) },
  { dst := some 39, op := .toStr (.t 38) },
  { dst := some 2, op := .asg (.t 39) }]
def c78 : AC := (.seq (.reg [0] c78_r0) (.seq (.reg [0] c78_r1) (.seq (.seq (.reg [0, 3, 7] c78_r2) (.block 0 (.loop [0, 3, 4, 7] (.seq (.seq (.reg [0, 3, 4, 7] c78_r3) (.cond (.t 11) .skip (.exit 0))) (.seq (.block 1 (.seq (.reg [0, 3, 4, 7] c78_r5) (.seq (.reg [0, 3, 4, 7] c78_r6) (.cond (.t 29) (.reg [0, 3, 4, 7] c78_r7) .skip)))) (.reg [0, 3, 4, 7] c78_r4)))))) (.seq (.reg [3, 7] c78_r8) .ret))))
def d78 : FD := { nargs := 1, body := c78, res := [.t 2] }
-- anceps/ancepsref01.Letter
def c79_r0 : List AI := [{ dst := some 2, op := .asg (.c .bool false) }]
def c79_r1 : List AI := [{ dst := some 4, op := .mv (.t 0) },
  { dst := some 5, op := .bin .lss (.t 4) (.c Tn190 32) },
  { dst := some 6, op := .mv (.t 5) },
  { dst := some 7, op := .mv (.t 0), guard := some (6, false) },
  { dst := some 8, op := .bin .gtr (.t 7) (.c Tn190 126), guard := some (6, false) },
  { dst := some 9, op := .pick (.t 6) (.c .bool true) (.t 8) }]
def c79_r2 : List AI := [{ dst := some 2, op := .asg (.c .bool false) }]
def c79_r3 : List AI := [{ dst := some 3, op := .asg (.c Tn192 0) }]
def c79_r4 : List AI := [{ dst := some 10, op := .mv (.t 3) },
  { dst := some 11, op := .bin .lss (.t 10) (.c Tn192 15) }]
def c79_r6 : List AI := [{ dst := some 14, op := .mv (.t 3) },
  { dst := some 15, op := .indexS (.c .str [32, 46, 44, 59, 58, 33, 63, 34, 45, 91, 93, 60, 62, 123, 125]) (.t 14) },
  { dst := some 16, op := .mv (.t 0) },
  { dst := some 17, op := .bin .eql (.t 15) (.t 16) }]
def c79_r7 : List AI := [{ dst := some 2, op := .asg (.c .bool false) }]
def c79_r5 : List AI := [{ dst := some 12, op := .mv (.t 3) },
  { dst := some 13, op := .bin .add (.t 12) (.c Tn192 1) },
  { dst := some 3, op := .asg (.t 13) }]
def c79_r8 : List AI := [{ dst := some 2, op := .asg (.c .bool true) }]
def c79 : AC := (.seq (.reg [0] c79_r0) (.seq (.seq (.reg [0] c79_r1) (.cond (.t 9) (.seq (.reg [] c79_r2) .ret) .skip)) (.seq (.seq (.reg [0] c79_r3) (.block 0 (.loop [0, 3] (.seq (.seq (.reg [0, 3] c79_r4) (.cond (.t 11) .skip (.exit 0))) (.seq (.block 1 (.seq (.reg [0, 3] c79_r6) (.cond (.t 17) (.seq (.reg [] c79_r7) .ret) .skip))) (.reg [0, 3] c79_r5)))))) (.seq (.reg [] c79_r8) .ret))))
def d79 : FD := { nargs := 1, body := c79, res := [.t 2] }
-- anceps/ancepsref11.letter
def c81_r0 : List AI := [{ dst := some 2, op := .asg (.c .bool false) }]
def c81_r1 : List AI := [{ dst := some 3, op := .mv (.t 0) },
  { dst := some 4, op := .bin .geq (.t 3) (.c Tn190 97) },
  { dst := some 5, op := .mv (.t 4) },
  { dst := some 6, op := .mv (.t 0), guard := some (5, true) },
  { dst := some 7, op := .bin .leq (.t 6) (.c Tn190 122), guard := some (5, true) },
  { dst := some 8, op := .pick (.t 5) (.t 7) (.c .bool false) },
  { dst := some 9, op := .mv (.t 8) },
  { dst := some 10, op := .mv (.t 0), guard := some (9, false) },
  { dst := some 11, op := .bin .geq (.t 10) (.c Tn190 48), guard := some (9, false) },
  { dst := some 12, op := .mv (.t 11), guard := some (9, false) },
  { dst := some 13, op := .mv (.t 0), guard := some (12, true) },
  { dst := some 14, op := .bin .leq (.t 13) (.c Tn190 57), guard := some (12, true) },
  { dst := some 15, op := .pick (.t 12) (.t 14) (.c .bool false), guard := some (9, false) },
  { dst := some 16, op := .pick (.t 9) (.c .bool true) (.t 15) },
  { dst := some 17, op := .mv (.t 16) },
  { dst := some 18, op := .mv (.t 0), guard := some (17, false) },
  { dst := some 19, op := .bin .eql (.t 18) (.c Tn190 95), guard := some (17, false) },
  { dst := some 20, op := .pick (.t 17) (.c .bool true) (.t 19) },
  { dst := some 21, op := .mv (.t 20) },
  { dst := some 22, op := .mv (.t 0), guard := some (21, false) },
  { dst := some 23, op := .bin .eql (.t 22) (.c Tn190 94), guard := some (21, false) },
  { dst := some 24, op := .pick (.t 21) (.c .bool true) (.t 23) },
  { dst := some 25, op := .mv (.t 24) },
  { dst := some 26, op := .mv (.t 0), guard := some (25, false) },
  { dst := some 27, op := .bin .eql (.t 26) (.c Tn190 39), guard := some (25, false) },
  { dst := some 28, op := .pick (.t 25) (.c .bool true) (.t 27) },
  { dst := some 2, op := .asg (.t 28) }]
def c81 : AC := (.seq (.reg [0] c81_r0) (.seq (.reg [0] c81_r1) .ret))
def d81 : FD := { nargs := 1, body := c81, res := [.t 2] }
-- anceps/ancepsref05.space
def c82_r0 : List AI := [{ dst := some 2, op := .asg (.c Tn192 0) }]
def c82_r1 : List AI := [{ dst := some 3, op := .asg (.c Tn192 0) }]
def c82_r2 : List AI := [{ dst := some 4, op := .mv (.t 3) },
  { dst := some 5, op := .mv (.t 0) },
  { dst := some 6, op := .lenS (.t 5) },
  { dst := some 7, op := .bin .lss (.t 4) (.t 6) }]
def c82_r3 : List AI := [{ dst := some 8, op := .mv (.t 0) },
  { dst := some 9, op := .mv (.t 3) },
  { dst := some 10, op := .indexS (.t 8) (.t 9) }]
def c82_r5 : List AI := [{ dst := some 13, op := .bin .eql (.t 10) (.c Tn190 32) },
  { dst := some 12, op := .asg (.t 13) }]
def c82_r6 : List AI := [{ dst := some 14, op := .bin .eql (.t 10) (.c Tn190 9) },
  { dst := some 12, op := .asg (.t 14) }]
def c82_r7 : List AI := [{ dst := some 15, op := .bin .eql (.t 10) (.c Tn190 10) },
  { dst := some 12, op := .asg (.t 15) }]
def c82_r8 : List AI := [{ dst := some 16, op := .bin .eql (.t 10) (.c Tn190 13) },
  { dst := some 12, op := .asg (.t 16) }]
def c82_r9 : List AI := [{ dst := some 17, op := .mv (.t 3) },
  { dst := some 18, op := .bin .add (.t 17) (.c Tn192 1) },
  { dst := some 3, op := .asg (.t 18) }]
def c82_r10 : List AI := [{ dst := some 20, op := .bin .eql (.t 10) (.c Tn190 35) },
  { dst := some 19, op := .asg (.t 20) }]
def c82_r11 : List AI := [{ dst := some 21, op := .mv (.t 3) },
  { dst := some 22, op := .mv (.t 0) },
  { dst := some 23, op := .lenS (.t 22) },
  { dst := some 24, op := .bin .lss (.t 21) (.t 23) },
  { dst := some 25, op := .mv (.t 24) },
  { dst := some 26, op := .mv (.t 0), guard := some (25, true) },
  { dst := some 27, op := .mv (.t 3), guard := some (25, true) },
  { dst := some 28, op := .indexS (.t 26) (.t 27), guard := some (25, true) },
  { dst := some 29, op := .bin .neq (.t 28) (.c Tn190 10), guard := some (25, true) },
  { dst := some 30, op := .pick (.t 25) (.t 29) (.c .bool false) }]
def c82_r12 : List AI := [{ dst := some 31, op := .mv (.t 3) },
  { dst := some 32, op := .bin .add (.t 31) (.c Tn192 1) },
  { dst := some 3, op := .asg (.t 32) }]
def c82_r4 : List AI := [{ dst := some 11, op := .mv (.t 3) },
  { dst := some 2, op := .asg (.t 11) }]
def c82_r13 : List AI := [{ dst := some 33, op := .mv (.t 3) },
  { dst := some 2, op := .asg (.t 33) }]
def c82 : AC := (.seq (.reg [0] c82_r0) (.seq (.reg [0] c82_r1) (.seq (.block 0 (.loop [0, 3] (.seq (.seq (.reg [0, 3] c82_r2) (.cond (.t 7) .skip (.exit 0))) (.block 1 (.seq (.reg [0, 3] c82_r3) (.block 2 (.seq (.seq (.reg [0, 3, 10] c82_r5) (.cond (.t 12) .skip (.seq (.reg [0, 3, 10] c82_r6) (.cond (.t 12) .skip (.seq (.reg [0, 3, 10] c82_r7) (.cond (.t 12) .skip (.reg [0, 3, 10] c82_r8))))))) (.cond (.t 12) (.reg [0, 3] c82_r9) (.seq (.reg [0, 3, 10] c82_r10) (.cond (.t 19) (.block 3 (.loop [0, 3] (.seq (.seq (.reg [0, 3] c82_r11) (.cond (.t 30) .skip (.exit 3))) (.block 4 (.reg [0, 3] c82_r12))))) (.seq (.reg [3] c82_r4) .ret))))))))))) (.seq (.reg [3] c82_r13) .ret))))
def d82 : FD := { nargs := 1, body := c82, res := [.t 2] }
-- anceps/ancepsref05.feeds
def c83_r0 : List AI := [{ dst := some 2, op := .asg (.c Tn192 0) }]
def c83_r1 : List AI := [{ dst := some 3, op := .asg (.c Tn192 0) }]
def c83_r2 : List AI := [{ dst := some 4, op := .asg (.c Tn192 0) }]
def c83_r3 : List AI := [{ dst := some 5, op := .mv (.t 4) },
  { dst := some 6, op := .mv (.t 0) },
  { dst := some 7, op := .lenS (.t 6) },
  { dst := some 8, op := .bin .lss (.t 5) (.t 7) }]
def c83_r5 : List AI := [{ dst := some 11, op := .mv (.t 0) },
  { dst := some 12, op := .mv (.t 4) },
  { dst := some 13, op := .indexS (.t 11) (.t 12) },
  { dst := some 14, op := .bin .eql (.t 13) (.c Tn190 10) }]
def c83_r6 : List AI := [{ dst := some 15, op := .mv (.t 3) },
  { dst := some 16, op := .bin .add (.t 15) (.c Tn192 1) },
  { dst := some 3, op := .asg (.t 16) }]
def c83_r4 : List AI := [{ dst := some 9, op := .mv (.t 4) },
  { dst := some 10, op := .bin .add (.t 9) (.c Tn192 1) },
  { dst := some 4, op := .asg (.t 10) }]
def c83_r7 : List AI := [{ dst := some 17, op := .mv (.t 3) },
  { dst := some 2, op := .asg (.t 17) }]
def c83 : AC := (.seq (.reg [0] c83_r0) (.seq (.reg [0] c83_r1) (.seq (.seq (.reg [0, 3] c83_r2) (.block 0 (.loop [0, 3, 4] (.seq (.seq (.reg [0, 3, 4] c83_r3) (.cond (.t 8) .skip (.exit 0))) (.seq (.block 1 (.seq (.reg [0, 3, 4] c83_r5) (.cond (.t 14) (.reg [0, 3, 4] c83_r6) .skip))) (.reg [0, 3, 4] c83_r4)))))) (.seq (.reg [3] c83_r7) .ret))))
def d83 : FD := { nargs := 1, body := c83, res := [.t 2] }
-- anceps/ancepsref05.next
def c84_r0 : List AI := [{ dst := some 2, op := .alloc Tn1916 .no },
  { dst := some 3, op := .asg (.c Tn192 0) },
  { dst := some 4, op := .asg (.c Tn192 0) }]
def c84_r1 : List AI := [{ dst := some 7, op := .mv (.t 0) },
  { dst := some 8, op := .call 58 [(.t 7)] },
  { dst := some 5, op := .asg (.t 8) }]
def c84_r2 : List AI := [{ dst := some 9, op := .mv (.t 5) },
  { dst := some 10, op := .bin .gtr (.t 9) (.c Tn192 0) }]
def c84_r3 : List AI := [{ dst := some 11, op := .mv (.t 5) },
  { dst := some 12, op := .bin .gtr (.t 11) (.c Tn192 20) }]
def c84_r4 : List AI := [{ dst := some 13, op := .build Tn1916 [] },
  { dst := none, op := .store Tn1916 (.t 2) (.t 13) },
  { dst := some 3, op := .asg (.c Tn192 0) },
  { dst := some 4, op := .asg (.c Tn192 3) }]
def c84_r5 : List AI := [{ dst := some 14, op := .mv (.t 0) },
  { dst := some 15, op := .mv (.t 5) },
  { dst := some 16, op := .sliceS (.t 14) none (some (.t 15)) },
  { dst := some 17, op := .build Tn1916 [([.l], (.c Tn192 1)), ([.r, .l], (.t 16))] },
  { dst := some 18, op := .mv (.t 5) },
  { dst := none, op := .store Tn1916 (.t 2) (.t 17) },
  { dst := some 3, op := .asg (.t 18) },
  { dst := some 4, op := .asg (.c Tn192 0) }]
def c84_r6 : List AI := [{ dst := some 19, op := .mv (.t 0) },
  { dst := some 20, op := .call 94 [(.t 19)] },
  { dst := some 6, op := .asg (.t 20) }]
def c84_r7 : List AI := [{ dst := some 21, op := .mv (.t 6) },
  { dst := some 22, op := .bin .gtr (.t 21) (.c Tn192 0) }]
def c84_r8 : List AI := [{ dst := some 23, op := .mv (.t 6) },
  { dst := some 24, op := .bin .gtr (.t 23) (.c Tn192 6) }]
def c84_r9 : List AI := [{ dst := some 25, op := .build Tn1916 [] },
  { dst := none, op := .store Tn1916 (.t 2) (.t 25) },
  { dst := some 3, op := .asg (.c Tn192 0) },
  { dst := some 4, op := .asg (.c Tn192 3) }]
def c84_r10 : List AI := [{ dst := some 26, op := .mv (.t 0) },
  { dst := some 27, op := .indexS (.t 26) (.c Tn192 0) },
  { dst := some 28, op := .bin .eql (.t 27) (.c Tn190 48) },
  { dst := some 29, op := .mv (.t 28) },
  { dst := some 30, op := .mv (.t 6), guard := some (29, true) },
  { dst := some 31, op := .bin .gtr (.t 30) (.c Tn192 1), guard := some (29, true) },
  { dst := some 32, op := .pick (.t 29) (.t 31) (.c .bool false) }]
def c84_r11 : List AI := [{ dst := some 33, op := .build Tn1916 [] },
  { dst := none, op := .store Tn1916 (.t 2) (.t 33) },
  { dst := some 3, op := .asg (.c Tn192 0) },
  { dst := some 4, op := .asg (.c Tn192 2) }]
def c84_r12 : List AI := [{ dst := some 34, op := .mv (.t 0) },
  { dst := some 35, op := .mv (.t 6) },
  { dst := some 36, op := .sliceS (.t 34) none (some (.t 35)) },
  { dst := some 37, op := .build Tn1916 [([.l], (.c Tn192 2)), ([.r, .l], (.t 36))] },
  { dst := some 38, op := .mv (.t 6) },
  { dst := none, op := .store Tn1916 (.t 2) (.t 37) },
  { dst := some 3, op := .asg (.t 38) },
  { dst := some 4, op := .asg (.c Tn192 0) }]
def c84_r13 : List AI := [{ dst := some 39, op := .mv (.t 0) },
  { dst := some 40, op := .indexS (.t 39) (.c Tn192 0) },
  { dst := some 41, op := .bin .eql (.t 40) (.c Tn190 34) }]
def c84_r14 : List AI := [{ dst := some 42, op := .mv (.t 0) },
  { dst := some 43, op := .call 95 [(.t 42)] },
  { dst := some 44, op := .extract 43 0 },
  { dst := some 45, op := .extract 43 1 },
  { dst := some 46, op := .extract 43 2 },
  { dst := none, op := .store Tn1916 (.t 2) (.t 44) },
  { dst := some 3, op := .asg (.t 45) },
  { dst := some 4, op := .asg (.t 46) }]
def c84_r15 : List AI := [{ dst := some 47, op := .mv (.t 0) },
  { dst := some 48, op := .indexS (.t 47) (.c Tn192 0) },
  { dst := some 49, op := .call 96 [(.t 48)] }]
def c84_r16 : List AI := [{ dst := some 50, op := .mv (.t 0) },
  { dst := some 51, op := .sliceS (.t 50) none (some (.c Tn192 1)) },
  { dst := some 52, op := .build Tn1916 [([.l], (.c Tn192 4)), ([.r, .l], (.t 51))] },
  { dst := none, op := .store Tn1916 (.t 2) (.t 52) },
  { dst := some 3, op := .asg (.c Tn192 1) },
  { dst := some 4, op := .asg (.c Tn192 0) }]
def c84_r17 : List AI := [{ dst := some 53, op := .build Tn1916 [] },
  { dst := none, op := .store Tn1916 (.t 2) (.t 53) },
  { dst := some 3, op := .asg (.c Tn192 0) },
  { dst := some 4, op := .asg (.c Tn192 2) }]
def c84 : AC := (.seq (.reg [0] c84_r0) (.seq (.seq (.reg [0, 2, 13, 17, 25, 33, 37, 44, 52, 53] c84_r1) (.seq (.reg [0, 2, 5, 13, 17, 25, 33, 37, 44, 52, 53] c84_r2) (.cond (.t 10) (.seq (.seq (.reg [0, 2, 5, 13, 17, 25, 33, 37, 44, 52, 53] c84_r3) (.cond (.t 12) (.seq (.reg [2, 13, 17, 25, 33, 37, 44, 52, 53] c84_r4) .ret) .skip)) (.seq (.reg [0, 2, 5, 13, 17, 25, 33, 37, 44, 52, 53] c84_r5) .ret)) .skip))) (.seq (.seq (.reg [0, 2, 13, 17, 25, 33, 37, 44, 52, 53] c84_r6) (.seq (.reg [0, 2, 6, 13, 17, 25, 33, 37, 44, 52, 53] c84_r7) (.cond (.t 22) (.seq (.seq (.reg [0, 2, 6, 13, 17, 25, 33, 37, 44, 52, 53] c84_r8) (.cond (.t 24) (.seq (.reg [2, 13, 17, 25, 33, 37, 44, 52, 53] c84_r9) .ret) .skip)) (.seq (.seq (.reg [0, 2, 6, 13, 17, 25, 33, 37, 44, 52, 53] c84_r10) (.cond (.t 32) (.seq (.reg [2, 13, 17, 25, 33, 37, 44, 52, 53] c84_r11) .ret) .skip)) (.seq (.reg [0, 2, 6, 13, 17, 25, 33, 37, 44, 52, 53] c84_r12) .ret))) .skip))) (.seq (.seq (.reg [0, 2, 13, 17, 25, 33, 37, 44, 52, 53] c84_r13) (.cond (.t 41) (.seq (.reg [0, 2, 13, 17, 25, 33, 37, 44, 52, 53] c84_r14) .ret) .skip)) (.seq (.seq (.reg [0, 2, 13, 17, 25, 33, 37, 44, 52, 53] c84_r15) (.cond (.t 49) (.seq (.reg [0, 2, 13, 17, 25, 33, 37, 44, 52, 53] c84_r16) .ret) .skip)) (.seq (.reg [2, 13, 17, 25, 33, 37, 44, 52, 53] c84_r17) .ret))))))
def d84 : FD := { nargs := 1, body := c84, res := [.cell 2 Tn1916, .t 3, .t 4] }
-- anceps/ancepsref05.Number
def c85_r0 : List AI := [{ dst := some 2, op := .asg (.c Tn192 0) },
  { dst := some 3, op := .asg (.c .bool false) }]
def c85_r1 : List AI := [{ dst := some 6, op := .mv (.t 0) },
  { dst := some 7, op := .bin .eql (.t 6) (.c .str []) },
  { dst := some 8, op := .mv (.t 7) },
  { dst := some 9, op := .mv (.t 0), guard := some (8, false) },
  { dst := some 10, op := .lenS (.t 9), guard := some (8, false) },
  { dst := some 11, op := .bin .gtr (.t 10) (.c Tn192 6), guard := some (8, false) },
  { dst := some 12, op := .pick (.t 8) (.c .bool true) (.t 11) },
  { dst := some 13, op := .mv (.t 12) },
  { dst := some 14, op := .mv (.t 0), guard := some (13, false) },
  { dst := some 15, op := .call 94 [(.t 14)], guard := some (13, false) },
  { dst := some 16, op := .mv (.t 0), guard := some (13, false) },
  { dst := some 17, op := .lenS (.t 16), guard := some (13, false) },
  { dst := some 18, op := .bin .neq (.t 15) (.t 17), guard := some (13, false) },
  { dst := some 19, op := .pick (.t 13) (.c .bool true) (.t 18) },
  { dst := some 20, op := .mv (.t 19) },
  { dst := some 21, op := .mv (.t 0), guard := some (20, false) },
  { dst := some 22, op := .indexS (.t 21) (.c Tn192 0), guard := some (20, false) },
  { dst := some 23, op := .bin .eql (.t 22) (.c Tn190 48), guard := some (20, false) },
  { dst := some 24, op := .mv (.t 23), guard := some (20, false) },
  { dst := some 25, op := .mv (.t 0), guard := some (24, true) },
  { dst := some 26, op := .lenS (.t 25), guard := some (24, true) },
  { dst := some 27, op := .bin .gtr (.t 26) (.c Tn192 1), guard := some (24, true) },
  { dst := some 28, op := .pick (.t 24) (.t 27) (.c .bool false), guard := some (20, false) },
  { dst := some 29, op := .pick (.t 20) (.c .bool true) (.t 28) }]
def c85_r2 : List AI := [{ dst := some 2, op := .asg (.c Tn192 0) },
  { dst := some 3, op := .asg (.c .bool false) }]
def c85_r3 : List AI := [{ dst := some 4, op := .asg (.c Tn192 0) }]
def c85_r4 : List AI := [{ dst := some 5, op := .asg (.c Tn192 0) }]
def c85_r5 : List AI := [{ dst := some 30, op := .mv (.t 5) },
  { dst := some 31, op := .mv (.t 0) },
  { dst := some 32, op := .lenS (.t 31) },
  { dst := some 33, op := .bin .lss (.t 30) (.t 32) }]
def c85_r7 : List AI := [{ dst := some 36, op := .mv (.t 4) },
  { dst := some 37, op := .bin .mul (.c Tn192 10) (.t 36) },
  { dst := some 38, op := .mv (.t 0) },
  { dst := some 39, op := .mv (.t 5) },
  { dst := some 40, op := .indexS (.t 38) (.t 39) },
  { dst := some 41, op := .bin .sub (.t 40) (.c Tn190 48) },
  { dst := some 42, op := .convI .i64 (.t 41) },
  { dst := some 43, op := .bin .add (.t 37) (.t 42) },
  { dst := some 4, op := .asg (.t 43) }]
def c85_r6 : List AI := [{ dst := some 34, op := .mv (.t 5) },
  { dst := some 35, op := .bin .add (.t 34) (.c Tn192 1) },
  { dst := some 5, op := .asg (.t 35) }]
def c85_r8 : List AI := [{ dst := some 44, op := .mv (.t 4) },
  { dst := some 2, op := .asg (.t 44) },
  { dst := some 3, op := .asg (.c .bool true) }]
def c85 : AC := (.seq (.reg [0] c85_r0) (.seq (.seq (.reg [0] c85_r1) (.cond (.t 29) (.seq (.reg [] c85_r2) .ret) .skip)) (.seq (.reg [0] c85_r3) (.seq (.seq (.reg [0, 4] c85_r4) (.block 0 (.loop [0, 4, 5] (.seq (.seq (.reg [0, 4, 5] c85_r5) (.cond (.t 33) .skip (.exit 0))) (.seq (.block 1 (.reg [0, 4, 5] c85_r7)) (.reg [0, 4, 5] c85_r6)))))) (.seq (.reg [4] c85_r8) .ret)))))
def d85 : FD := { nargs := 1, body := c85, res := [.t 2, .t 3] }
-- anceps/token.small
def c86_r0 : List AI := [{ dst := some 2, op := .asg (.c .bool false) }]
def c86_r1 : List AI := [{ dst := some 3, op := .mv (.t 0) },
  { dst := some 4, op := .bin .geq (.t 3) (.c Tn190 97) },
  { dst := some 5, op := .mv (.t 4) },
  { dst := some 6, op := .mv (.t 0), guard := some (5, true) },
  { dst := some 7, op := .bin .leq (.t 6) (.c Tn190 122), guard := some (5, true) },
  { dst := some 8, op := .pick (.t 5) (.t 7) (.c .bool false) },
  { dst := some 2, op := .asg (.t 8) }]
def c86 : AC := (.seq (.reg [0] c86_r0) (.seq (.reg [0] c86_r1) .ret))
def d86 : FD := { nargs := 1, body := c86, res := [.t 2] }
-- anceps/token.digit
def c87_r0 : List AI := [{ dst := some 2, op := .asg (.c .bool false) }]
def c87_r1 : List AI := [{ dst := some 3, op := .mv (.t 0) },
  { dst := some 4, op := .bin .geq (.t 3) (.c Tn190 48) },
  { dst := some 5, op := .mv (.t 4) },
  { dst := some 6, op := .mv (.t 0), guard := some (5, true) },
  { dst := some 7, op := .bin .leq (.t 6) (.c Tn190 57), guard := some (5, true) },
  { dst := some 8, op := .pick (.t 5) (.t 7) (.c .bool false) },
  { dst := some 2, op := .asg (.t 8) }]
def c87 : AC := (.seq (.reg [0] c87_r0) (.seq (.reg [0] c87_r1) .ret))
def d87 : FD := { nargs := 1, body := c87, res := [.t 2] }
-- anceps/text.Join
def c88_r0 : List AI := [{ dst := some 2, op := .asg (.c .str []) },
  { dst := some 3, op := .asg (.c Tn192 0) }]
def c88_r1 : List AI := [{ dst := some 7, op := .mv (.t 0) },
  { dst := some 8, op := .lenL (.t 7) },
  { dst := some 9, op := .mv (.c Tn192 0) }]
def c88_r2 : List AI := [{ dst := some 10, op := .bin .lss (.t 9) (.t 8) }]
def c88_r3 : List AI := [{ dst := some 11, op := .indexAddr .str (.t 7) (.t 9) },
  { dst := some 12, op := .load .str (.t 11) },
  { dst := some 5, op := .asg (.t 12) }]
def c88_r4 : List AI := [{ dst := some 13, op := .mv (.t 5) },
  { dst := some 14, op := .bin .eql (.t 13) (.c .str []) }]
def c88_r5 : List AI := [{ dst := some 2, op := .asg (.c .str []) },
  { dst := some 3, op := .asg (.c Tn192 7) }]
def c88_r6 : List AI := [{ dst := some 15, op := .mv (.t 5) },
  { dst := some 16, op := .toSl (.t 15) },
  { dst := some 17, op := .call 97 [(.t 16), (.fn 98 (.pair Tn190 .unit) .bool)] }]
def c88_r7 : List AI := [{ dst := some 2, op := .asg (.c .str []) },
  { dst := some 3, op := .asg (.c Tn192 2) }]
def c88_r8 : List AI := [{ dst := some 18, op := .bin .add (.t 9) (.c Tn192 1) },
  { dst := some 9, op := .mv (.t 18) }]
def c88_r9 : List AI := [{ dst := some 19, op := .mv (.t 0) },
  { dst := some 20, op := .call 100 [(.t 19), (.c .str [32])] },
  { dst := some 6, op := .asg (.t 20) }]
def c88_r10 : List AI := [{ dst := some 21, op := .mv (.t 6) },
  { dst := some 22, op := .lenS (.t 21) },
  { dst := some 23, op := .bin .gtr (.t 22) (.c Tn192 120) }]
def c88_r11 : List AI := [{ dst := some 2, op := .asg (.c .str []) },
  { dst := some 3, op := .asg (.c Tn192 3) }]
def c88_r12 : List AI := [{ dst := some 24, op := .mv (.t 6) },
  { dst := some 2, op := .asg (.t 24) },
  { dst := some 3, op := .asg (.c Tn192 0) }]
def c88 : AC := (.seq (.reg [0] c88_r0) (.seq (.seq (.reg [0] c88_r1) (.block 0 (.loop [0, 7, 8, 9] (.seq (.reg [0, 7, 8, 9] c88_r2) (.seq (.cond (.t 10) .skip (.exit 0)) (.seq (.block 1 (.seq (.reg [0, 7, 8, 9] c88_r3) (.seq (.seq (.reg [0, 5, 7, 8, 9] c88_r4) (.cond (.t 14) (.seq (.reg [] c88_r5) .ret) .skip)) (.seq (.reg [0, 5, 7, 8, 9] c88_r6) (.cond (.t 17) (.seq (.reg [] c88_r7) .ret) .skip))))) (.reg [0, 7, 8, 9] c88_r8))))))) (.seq (.reg [0] c88_r9) (.seq (.seq (.reg [6] c88_r10) (.cond (.t 23) (.seq (.reg [] c88_r11) .ret) .skip)) (.seq (.reg [6] c88_r12) .ret)))))
def d88 : FD := { nargs := 1, body := c88, res := [.t 2, .t 3] }
-- slices.Index[[]string,string]
def c89_r0 : List AI := [{ dst := some 4, op := .asg (.c Tn192 0) }]
def c89_r1 : List AI := [{ dst := some 6, op := .mv (.t 0) },
  { dst := some 7, op := .lenL (.t 6) },
  { dst := some 8, op := .mv (.c Tn192 0) }]
def c89_r2 : List AI := [{ dst := some 9, op := .bin .lss (.t 8) (.t 7) }]
def c89_r3 : List AI := [{ dst := some 10, op := .mv (.t 8) },
  { dst := some 5, op := .asg (.t 10) }]
def c89_r4 : List AI := [{ dst := some 11, op := .mv (.t 1) },
  { dst := some 12, op := .mv (.t 0) },
  { dst := some 13, op := .mv (.t 5) },
  { dst := some 14, op := .indexAddr .str (.t 12) (.t 13) },
  { dst := some 15, op := .load .str (.t 14) },
  { dst := some 16, op := .bin .eql (.t 11) (.t 15) }]
def c89_r5 : List AI := [{ dst := some 17, op := .mv (.t 5) },
  { dst := some 4, op := .asg (.t 17) }]
def c89_r6 : List AI := [{ dst := some 18, op := .bin .add (.t 8) (.c Tn192 1) },
  { dst := some 8, op := .mv (.t 18) }]
def c89_r7 : List AI := [{ dst := some 4, op := .asg (.c Tn192 (-1)) }]
def c89 : AC := (.seq (.reg [0, 1] c89_r0) (.seq (.seq (.reg [0, 1] c89_r1) (.block 0 (.loop [0, 1, 7, 8] (.seq (.reg [0, 1, 7, 8] c89_r2) (.seq (.cond (.t 9) .skip (.exit 0)) (.seq (.block 1 (.seq (.reg [0, 1, 7, 8] c89_r3) (.seq (.reg [0, 1, 5, 7, 8] c89_r4) (.cond (.t 16) (.seq (.reg [5] c89_r5) .ret) .skip)))) (.reg [0, 1, 7, 8] c89_r6))))))) (.seq (.reg [] c89_r7) .ret)))
def d89 : FD := { nargs := 2, body := c89, res := [.t 4] }
-- anceps/ancepsref05.digits
def c94_r0 : List AI := [{ dst := some 2, op := .asg (.c Tn192 0) }]
def c94_r1 : List AI := [{ dst := some 3, op := .asg (.c Tn192 0) }]
def c94_r2 : List AI := [{ dst := some 4, op := .mv (.t 3) },
  { dst := some 5, op := .mv (.t 0) },
  { dst := some 6, op := .lenS (.t 5) },
  { dst := some 7, op := .bin .lss (.t 4) (.t 6) },
  { dst := some 8, op := .mv (.t 7) },
  { dst := some 9, op := .mv (.t 0), guard := some (8, true) },
  { dst := some 10, op := .mv (.t 3), guard := some (8, true) },
  { dst := some 11, op := .indexS (.t 9) (.t 10), guard := some (8, true) },
  { dst := some 12, op := .call 77 [(.t 11)], guard := some (8, true) },
  { dst := some 13, op := .pick (.t 8) (.t 12) (.c .bool false) }]
def c94_r3 : List AI := [{ dst := some 14, op := .mv (.t 3) },
  { dst := some 15, op := .bin .add (.t 14) (.c Tn192 1) },
  { dst := some 3, op := .asg (.t 15) }]
def c94_r4 : List AI := [{ dst := some 16, op := .mv (.t 3) },
  { dst := some 2, op := .asg (.t 16) }]
def c94 : AC := (.seq (.reg [0] c94_r0) (.seq (.reg [0] c94_r1) (.seq (.block 0 (.loop [0, 3] (.seq (.seq (.reg [0, 3] c94_r2) (.cond (.t 13) .skip (.exit 0))) (.block 1 (.reg [0, 3] c94_r3))))) (.seq (.reg [3] c94_r4) .ret))))
def d94 : FD := { nargs := 1, body := c94, res := [.t 2] }
-- anceps/ancepsref05.inQuotes
def c95_r0 : List AI := [{ dst := some 2, op := .alloc Tn1916 .no },
  { dst := some 3, op := .asg (.c Tn192 0) },
  { dst := some 4, op := .asg (.c Tn192 0) }]
def c95_r1 : List AI := [{ dst := some 5, op := .asg (.c Tn192 1) }]
def c95_r2 : List AI := [{ dst := some 6, op := .mv (.t 5) },
  { dst := some 7, op := .mv (.t 0) },
  { dst := some 8, op := .lenS (.t 7) },
  { dst := some 9, op := .bin .lss (.t 6) (.t 8) },
  { dst := some 10, op := .mv (.t 9) },
  { dst := some 11, op := .mv (.t 0), guard := some (10, true) },
  { dst := some 12, op := .mv (.t 5), guard := some (10, true) },
  { dst := some 13, op := .indexS (.t 11) (.t 12), guard := some (10, true) },
  { dst := some 14, op := .call 102 [(.t 13)], guard := some (10, true) },
  { dst := some 15, op := .pick (.t 10) (.t 14) (.c .bool false) }]
def c95_r3 : List AI := [{ dst := some 16, op := .mv (.t 5) },
  { dst := some 17, op := .bin .add (.t 16) (.c Tn192 1) },
  { dst := some 5, op := .asg (.t 17) }]
def c95_r4 : List AI := [{ dst := some 18, op := .mv (.t 5) },
  { dst := some 19, op := .mv (.t 0) },
  { dst := some 20, op := .lenS (.t 19) },
  { dst := some 21, op := .bin .eql (.t 18) (.t 20) },
  { dst := some 22, op := .mv (.t 21) },
  { dst := some 23, op := .mv (.t 0), guard := some (22, false) },
  { dst := some 24, op := .mv (.t 5), guard := some (22, false) },
  { dst := some 25, op := .indexS (.t 23) (.t 24), guard := some (22, false) },
  { dst := some 26, op := .bin .neq (.t 25) (.c Tn190 34), guard := some (22, false) },
  { dst := some 27, op := .pick (.t 22) (.c .bool true) (.t 26) }]
def c95_r5 : List AI := [{ dst := some 28, op := .build Tn1916 [] },
  { dst := none, op := .store Tn1916 (.t 2) (.t 28) },
  { dst := some 3, op := .asg (.c Tn192 0) },
  { dst := some 4, op := .asg (.c Tn192 2) }]
def c95_r6 : List AI := [{ dst := some 29, op := .mv (.t 5) },
  { dst := some 30, op := .bin .sub (.t 29) (.c Tn192 1) },
  { dst := some 31, op := .bin .gtr (.t 30) (.c Tn192 60) }]
def c95_r7 : List AI := [{ dst := some 32, op := .build Tn1916 [] },
  { dst := none, op := .store Tn1916 (.t 2) (.t 32) },
  { dst := some 3, op := .asg (.c Tn192 0) },
  { dst := some 4, op := .asg (.c Tn192 3) }]
def c95_r8 : List AI := [{ dst := some 33, op := .mv (.t 0) },
  { dst := some 34, op := .mv (.t 5) },
  { dst := some 35, op := .sliceS (.t 33) (some (.c Tn192 1)) (some (.t 34)) },
  { dst := some 36, op := .build Tn1916 [([.l], (.c Tn192 3)), ([.r, .l], (.t 35))] },
  { dst := some 37, op := .mv (.t 5) },
  { dst := some 38, op := .bin .add (.t 37) (.c Tn192 1) },
  { dst := none, op := .store Tn1916 (.t 2) (.t 36) },
  { dst := some 3, op := .asg (.t 38) },
  { dst := some 4, op := .asg (.c Tn192 0) }]
def c95 : AC := (.seq (.reg [0] c95_r0) (.seq (.reg [0, 2, 28, 32, 36] c95_r1) (.seq (.block 0 (.loop [0, 2, 5, 28, 32, 36] (.seq (.seq (.reg [0, 2, 5, 28, 32, 36] c95_r2) (.cond (.t 15) .skip (.exit 0))) (.block 1 (.reg [0, 2, 5, 28, 32, 36] c95_r3))))) (.seq (.seq (.reg [0, 2, 5, 28, 32, 36] c95_r4) (.cond (.t 27) (.seq (.reg [2, 28, 32, 36] c95_r5) .ret) .skip)) (.seq (.seq (.reg [0, 2, 5, 28, 32, 36] c95_r6) (.cond (.t 31) (.seq (.reg [2, 28, 32, 36] c95_r7) .ret) .skip)) (.seq (.reg [0, 2, 5, 28, 32, 36] c95_r8) .ret))))))
def d95 : FD := { nargs := 1, body := c95, res := [.cell 2 Tn1916, .t 3, .t 4] }
-- anceps/ancepsref05.sign
def c96_r0 : List AI := [{ dst := some 2, op := .asg (.c .bool false) }]
def c96_r1 : List AI := [{ dst := some 3, op := .asg (.c Tn192 0) }]
def c96_r2 : List AI := [{ dst := some 4, op := .mv (.t 3) },
  { dst := some 5, op := .bin .lss (.t 4) (.c Tn192 21) }]
def c96_r4 : List AI := [{ dst := some 8, op := .mv (.t 3) },
  { dst := some 9, op := .indexS (.c .str [123, 125, 40, 41, 91, 93, 47, 59, 58, 126, 64, 61, 94, 44, 46, 124, 43, 42, 60, 62, 45]) (.t 8) },
  { dst := some 10, op := .mv (.t 0) },
  { dst := some 11, op := .bin .eql (.t 9) (.t 10) }]
def c96_r5 : List AI := [{ dst := some 2, op := .asg (.c .bool true) }]
def c96_r3 : List AI := [{ dst := some 6, op := .mv (.t 3) },
  { dst := some 7, op := .bin .add (.t 6) (.c Tn192 1) },
  { dst := some 3, op := .asg (.t 7) }]
def c96_r6 : List AI := [{ dst := some 2, op := .asg (.c .bool false) }]
def c96 : AC := (.seq (.reg [0] c96_r0) (.seq (.seq (.reg [0] c96_r1) (.block 0 (.loop [0, 3] (.seq (.seq (.reg [0, 3] c96_r2) (.cond (.t 5) .skip (.exit 0))) (.seq (.block 1 (.seq (.reg [0, 3] c96_r4) (.cond (.t 11) (.seq (.reg [] c96_r5) .ret) .skip))) (.reg [0, 3] c96_r3)))))) (.seq (.reg [] c96_r6) .ret)))
def d96 : FD := { nargs := 1, body := c96, res := [.t 2] }
-- slices.ContainsFunc[[]byte,byte]
def c97_r0 : List AI := [{ dst := some 4, op := .asg (.c .bool false) }]
def c97_r1 : List AI := [{ dst := some 5, op := .mv (.t 0) },
  { dst := some 6, op := .mv (.t 1) },
  { dst := some 7, op := .call 103 [(.t 5), (.t 6)] },
  { dst := some 8, op := .bin .geq (.t 7) (.c Tn192 0) },
  { dst := some 4, op := .asg (.t 8) }]
def c97 : AC := (.seq (.reg [0, 1] c97_r0) (.seq (.reg [0, 1] c97_r1) .ret))
def d97 : FD := { nargs := 2, body := c97, res := [.t 4] }
-- anceps/text.Join$1
def c98_r0 : List AI := [{ dst := some 2, op := .asg (.c .bool false) }]
def c98_r1 : List AI := [{ dst := some 3, op := .mv (.t 0) },
  { dst := some 4, op := .call 99 [(.t 3)] },
  { dst := some 5, op := .un .not (.t 4) },
  { dst := some 2, op := .asg (.t 5) }]
def c98 : AC := (.seq (.reg [0] c98_r0) (.seq (.reg [0] c98_r1) .ret))
def d98 : FD := { nargs := 1, body := c98, res := [.t 2] }
-- anceps/text.letter
def c99_r0 : List AI := [{ dst := some 2, op := .asg (.c .bool false) }]
def c99_r1 : List AI := [{ dst := some 3, op := .mv (.t 0) },
  { dst := some 4, op := .bin .geq (.t 3) (.c Tn190 32) },
  { dst := some 5, op := .mv (.t 4) },
  { dst := some 6, op := .mv (.t 0), guard := some (5, true) },
  { dst := some 7, op := .bin .leq (.t 6) (.c Tn190 126), guard := some (5, true) },
  { dst := some 8, op := .pick (.t 5) (.t 7) (.c .bool false) },
  { dst := some 9, op := .mv (.t 8) },
  { dst := some 10, op := .mv (.t 0), guard := some (9, true) },
  { dst := some 11, op := .call 104 [(.c .str [32, 46, 44, 59, 58, 33, 63, 34, 45, 91, 93, 60, 62, 123, 125]), (.t 10)], guard := some (9, true) },
  { dst := some 12, op := .bin .lss (.t 11) (.c Tn192 0), guard := some (9, true) },
  { dst := some 13, op := .pick (.t 9) (.t 12) (.c .bool false) },
  { dst := some 2, op := .asg (.t 13) }]
def c99 : AC := (.seq (.reg [0] c99_r0) (.seq (.reg [0] c99_r1) .ret))
def d99 : FD := { nargs := 1, body := c99, res := [.t 2] }
-- strings.Join
def c100_r0 : List AI := [{ dst := some 4, op := .asg (.c .str []) }]
def c100_r1 : List AI := [{ dst := some 11, op := .mv (.t 0) },
  { dst := some 12, op := .lenL (.t 11) }]
def c100_r2 : List AI := [{ dst := some 14, op := .bin .eql (.t 12) (.c Tn192 0) },
  { dst := some 13, op := .asg (.t 14) }]
def c100_r3 : List AI := [{ dst := some 4, op := .asg (.c .str []) }]
def c100_r4 : List AI := [{ dst := some 16, op := .bin .eql (.t 12) (.c Tn192 1) },
  { dst := some 15, op := .asg (.t 16) }]
def c100_r5 : List AI := [{ dst := some 17, op := .mv (.t 0) },
  { dst := some 18, op := .indexAddr .str (.t 17) (.c Tn192 0) },
  { dst := some 19, op := .load .str (.t 18) },
  { dst := some 4, op := .asg (.t 19) }]
def c100_r6 : List AI := [{ dst := some 5, op := .asg (.c Tn192 0) }]
def c100_r7 : List AI := [{ dst := some 20, op := .mv (.t 1) },
  { dst := some 21, op := .lenS (.t 20) },
  { dst := some 22, op := .bin .gtr (.t 21) (.c Tn192 0) }]
def c100_r8 : List AI := [{ dst := some 23, op := .mv (.t 1) },
  { dst := some 24, op := .lenS (.t 23) },
  { dst := some 25, op := .mv (.t 0) },
  { dst := some 26, op := .lenL (.t 25) },
  { dst := some 27, op := .bin .sub (.t 26) (.c Tn192 1) },
  { dst := some 28, op := .bin .quo (.c Tn192 9223372036854775807) (.t 27) },
  { dst := some 29, op := .bin .geq (.t 24) (.t 28) }]
def c100_r9 : List AI := [{ dst := some 30, op := .bad },
  { dst := none, op := .bad }]
def c100_r10 : List AI := [{ dst := some 31, op := .mv (.t 5) },
  { dst := some 32, op := .mv (.t 1) },
  { dst := some 33, op := .lenS (.t 32) },
  { dst := some 34, op := .mv (.t 0) },
  { dst := some 35, op := .lenL (.t 34) },
  { dst := some 36, op := .bin .sub (.t 35) (.c Tn192 1) },
  { dst := some 37, op := .bin .mul (.t 33) (.t 36) },
  { dst := some 38, op := .bin .add (.t 31) (.t 37) },
  { dst := some 5, op := .asg (.t 38) }]
def c100_r11 : List AI := [{ dst := some 39, op := .mv (.t 0) },
  { dst := some 40, op := .lenL (.t 39) },
  { dst := some 41, op := .mv (.c Tn192 0) }]
def c100_r12 : List AI := [{ dst := some 42, op := .bin .lss (.t 41) (.t 40) }]
def c100_r13 : List AI := [{ dst := some 43, op := .indexAddr .str (.t 39) (.t 41) },
  { dst := some 44, op := .load .str (.t 43) },
  { dst := some 7, op := .asg (.t 44) }]
def c100_r14 : List AI := [{ dst := some 45, op := .mv (.t 7) },
  { dst := some 46, op := .lenS (.t 45) },
  { dst := some 47, op := .mv (.t 5) },
  { dst := some 48, op := .bin .sub (.c Tn192 9223372036854775807) (.t 47) },
  { dst := some 49, op := .bin .gtr (.t 46) (.t 48) }]
def c100_r15 : List AI := [{ dst := some 50, op := .bad },
  { dst := none, op := .bad }]
def c100_r16 : List AI := [{ dst := some 51, op := .mv (.t 5) },
  { dst := some 52, op := .mv (.t 7) },
  { dst := some 53, op := .lenS (.t 52) },
  { dst := some 54, op := .bin .add (.t 51) (.t 53) },
  { dst := some 5, op := .asg (.t 54) }]
def c100_r17 : List AI := [{ dst := some 55, op := .bin .add (.t 41) (.c Tn192 1) },
  { dst := some 41, op := .mv (.t 55) }]
def c100_r18 : List AI := [{ dst := some 8, op := .bad }]
def c100_r19 : List AI := [{ dst := some 56, op := .mv (.t 5) },
  { dst := some 57, op := .call 105 [(.t 8), (.t 56)] }]
def c100_r20 : List AI := [{ dst := some 58, op := .mv (.t 0) },
  { dst := some 59, op := .indexAddr .str (.t 58) (.c Tn192 0) },
  { dst := some 60, op := .load .str (.t 59) },
  { dst := some 61, op := .call 106 [(.t 8), (.t 60)] }]
def c100_r21 : List AI := [{ dst := some 62, op := .mv (.t 0) },
  { dst := some 63, op := .sliceL .str (.t 62) (some (.c Tn192 1)) none none },
  { dst := some 64, op := .lenL (.t 63) },
  { dst := some 65, op := .mv (.c Tn192 0) }]
def c100_r22 : List AI := [{ dst := some 66, op := .bin .lss (.t 65) (.t 64) }]
def c100_r23 : List AI := [{ dst := some 67, op := .indexAddr .str (.t 63) (.t 65) },
  { dst := some 68, op := .load .str (.t 67) },
  { dst := some 10, op := .asg (.t 68) }]
def c100_r24 : List AI := [{ dst := some 69, op := .mv (.t 1) },
  { dst := some 70, op := .call 106 [(.t 8), (.t 69)] }]
def c100_r25 : List AI := [{ dst := some 71, op := .mv (.t 10) },
  { dst := some 72, op := .call 106 [(.t 8), (.t 71)] }]
def c100_r26 : List AI := [{ dst := some 73, op := .bin .add (.t 65) (.c Tn192 1) },
  { dst := some 65, op := .mv (.t 73) }]
def c100_r27 : List AI := [{ dst := some 74, op := .call 107 [(.t 8)] },
  { dst := some 4, op := .asg (.t 74) }]
def c100 : AC := (.seq (.reg [0, 1] c100_r0) (.seq (.seq (.reg [0, 1] c100_r1) (.block 0 (.seq (.reg [0, 1, 12] c100_r2) (.cond (.t 13) (.seq (.reg [] c100_r3) .ret) (.seq (.reg [0, 1, 12] c100_r4) (.cond (.t 15) (.seq (.reg [0] c100_r5) .ret) .skip)))))) (.seq (.reg [0, 1] c100_r6) (.seq (.seq (.reg [0, 1, 5] c100_r7) (.cond (.t 22) (.seq (.seq (.reg [0, 1, 5] c100_r8) (.cond (.t 29) (.reg [0, 1, 5] c100_r9) .skip)) (.reg [0, 1, 5] c100_r10)) .skip)) (.seq (.seq (.reg [0, 1, 5] c100_r11) (.block 1 (.loop [0, 1, 5, 39, 40, 41] (.seq (.reg [0, 1, 5, 39, 40, 41] c100_r12) (.seq (.cond (.t 42) .skip (.exit 1)) (.seq (.block 2 (.seq (.reg [0, 1, 5, 39, 40, 41] c100_r13) (.seq (.seq (.reg [0, 1, 5, 7, 39, 40, 41] c100_r14) (.cond (.t 49) (.reg [0, 1, 5, 7, 39, 40, 41] c100_r15) .skip)) (.reg [0, 1, 5, 7, 39, 40, 41] c100_r16)))) (.reg [0, 1, 5, 39, 40, 41] c100_r17))))))) (.seq (.reg [0, 1, 5] c100_r18) (.seq (.reg [0, 1, 5, 8] c100_r19) (.seq (.reg [0, 1, 8] c100_r20) (.seq (.seq (.reg [0, 1, 8] c100_r21) (.block 3 (.loop [1, 8, 63, 64, 65] (.seq (.reg [1, 8, 63, 64, 65] c100_r22) (.seq (.cond (.t 66) .skip (.exit 3)) (.seq (.block 4 (.seq (.reg [1, 8, 63, 64, 65] c100_r23) (.seq (.reg [1, 8, 10, 63, 64, 65] c100_r24) (.reg [1, 8, 10, 63, 64, 65] c100_r25)))) (.reg [1, 8, 63, 64, 65] c100_r26))))))) (.seq (.reg [8] c100_r27) .ret))))))))))
def d100 : FD := { nargs := 2, body := c100, res := [.t 4] }
-- anceps/ancepsref05.quoted
def c102_r0 : List AI := [{ dst := some 2, op := .asg (.c .bool false) }]
def c102_r1 : List AI := [{ dst := some 3, op := .mv (.t 0) },
  { dst := some 4, op := .bin .geq (.t 3) (.c Tn190 32) },
  { dst := some 5, op := .mv (.t 4) },
  { dst := some 6, op := .mv (.t 0), guard := some (5, true) },
  { dst := some 7, op := .bin .leq (.t 6) (.c Tn190 126), guard := some (5, true) },
  { dst := some 8, op := .pick (.t 5) (.t 7) (.c .bool false) },
  { dst := some 9, op := .mv (.t 8) },
  { dst := some 10, op := .mv (.t 0), guard := some (9, true) },
  { dst := some 11, op := .bin .neq (.t 10) (.c Tn190 34), guard := some (9, true) },
  { dst := some 12, op := .pick (.t 9) (.t 11) (.c .bool false) },
  { dst := some 2, op := .asg (.t 12) }]
def c102 : AC := (.seq (.reg [0] c102_r0) (.seq (.reg [0] c102_r1) .ret))
def d102 : FD := { nargs := 1, body := c102, res := [.t 2] }
-- slices.IndexFunc[[]byte,byte]
def c103_r0 : List AI := [{ dst := some 4, op := .asg (.c Tn192 0) }]
def c103_r1 : List AI := [{ dst := some 6, op := .mv (.t 0) },
  { dst := some 7, op := .lenL (.t 6) },
  { dst := some 8, op := .mv (.c Tn192 0) }]
def c103_r2 : List AI := [{ dst := some 9, op := .bin .lss (.t 8) (.t 7) }]
def c103_r3 : List AI := [{ dst := some 10, op := .mv (.t 8) },
  { dst := some 5, op := .asg (.t 10) }]
def c103_r4 : List AI := [{ dst := some 11, op := .mv (.t 1) },
  { dst := some 12, op := .mv (.t 0) },
  { dst := some 13, op := .mv (.t 5) },
  { dst := some 14, op := .indexAddr Tn190 (.t 12) (.t 13) },
  { dst := some 15, op := .load Tn190 (.t 14) },
  { dst := some 16, op := .callv (.t 11) [(.t 15)] }]
def c103_r5 : List AI := [{ dst := some 17, op := .mv (.t 5) },
  { dst := some 4, op := .asg (.t 17) }]
def c103_r6 : List AI := [{ dst := some 18, op := .bin .add (.t 8) (.c Tn192 1) },
  { dst := some 8, op := .mv (.t 18) }]
def c103_r7 : List AI := [{ dst := some 4, op := .asg (.c Tn192 (-1)) }]
def c103 : AC := (.seq (.reg [0, 1] c103_r0) (.seq (.seq (.reg [0, 1] c103_r1) (.block 0 (.loop [0, 1, 7, 8] (.seq (.reg [0, 1, 7, 8] c103_r2) (.seq (.cond (.t 9) .skip (.exit 0)) (.seq (.block 1 (.seq (.reg [0, 1, 7, 8] c103_r3) (.seq (.reg [0, 1, 5, 7, 8] c103_r4) (.cond (.t 16) (.seq (.reg [5] c103_r5) .ret) .skip)))) (.reg [0, 1, 7, 8] c103_r6))))))) (.seq (.reg [] c103_r7) .ret)))
def d103 : FD := { nargs := 2, body := c103, res := [.t 4] }
-- strings.IndexByte
def c104_r0 : List AI := [{ dst := some 4, op := .asg (.c Tn192 0) }]
def c104_r1 : List AI := [{ dst := some 5, op := .mv (.t 0) },
  { dst := some 6, op := .mv (.t 1) },
  { dst := some 7, op := .call 109 [(.t 5), (.t 6)] },
  { dst := some 4, op := .asg (.t 7) }]
def c104 : AC := (.seq (.reg [0, 1] c104_r0) (.seq (.reg [0, 1] c104_r1) .ret))
def d104 : FD := { nargs := 2, body := c104, res := [.t 4] }
def table : Table := fun f => match f with
  | 4 => some d4
  | 8 => some d8
  | 10 => some d10
  | 11 => some d11
  | 12 => some d12
  | 13 => some d13
  | 14 => some d14
  | 15 => some d15
  | 16 => some d16
  | 17 => some d17
  | 29 => some d29
  | 31 => some d31
  | 32 => some d32
  | 34 => some d34
  | 35 => some d35
  | 36 => some d36
  | 37 => some d37
  | 38 => some d38
  | 39 => some d39
  | 40 => some d40
  | 41 => some d41
  | 42 => some d42
  | 43 => some d43
  | 44 => some d44
  | 45 => some d45
  | 48 => some d48
  | 50 => some d50
  | 51 => some d51
  | 52 => some d52
  | 53 => some d53
  | 54 => some d54
  | 55 => some d55
  | 56 => some d56
  | 57 => some d57
  | 58 => some d58
  | 59 => some d59
  | 60 => some d60
  | 61 => some d61
  | 62 => some d62
  | 63 => some d63
  | 64 => some d64
  | 65 => some d65
  | 66 => some d66
  | 67 => some d67
  | 68 => some d68
  | 69 => some d69
  | 70 => some d70
  | 71 => some d71
  | 72 => some d72
  | 73 => some d73
  | 74 => some d74
  | 75 => some d75
  | 76 => some d76
  | 77 => some d77
  | 78 => some d78
  | 79 => some d79
  | 80 => some d80
  | 81 => some d81
  | 82 => some d82
  | 83 => some d83
  | 84 => some d84
  | 85 => some d85
  | 86 => some d86
  | 87 => some d87
  | 88 => some d88
  | 89 => some d89
  | 90 => some d90
  | 91 => some d91
  | 92 => some d92
  | 93 => some d93
  | 94 => some d94
  | 95 => some d95
  | 96 => some d96
  | 97 => some d97
  | 98 => some d98
  | 99 => some d99
  | 100 => some d100
  | 101 => some d101
  | 102 => some d102
  | 103 => some d103
  | 104 => some d104
  | 108 => some d108
  | _ => none
end Go.Fw.L19
