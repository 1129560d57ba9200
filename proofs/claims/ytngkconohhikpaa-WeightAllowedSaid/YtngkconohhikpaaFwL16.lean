import Derived.Test.YtngkconohhikpaaFwC
set_option linter.unusedVariables false
set_option linter.unusedSimpArgs false
namespace Go.Fw.L16
open Go Go.Fw
abbrev T160 : Ty := (.int .u8)
abbrev D160 : Type := (List Int)
abbrev T161 : Ty := (.int .i64)
abbrev D161 : Type := (Int × Unit)
abbrev D162 : Type := (D160)
abbrev D163 : Type := (Int × Bool)
abbrev T162 : Ty := (.sl T161)
abbrev T163 : Ty := (.arr 4 T161)
abbrev D164 : Type := (Int × D161)
abbrev T164 : Ty := (.pair T161 .unit)
abbrev D165 : Type := (Int × D164)
abbrev D166 : Type := (D165)
abbrev D167 : Type := (List D165)
abbrev D168 : Type := (D167)
abbrev D169 : Type := (List D167)
abbrev D1610 : Type := (D167 × Int)
abbrev T165 : Ty := (.pair T161 T164)
abbrev D1611 : Type := ((D165 × Unit) → Option Bool)
abbrev T166 : Ty := (.pair T161 T165)
abbrev T167 : Ty := (.sl T166)
abbrev T168 : Ty := (.pair T166 .unit)
abbrev T169 : Ty := (.fn T168 .bool)
-- anceps/weight.light
def c32_r0 : List AI := [{ dst := some 4, op := .alloc T166 .no }]
def c32_0 : AC := .out [0, 1, 4] (.reg [0, 1] c32_r0)
def c32_r1 : List AI := [{ dst := some 5, op := .mv (.t 0) },
  { dst := some 6, op := .mv (.t 1) },
  { dst := some 7, op := .build T166 [([.l], (.c T161 1)), ([.r, .l], (.t 5)), ([.r, .r, .l], (.t 6))] },
  { dst := none, op := .store T166 (.t 4) (.t 7) }]
def c32_1 : AC := .out [4] (.reg [0, 1, 4] c32_r1)
def c32_2 : AC := (.seq c32_0 (.seq c32_1 .ret))
def c32 : AC := c32_2
def d32 : FD := { nargs := 2, body := c32, res := [.cell 4 T166] }
-- anceps/weight.heavy
def c31_r0 : List AI := [{ dst := some 4, op := .alloc T166 .no }]
def c31_0 : AC := .out [0, 1, 4] (.reg [0, 1] c31_r0)
def c31_r1 : List AI := [{ dst := some 5, op := .mv (.t 0) },
  { dst := some 6, op := .mv (.t 1) },
  { dst := some 7, op := .build T166 [([.l], (.c T161 2)), ([.r, .l], (.t 5)), ([.r, .r, .l], (.t 6))] },
  { dst := none, op := .store T166 (.t 4) (.t 7) }]
def c31_1 : AC := .out [4] (.reg [0, 1, 4] c31_r1)
def c31_2 : AC := (.seq c31_0 (.seq c31_1 .ret))
def c31 : AC := c31_2
def d31 : FD := { nargs := 2, body := c31, res := [.cell 4 T166] }
-- anceps/weight.natural
def c30_r0 : List AI := [{ dst := some 4, op := .asg (.nil 33 T166) }]
def c30_0 : AC := .out [0, 1] (.reg [0, 1] c30_r0)
def c30_r1 : List AI := [{ dst := some 5, op := .mv (.t 0) }]
def c30_1 : AC := .out [1, 5] (.reg [0, 1] c30_r1)
def c30_r2 : List AI := [{ dst := some 7, op := .bin .eql (.t 5) (.c T161 1) },
  { dst := some 6, op := .asg (.t 7) }]
def c30_2 : AC := .out [1, 5, 6] (.reg [1, 5] c30_r2)
def c30_r3 : List AI := [{ dst := some 8, op := .mv (.t 1) },
  { dst := some 9, op := .bin .eql (.t 8) (.c T161 0) }]
def c30_3 : AC := .out [1, 9] (.reg [1] c30_r3)
def c30_r4 : List AI := [{ dst := some 10, op := .call 32 [(.c T161 1), (.c T161 0)] },
  { dst := some 11, op := .buildSlice 33 T166 [(.t 10)] },
  { dst := some 4, op := .asg (.t 11) }]
def c30_4 : AC := .out [4] (.reg [] c30_r4)
def c30_5 : AC := .out [1, 4] (.cond (.t 9) (.seq c30_4 .ret) .skip)
def c30_r5 : List AI := [{ dst := some 12, op := .call 32 [(.c T161 1), (.c T161 0)] },
  { dst := some 13, op := .mv (.t 1) },
  { dst := some 14, op := .call 31 [(.c T161 5), (.t 13)] },
  { dst := some 15, op := .buildSlice 33 T166 [(.t 12), (.t 14)] },
  { dst := some 4, op := .asg (.t 15) }]
def c30_6 : AC := .out [4] (.reg [1] c30_r5)
def c30_r6 : List AI := [{ dst := some 17, op := .bin .eql (.t 5) (.c T161 2) },
  { dst := some 16, op := .asg (.t 17) }]
def c30_7 : AC := .out [16] (.reg [5] c30_r6)
def c30_r7 : List AI := [{ dst := some 18, op := .call 31 [(.c T161 2), (.c T161 0)] },
  { dst := some 19, op := .buildSlice 33 T166 [(.t 18)] },
  { dst := some 4, op := .asg (.t 19) }]
def c30_8 : AC := .out [4] (.reg [] c30_r7)
def c30_9 : AC := .out [4] (.cond (.t 16) (.seq c30_8 .ret) .skip)
def c30_10 : AC := .out [4] (.cond (.t 6) (.seq (.seq c30_3 c30_5) (.seq c30_6 .ret)) (.seq c30_7 c30_9))
def c30_11 : AC := .out [4] (.block 0 (.seq c30_2 c30_10))
def c30_r8 : List AI := [{ dst := some 20, op := .call 32 [(.c T161 3), (.c T161 0)] },
  { dst := some 21, op := .call 31 [(.c T161 3), (.c T161 0)] },
  { dst := some 22, op := .buildSlice 33 T166 [(.t 20), (.t 21)] },
  { dst := some 4, op := .asg (.t 22) }]
def c30_12 : AC := .out [4] (.reg [] c30_r8)
def c30_13 : AC := (.seq c30_0 (.seq (.seq c30_1 c30_11) (.seq c30_12 .ret)))
def c30 : AC := c30_13
def d30 : FD := { nargs := 2, body := c30, res := [.t 4] }
-- anceps/weight.Weights
def c19_r0 : List AI := [{ dst := some 2, op := .asg (.c T161 0) }]
def c19_0 : AC := .out [0] (.reg [0] c19_r0)
def c19_r1 : List AI := [{ dst := some 3, op := .asg (.c T161 0) }]
def c19_1 : AC := .out [0, 3] (.reg [0] c19_r1)
def c19_r2 : List AI := [{ dst := some 6, op := .mv (.t 0) },
  { dst := some 7, op := .lenL (.t 6) },
  { dst := some 8, op := .mv (.c T161 0) }]
def c19_2 : AC := .out [3, 6, 7, 8] (.reg [0, 3] c19_r2)
def c19_r3 : List AI := [{ dst := some 9, op := .bin .lss (.t 8) (.t 7) }]
def c19_3 : AC := .out [3, 6, 7, 8, 9] (.reg [3, 6, 7, 8] c19_r3)
def c19_4 : AC := .out [3, 6, 7, 8] (.cond (.t 9) .skip (.exit 0))
def c19_r4 : List AI := [{ dst := some 10, op := .indexAddr T166 (.t 6) (.t 8) },
  { dst := some 11, op := .load T166 (.t 10) },
  { dst := some 5, op := .alloc T166 .no },
  { dst := none, op := .store T166 (.t 5) (.t 11) }]
def c19_5 : AC := .out [3, 5, 6, 7, 8] (.reg [3, 6, 7, 8] c19_r4)
def c19_r5 : List AI := [{ dst := some 12, op := .fieldAddr T166 [.l] (.t 5) },
  { dst := some 13, op := .load T161 (.t 12) },
  { dst := some 14, op := .bin .eql (.t 13) (.c T161 1) },
  { dst := some 15, op := .mv (.t 14) },
  { dst := some 16, op := .fieldAddr T166 [.l] (.t 5), guard := some (15, false) },
  { dst := some 17, op := .load T161 (.t 16), guard := some (15, false) },
  { dst := some 18, op := .bin .eql (.t 17) (.c T161 2), guard := some (15, false) },
  { dst := some 19, op := .pick (.t 15) (.c .bool true) (.t 18) }]
def c19_6 : AC := .out [3, 5, 6, 7, 8, 19] (.reg [3, 5, 6, 7, 8] c19_r5)
def c19_r6 : List AI := [{ dst := some 20, op := .mv (.t 3) },
  { dst := some 21, op := .fieldAddr T166 [.l] (.t 5) },
  { dst := some 22, op := .load T161 (.t 21) },
  { dst := some 23, op := .bin .or (.t 20) (.t 22) },
  { dst := some 3, op := .asg (.t 23) }]
def c19_7 : AC := .out [3, 6, 7, 8] (.reg [3, 5, 6, 7, 8] c19_r6)
def c19_8 : AC := .out [3, 6, 7, 8] (.cond (.t 19) c19_7 .skip)
def c19_9 : AC := .out [3, 6, 7, 8] (.block 1 (.seq c19_5 (.seq c19_6 c19_8)))
def c19_r7 : List AI := [{ dst := some 24, op := .bin .add (.t 8) (.c T161 1) },
  { dst := some 8, op := .mv (.t 24) }]
def c19_10 : AC := .out [3, 6, 7, 8] (.reg [3, 6, 7, 8] c19_r7)
def c19_11 : AC := (.seq c19_3 (.seq c19_4 (.seq c19_9 c19_10)))
def c19_12 : AC := .out [3] (.loop [3, 6, 7, 8] c19_11)
def c19_13 : AC := .out [3] (.block 0 c19_12)
def c19_r8 : List AI := [{ dst := some 25, op := .mv (.t 3) },
  { dst := some 2, op := .asg (.t 25) }]
def c19_14 : AC := .out [2] (.reg [3] c19_r8)
def c19_15 : AC := (.seq c19_0 (.seq c19_1 (.seq (.seq c19_2 c19_13) (.seq c19_14 .ret))))
def c19 : AC := c19_15
def d19 : FD := { nargs := 1, body := c19, res := [.t 2] }
-- anceps/weight.Options
def c12_r0 : List AI := [{ dst := some 4, op := .asg (.nil 33 T166) },
  { dst := some 5, op := .asg (.c T161 0) }]
def c12_0 : AC := .out [0, 1] (.reg [0, 1] c12_r0)
def c12_r1 : List AI := [{ dst := some 8, op := .mv (.t 0) },
  { dst := some 9, op := .bin .lss (.t 8) (.c T161 1) },
  { dst := some 10, op := .mv (.t 9) },
  { dst := some 11, op := .mv (.t 0), guard := some (10, false) },
  { dst := some 12, op := .bin .gtr (.t 11) (.c T161 3), guard := some (10, false) },
  { dst := some 13, op := .pick (.t 10) (.c .bool true) (.t 12) }]
def c12_1 : AC := .out [0, 1, 13] (.reg [0, 1] c12_r1)
def c12_r2 : List AI := [{ dst := some 4, op := .asg (.nil 33 T166) },
  { dst := some 5, op := .asg (.c T161 6) }]
def c12_2 : AC := .out [4, 5] (.reg [] c12_r2)
def c12_3 : AC := .out [0, 1, 4, 5] (.cond (.t 13) (.seq c12_2 .ret) .skip)
def c12_r3 : List AI := [{ dst := some 6, op := .asg (.nil 33 T166) }]
def c12_4 : AC := .out [0, 1] (.reg [0, 1] c12_r3)
def c12_r4 : List AI := [{ dst := some 14, op := .mv (.t 1) }]
def c12_5 : AC := .out [0, 1, 14] (.reg [0, 1] c12_r4)
def c12_r6 : List AI := [{ dst := some 16, op := .bin .eql (.t 14) (.c T161 1) },
  { dst := some 15, op := .asg (.t 16) }]
def c12_6 : AC := .out [0, 1, 14, 15] (.reg [0, 1, 14] c12_r6)
def c12_r7 : List AI := [{ dst := some 17, op := .mv (.t 0) },
  { dst := some 18, op := .call 30 [(.t 17), (.c T161 0)] },
  { dst := some 6, op := .asg (.t 18) }]
def c12_7 : AC := .out [1, 6] (.reg [0, 1] c12_r7)
def c12_r8 : List AI := [{ dst := some 20, op := .bin .eql (.t 14) (.c T161 2) },
  { dst := some 19, op := .asg (.t 20) }]
def c12_8 : AC := .out [0, 1, 14, 19] (.reg [0, 1, 14] c12_r8)
def c12_r9 : List AI := [{ dst := some 21, op := .mv (.t 0) },
  { dst := some 22, op := .call 30 [(.t 21), (.c T161 1)] },
  { dst := some 6, op := .asg (.t 22) }]
def c12_9 : AC := .out [1, 6] (.reg [0, 1] c12_r9)
def c12_r10 : List AI := [{ dst := some 24, op := .bin .eql (.t 14) (.c T161 3) },
  { dst := some 23, op := .asg (.t 24) }]
def c12_10 : AC := .out [0, 1, 14, 23] (.reg [0, 1, 14] c12_r10)
def c12_r11 : List AI := [{ dst := some 25, op := .mv (.t 0) },
  { dst := some 26, op := .call 30 [(.t 25), (.c T161 2)] },
  { dst := some 6, op := .asg (.t 26) }]
def c12_11 : AC := .out [1, 6] (.reg [0, 1] c12_r11)
def c12_r12 : List AI := [{ dst := some 28, op := .bin .eql (.t 14) (.c T161 4) },
  { dst := some 27, op := .asg (.t 28) }]
def c12_12 : AC := .out [1, 27] (.reg [1, 14] c12_r12)
def c12_r13 : List AI := [{ dst := some 29, op := .call 31 [(.c T161 4), (.c T161 0)] },
  { dst := some 30, op := .buildSlice 33 T166 [(.t 29)] },
  { dst := some 6, op := .asg (.t 30) }]
def c12_13 : AC := .out [1, 6] (.reg [1] c12_r13)
def c12_r5 : List AI := [{ dst := some 4, op := .asg (.nil 33 T166) },
  { dst := some 5, op := .asg (.c T161 6) }]
def c12_14 : AC := .out [4, 5] (.reg [] c12_r5)
def c12_15 : AC := .out [1, 4, 5, 6] (.cond (.t 27) c12_13 (.seq c12_14 .ret))
def c12_16 : AC := .out [1, 4, 5, 6] (.cond (.t 23) c12_11 (.seq c12_12 c12_15))
def c12_17 : AC := .out [1, 4, 5, 6] (.cond (.t 19) c12_9 (.seq c12_10 c12_16))
def c12_18 : AC := .out [1, 4, 5, 6] (.cond (.t 15) c12_7 (.seq c12_8 c12_17))
def c12_19 : AC := .out [1, 4, 5, 6] (.block 0 (.seq c12_6 c12_18))
def c12_20 : AC := (.seq c12_5 c12_19)
def c12_r14 : List AI := [{ dst := some 31, op := .mv (.t 6) },
  { dst := some 32, op := .call 19 [(.t 31)] },
  { dst := some 7, op := .asg (.t 32) }]
def c12_21 : AC := .out [1, 6, 7] (.reg [1, 6] c12_r14)
def c12_r15 : List AI := [{ dst := some 33, op := .mv (.t 7) },
  { dst := some 34, op := .bin .and (.t 33) (.c T161 2) },
  { dst := some 35, op := .bin .eql (.t 34) (.c T161 0) }]
def c12_22 : AC := .out [1, 6, 7, 35] (.reg [1, 6, 7] c12_r15)
def c12_r16 : List AI := [{ dst := some 36, op := .mv (.t 6) },
  { dst := some 37, op := .call 31 [(.c T161 7), (.c T161 5)] },
  { dst := some 38, op := .buildSlice 33 T166 [(.t 37)] },
  { dst := some 39, op := .append 33 T166 5864062014805 (.t 36) (.t 38) },
  { dst := some 6, op := .asg (.t 39) }]
def c12_23 : AC := .out [1, 6, 7] (.reg [1, 6, 7] c12_r16)
def c12_24 : AC := .out [1, 6, 7] (.cond (.t 35) c12_23 .skip)
def c12_25 : AC := (.seq c12_22 c12_24)
def c12_r17 : List AI := [{ dst := some 40, op := .mv (.t 7) },
  { dst := some 41, op := .bin .and (.t 40) (.c T161 1) },
  { dst := some 42, op := .bin .eql (.t 41) (.c T161 0) },
  { dst := some 43, op := .mv (.t 42) },
  { dst := some 44, op := .mv (.t 1), guard := some (43, true) },
  { dst := some 45, op := .bin .eql (.t 44) (.c T161 1), guard := some (43, true) },
  { dst := some 46, op := .pick (.t 43) (.t 45) (.c .bool false) }]
def c12_26 : AC := .out [6, 46] (.reg [1, 6, 7] c12_r17)
def c12_r18 : List AI := [{ dst := some 47, op := .mv (.t 6) },
  { dst := some 48, op := .call 32 [(.c T161 7), (.c T161 6)] },
  { dst := some 49, op := .buildSlice 33 T166 [(.t 48)] },
  { dst := some 50, op := .append 33 T166 5864062014805 (.t 47) (.t 49) },
  { dst := some 6, op := .asg (.t 50) }]
def c12_27 : AC := .out [6] (.reg [6] c12_r18)
def c12_28 : AC := .out [6] (.cond (.t 46) c12_27 .skip)
def c12_29 : AC := (.seq c12_26 c12_28)
def c12_r19 : List AI := [{ dst := some 51, op := .mv (.t 6) },
  { dst := some 4, op := .asg (.t 51) },
  { dst := some 5, op := .asg (.c T161 0) }]
def c12_30 : AC := .out [4, 5, 6] (.reg [6] c12_r19)
def c12_31 : AC := (.seq c12_0 (.seq (.seq c12_1 c12_3) (.seq c12_4 (.seq c12_20 (.seq c12_21 (.seq c12_25 (.seq c12_29 (.seq c12_30 .ret))))))))
def c12 : AC := c12_31
def d12 : FD := { nargs := 2, body := c12, res := [.t 4, .t 5] }
-- anceps/weight.Final
def c15_r0 : List AI := [{ dst := some 4, op := .asg (.nil 33 T166) },
  { dst := some 5, op := .asg (.c T161 0) }]
def c15_0 : AC := .out [0, 1] (.reg [0, 1] c15_r0)
def c15_r1 : List AI := [{ dst := some 7, op := .mv (.t 0) },
  { dst := some 8, op := .bin .lss (.t 7) (.c T161 1) },
  { dst := some 9, op := .mv (.t 8) },
  { dst := some 10, op := .mv (.t 0), guard := some (9, false) },
  { dst := some 11, op := .bin .gtr (.t 10) (.c T161 3), guard := some (9, false) },
  { dst := some 12, op := .pick (.t 9) (.c .bool true) (.t 11) },
  { dst := some 6, op := .asg (.t 12) }]
def c15_1 : AC := .out [0, 1, 6] (.reg [0, 1] c15_r1)
def c15_r2 : List AI := [{ dst := some 4, op := .asg (.nil 33 T166) },
  { dst := some 5, op := .asg (.c T161 6) }]
def c15_2 : AC := .out [4, 5] (.reg [] c15_r2)
def c15_r3 : List AI := [{ dst := some 14, op := .mv (.t 1) },
  { dst := some 13, op := .asg (.t 14) }]
def c15_3 : AC := .out [0, 13] (.reg [0, 1] c15_r3)
def c15_r4 : List AI := [{ dst := some 15, op := .call 32 [(.c T161 6), (.c T161 0)] },
  { dst := some 16, op := .call 31 [(.c T161 6), (.c T161 0)] },
  { dst := some 17, op := .buildSlice 33 T166 [(.t 15), (.t 16)] },
  { dst := some 4, op := .asg (.t 17) },
  { dst := some 5, op := .asg (.c T161 0) }]
def c15_4 : AC := .out [4, 5] (.reg [] c15_r4)
def c15_r5 : List AI := [{ dst := some 19, op := .mv (.t 0) },
  { dst := some 20, op := .bin .eql (.t 19) (.c T161 1) },
  { dst := some 18, op := .asg (.t 20) }]
def c15_5 : AC := .out [0, 18] (.reg [0] c15_r5)
def c15_r6 : List AI := [{ dst := some 21, op := .call 32 [(.c T161 1), (.c T161 0)] },
  { dst := some 22, op := .call 31 [(.c T161 6), (.c T161 3)] },
  { dst := some 23, op := .buildSlice 33 T166 [(.t 21), (.t 22)] },
  { dst := some 4, op := .asg (.t 23) },
  { dst := some 5, op := .asg (.c T161 0) }]
def c15_6 : AC := .out [4, 5] (.reg [] c15_r6)
def c15_r7 : List AI := [{ dst := some 25, op := .mv (.t 0) },
  { dst := some 26, op := .bin .eql (.t 25) (.c T161 2) },
  { dst := some 24, op := .asg (.t 26) }]
def c15_7 : AC := .out [0, 24] (.reg [0] c15_r7)
def c15_r8 : List AI := [{ dst := some 27, op := .call 31 [(.c T161 2), (.c T161 0)] },
  { dst := some 28, op := .call 32 [(.c T161 6), (.c T161 4)] },
  { dst := some 29, op := .buildSlice 33 T166 [(.t 27), (.t 28)] },
  { dst := some 4, op := .asg (.t 29) },
  { dst := some 5, op := .asg (.c T161 0) }]
def c15_8 : AC := .out [4, 5] (.reg [] c15_r8)
def c15_9 : AC := .out [0, 4, 5] (.cond (.t 24) (.seq c15_8 .ret) .skip)
def c15_10 : AC := .out [0, 4, 5] (.cond (.t 18) (.seq c15_6 .ret) (.seq c15_7 c15_9))
def c15_11 : AC := .out [0, 4, 5] (.cond (.t 13) (.seq c15_4 .ret) (.seq c15_5 c15_10))
def c15_12 : AC := .out [0, 4, 5] (.cond (.t 6) (.seq c15_2 .ret) (.seq c15_3 c15_11))
def c15_13 : AC := .out [0, 4, 5] (.block 0 (.seq c15_1 c15_12))
def c15_r9 : List AI := [{ dst := some 30, op := .mv (.t 0) },
  { dst := some 31, op := .call 30 [(.t 30), (.c T161 0)] },
  { dst := some 4, op := .asg (.t 31) },
  { dst := some 5, op := .asg (.c T161 0) }]
def c15_14 : AC := .out [4, 5] (.reg [0] c15_r9)
def c15_15 : AC := (.seq c15_0 (.seq c15_13 (.seq c15_14 .ret)))
def c15 : AC := c15_15
def d15 : FD := { nargs := 2, body := c15, res := [.t 4, .t 5] }
-- anceps/ancepsref16.Same
def c14_r0 : List AI := [{ dst := some 4, op := .asg (.c .bool false) }]
def c14_0 : AC := .out [0, 1] (.reg [0, 1] c14_r0)
def c14_r1 : List AI := [{ dst := some 6, op := .mv (.t 0) },
  { dst := some 7, op := .lenL (.t 6) },
  { dst := some 8, op := .mv (.t 1) },
  { dst := some 9, op := .lenL (.t 8) },
  { dst := some 10, op := .bin .neq (.t 7) (.t 9) }]
def c14_1 : AC := .out [0, 1, 10] (.reg [0, 1] c14_r1)
def c14_r2 : List AI := [{ dst := some 4, op := .asg (.c .bool false) }]
def c14_2 : AC := .out [4] (.reg [] c14_r2)
def c14_3 : AC := .out [0, 1, 4] (.cond (.t 10) (.seq c14_2 .ret) .skip)
def c14_r3 : List AI := [{ dst := some 5, op := .asg (.c T161 0) }]
def c14_4 : AC := .out [0, 1, 5] (.reg [0, 1] c14_r3)
def c14_r4 : List AI := [{ dst := some 11, op := .mv (.t 5) },
  { dst := some 12, op := .mv (.t 0) },
  { dst := some 13, op := .lenL (.t 12) },
  { dst := some 14, op := .bin .lss (.t 11) (.t 13) }]
def c14_5 : AC := .out [0, 1, 5, 14] (.reg [0, 1, 5] c14_r4)
def c14_6 : AC := .out [0, 1, 5] (.cond (.t 14) .skip (.exit 0))
def c14_r6 : List DI := [{ ai := { dst := some 17, op := .mv (.t 0) }, hide := [18, 21, 22, 23, 24], wr := [17], pre := [] },
  { ai := { dst := some 18, op := .mv (.t 5) }, hide := [17, 21, 22, 23, 24], wr := [18], pre := [] },
  { ai := { dst := some 19, op := .indexAddr T166 (.t 17) (.t 18) }, hide := [21, 22, 23, 24], wr := [19], pre := [0, 1] },
  { ai := { dst := some 20, op := .load T166 (.t 19) }, hide := [21, 22, 23, 24], wr := [20], pre := [0, 1, 2] },
  { ai := { dst := some 21, op := .mv (.t 1) }, hide := [17, 18, 19, 20, 22], wr := [21], pre := [] },
  { ai := { dst := some 22, op := .mv (.t 5) }, hide := [17, 18, 19, 20, 21], wr := [22], pre := [] },
  { ai := { dst := some 23, op := .indexAddr T166 (.t 21) (.t 22) }, hide := [17, 18, 19, 20], wr := [23], pre := [4, 5] },
  { ai := { dst := some 24, op := .load T166 (.t 23) }, hide := [17, 18, 19, 20], wr := [24], pre := [4, 5, 6] },
  { ai := { dst := some 25, op := .eqT true T166 (.t 20) (.t 24) }, hide := [], wr := [25], pre := [0, 1, 2, 3, 4, 5, 6, 7] }]
def c14_7 : AC := .out [0, 1, 5, 25] (.draw [0, 1, 5] c14_r6)
def c14_r7 : List AI := [{ dst := some 4, op := .asg (.c .bool false) }]
def c14_8 : AC := .out [4] (.reg [] c14_r7)
def c14_9 : AC := .out [0, 1, 4, 5] (.cond (.t 25) (.seq c14_8 .ret) .skip)
def c14_10 : AC := .out [0, 1, 4, 5] (.block 1 (.seq c14_7 c14_9))
def c14_r5 : List AI := [{ dst := some 15, op := .mv (.t 5) },
  { dst := some 16, op := .bin .add (.t 15) (.c T161 1) },
  { dst := some 5, op := .asg (.t 16) }]
def c14_11 : AC := .out [0, 1, 5] (.reg [0, 1, 5] c14_r5)
def c14_12 : AC := (.seq (.seq c14_5 c14_6) (.seq c14_10 c14_11))
def c14_13 : AC := .out [4] (.loop [0, 1, 5] c14_12)
def c14_14 : AC := .out [4] (.block 0 c14_13)
def c14_r8 : List AI := [{ dst := some 4, op := .asg (.c .bool true) }]
def c14_15 : AC := .out [4] (.reg [] c14_r8)
def c14_16 : AC := (.seq c14_0 (.seq (.seq c14_1 c14_3) (.seq (.seq c14_4 c14_14) (.seq c14_15 .ret))))
def c14 : AC := c14_16
def d14 : FD := { nargs := 2, body := c14, res := [.t 4] }
-- anceps/ancepslaw16.awake
def c11_r0 : List AI := [{ dst := some 0, op := .asg (.c .bool false) }]
def c11_0 : AC := .out [] (.reg [] c11_r0)
def c11_r1 : List AI := [{ dst := some 8, op := .call 12 [(.c T161 1), (.c T161 2)] },
  { dst := some 7, op := .mv (.t 8) },
  { dst := some 9, op := .extract 7 0 },
  { dst := some 10, op := .extract 7 1 },
  { dst := some 1, op := .asg (.t 9) },
  { dst := some 2, op := .asg (.t 10) }]
def c11_1 : AC := .out [1, 2] (.reg [] c11_r1)
def c11_r2 : List AI := [{ dst := some 12, op := .call 12 [(.c T161 2), (.c T161 1)] },
  { dst := some 11, op := .mv (.t 12) },
  { dst := some 13, op := .extract 11 0 },
  { dst := some 14, op := .extract 11 1 },
  { dst := some 3, op := .asg (.t 13) },
  { dst := some 4, op := .asg (.t 14) }]
def c11_2 : AC := .out [1, 2, 3, 4] (.reg [1, 2] c11_r2)
def c11_r3 : List AI := [{ dst := some 16, op := .call 15 [(.c T161 1), (.c .bool false)] },
  { dst := some 15, op := .mv (.t 16) },
  { dst := some 17, op := .extract 15 0 },
  { dst := some 18, op := .extract 15 1 },
  { dst := some 5, op := .asg (.t 17) },
  { dst := some 6, op := .asg (.t 18) }]
def c11_3 : AC := .out [1, 2, 3, 4, 5, 6] (.reg [1, 2, 3, 4] c11_r3)
def c11_r4 : List AI := [{ dst := some 19, op := .mv (.t 2) },
  { dst := some 20, op := .bin .eql (.t 19) (.c T161 0) },
  { dst := some 21, op := .mv (.t 20) },
  { dst := some 22, op := .mv (.t 4), guard := some (21, true) },
  { dst := some 23, op := .bin .eql (.t 22) (.c T161 0), guard := some (21, true) },
  { dst := some 24, op := .pick (.t 21) (.t 23) (.c .bool false) },
  { dst := some 25, op := .mv (.t 24) },
  { dst := some 26, op := .mv (.t 6), guard := some (25, true) },
  { dst := some 27, op := .bin .eql (.t 26) (.c T161 0), guard := some (25, true) },
  { dst := some 28, op := .pick (.t 25) (.t 27) (.c .bool false) },
  { dst := some 29, op := .mv (.t 28) },
  { dst := some 30, op := .mv (.t 1), guard := some (29, true) },
  { dst := some 31, op := .build T166 [([.l], (.c T161 1)), ([.r, .l], (.c T161 1))], guard := some (29, true) },
  { dst := some 32, op := .build T166 [([.l], (.c T161 2)), ([.r, .l], (.c T161 5)), ([.r, .r, .l], (.c T161 1))], guard := some (29, true) },
  { dst := some 33, op := .buildSlice 33 T166 [(.t 31), (.t 32)], guard := some (29, true) },
  { dst := some 34, op := .call 14 [(.t 30), (.t 33)], guard := some (29, true) },
  { dst := some 35, op := .pick (.t 29) (.t 34) (.c .bool false) },
  { dst := some 36, op := .mv (.t 35) },
  { dst := some 37, op := .mv (.t 3), guard := some (36, true) },
  { dst := some 38, op := .build T166 [([.l], (.c T161 2)), ([.r, .l], (.c T161 2))], guard := some (36, true) },
  { dst := some 39, op := .build T166 [([.l], (.c T161 1)), ([.r, .l], (.c T161 7)), ([.r, .r, .l], (.c T161 6))], guard := some (36, true) },
  { dst := some 40, op := .buildSlice 33 T166 [(.t 38), (.t 39)], guard := some (36, true) },
  { dst := some 41, op := .call 14 [(.t 37), (.t 40)], guard := some (36, true) },
  { dst := some 42, op := .pick (.t 36) (.t 41) (.c .bool false) },
  { dst := some 43, op := .mv (.t 42) },
  { dst := some 44, op := .mv (.t 5), guard := some (43, true) },
  { dst := some 45, op := .build T166 [([.l], (.c T161 1)), ([.r, .l], (.c T161 1))], guard := some (43, true) },
  { dst := some 46, op := .build T166 [([.l], (.c T161 2)), ([.r, .l], (.c T161 6)), ([.r, .r, .l], (.c T161 3))], guard := some (43, true) },
  { dst := some 47, op := .buildSlice 33 T166 [(.t 45), (.t 46)], guard := some (43, true) },
  { dst := some 48, op := .call 14 [(.t 44), (.t 47)], guard := some (43, true) },
  { dst := some 49, op := .pick (.t 43) (.t 48) (.c .bool false) },
  { dst := some 0, op := .asg (.t 49) }]
def c11_4 : AC := .out [0] (.reg [1, 2, 3, 4, 5, 6] c11_r4)
def c11_5 : AC := (.seq c11_0 (.seq c11_1 (.seq c11_2 (.seq c11_3 (.seq c11_4 .ret)))))
def c11 : AC := c11_5
def d11 : FD := { nargs := 0, body := c11, res := [.t 0] }
-- anceps/ancepslaw16.WeightOnce
def c5_r0 : List AI := [{ dst := some 6, op := .asg (.c .bool false) }]
def c5_0 : AC := .out [0, 1, 2] (.reg [0, 1, 2] c5_r0)
def c5_r1 : List AI := [{ dst := some 15, op := .call 11 [] },
  { dst := some 16, op := .un .not (.t 15) }]
def c5_1 : AC := .out [0, 1, 2, 16] (.reg [0, 1, 2] c5_r1)
def c5_r2 : List AI := [{ dst := some 6, op := .asg (.c .bool false) }]
def c5_2 : AC := .out [6] (.reg [] c5_r2)
def c5_3 : AC := .out [0, 1, 2, 6] (.cond (.t 16) (.seq c5_2 .ret) .skip)
def c5_r3 : List AI := [{ dst := some 18, op := .mv (.t 0) },
  { dst := some 19, op := .bin .rem (.t 18) (.c T160 3) },
  { dst := some 20, op := .convI .i64 (.t 19) },
  { dst := some 21, op := .bin .add (.c T161 1) (.t 20) },
  { dst := some 22, op := .mv (.t 1) },
  { dst := some 23, op := .bin .rem (.t 22) (.c T160 4) },
  { dst := some 24, op := .convI .i64 (.t 23) },
  { dst := some 25, op := .bin .add (.c T161 1) (.t 24) },
  { dst := some 26, op := .call 12 [(.t 21), (.t 25)] },
  { dst := some 17, op := .mv (.t 26) },
  { dst := some 27, op := .extract 17 0 },
  { dst := some 28, op := .extract 17 1 },
  { dst := some 7, op := .asg (.t 27) },
  { dst := some 8, op := .asg (.t 28) }]
def c5_4 : AC := .out [0, 2, 7, 8] (.reg [0, 1, 2] c5_r3)
def c5_r4 : List AI := [{ dst := some 30, op := .mv (.t 0) },
  { dst := some 31, op := .bin .rem (.t 30) (.c T160 3) },
  { dst := some 32, op := .convI .i64 (.t 31) },
  { dst := some 33, op := .bin .add (.c T161 1) (.t 32) },
  { dst := some 34, op := .mv (.t 2) },
  { dst := some 35, op := .call 15 [(.t 33), (.t 34)] },
  { dst := some 29, op := .mv (.t 35) },
  { dst := some 36, op := .extract 29 0 },
  { dst := some 37, op := .extract 29 1 },
  { dst := some 9, op := .asg (.t 36) },
  { dst := some 10, op := .asg (.t 37) }]
def c5_5 : AC := .out [7, 8, 9, 10] (.reg [0, 2, 7, 8] c5_r4)
def c5_r5 : List AI := [{ dst := some 38, op := .mv (.t 8) },
  { dst := some 39, op := .bin .neq (.t 38) (.c T161 0) },
  { dst := some 40, op := .mv (.t 39) },
  { dst := some 41, op := .mv (.t 10), guard := some (40, false) },
  { dst := some 42, op := .bin .neq (.t 41) (.c T161 0), guard := some (40, false) },
  { dst := some 43, op := .pick (.t 40) (.c .bool true) (.t 42) }]
def c5_6 : AC := .out [7, 9, 43] (.reg [7, 8, 9, 10] c5_r5)
def c5_r6 : List AI := [{ dst := some 6, op := .asg (.c .bool false) }]
def c5_7 : AC := .out [6] (.reg [] c5_r6)
def c5_8 : AC := .out [6, 7, 9] (.cond (.t 43) (.seq c5_7 .ret) .skip)
def c5_r7 : List AI := [{ dst := some 44, op := .mv (.t 7) },
  { dst := some 45, op := .mv (.t 9) },
  { dst := some 46, op := .buildSlice 23 T167 [(.t 44), (.t 45)] },
  { dst := some 47, op := .lenL (.t 46) },
  { dst := some 48, op := .mv (.c T161 0) }]
def c5_9 : AC := .out [46, 47, 48] (.reg [7, 9] c5_r7)
def c5_r8 : List AI := [{ dst := some 49, op := .bin .lss (.t 48) (.t 47) }]
def c5_10 : AC := .out [46, 47, 48, 49] (.reg [46, 47, 48] c5_r8)
def c5_11 : AC := .out [46, 47, 48] (.cond (.t 49) .skip (.exit 0))
def c5_r9 : List AI := [{ dst := some 50, op := .indexAddr T167 (.t 46) (.t 48) },
  { dst := some 51, op := .load T167 (.t 50) },
  { dst := some 12, op := .asg (.t 51) }]
def c5_12 : AC := .out [12, 46, 47, 48] (.reg [46, 47, 48] c5_r9)
def c5_r10 : List AI := [{ dst := some 52, op := .mv (.t 12) },
  { dst := some 53, op := .lenL (.t 52) },
  { dst := some 54, op := .mv (.c T161 0) }]
def c5_13 : AC := .out [12, 46, 47, 48, 53, 54] (.reg [12, 46, 47, 48] c5_r10)
def c5_r11 : List AI := [{ dst := some 55, op := .bin .lss (.t 54) (.t 53) }]
def c5_14 : AC := .out [12, 46, 47, 48, 53, 54, 55] (.reg [12, 46, 47, 48, 53, 54] c5_r11)
def c5_15 : AC := .out [12, 46, 47, 48, 53, 54] (.cond (.t 55) .skip (.exit 2))
def c5_r12 : List AI := [{ dst := some 56, op := .mv (.t 54) },
  { dst := some 13, op := .asg (.t 56) }]
def c5_16 : AC := .out [12, 13, 46, 47, 48, 53, 54] (.reg [12, 46, 47, 48, 53, 54] c5_r12)
def c5_r13 : List AI := [{ dst := some 57, op := .mv (.t 13) },
  { dst := some 58, op := .mv (.c T161 0) }]
def c5_17 : AC := .out [12, 13, 46, 47, 48, 53, 54, 57, 58] (.reg [12, 13, 46, 47, 48, 53, 54] c5_r13)
def c5_r14 : List AI := [{ dst := some 59, op := .bin .lss (.t 58) (.t 57) }]
def c5_18 : AC := .out [12, 13, 46, 47, 48, 53, 54, 57, 58, 59] (.reg [12, 13, 46, 47, 48, 53, 54, 57, 58] c5_r14)
def c5_19 : AC := .out [12, 13, 46, 47, 48, 53, 54, 57, 58] (.cond (.t 59) .skip (.exit 4))
def c5_r15 : List AI := [{ dst := some 60, op := .mv (.t 58) },
  { dst := some 14, op := .asg (.t 60) }]
def c5_20 : AC := .out [12, 13, 14, 46, 47, 48, 53, 54, 57, 58] (.reg [12, 13, 46, 47, 48, 53, 54, 57, 58] c5_r15)
def c5_r16 : List DI := [{ ai := { dst := some 61, op := .mv (.t 12) }, hide := [62, 66, 67, 68, 69, 70], wr := [61], pre := [] },
  { ai := { dst := some 62, op := .mv (.t 13) }, hide := [61, 66, 67, 68, 69, 70], wr := [62], pre := [] },
  { ai := { dst := some 63, op := .indexAddr T166 (.t 61) (.t 62) }, hide := [66, 67, 68, 69, 70], wr := [63], pre := [0, 1] },
  { ai := { dst := some 64, op := .fieldAddr T166 [.l] (.t 63) }, hide := [66, 67, 68, 69, 70], wr := [64], pre := [0, 1, 2] },
  { ai := { dst := some 65, op := .load T161 (.t 64) }, hide := [66, 67, 68, 69, 70], wr := [65], pre := [0, 1, 2, 3] },
  { ai := { dst := some 66, op := .mv (.t 12) }, hide := [61, 62, 63, 64, 65, 67], wr := [66], pre := [] },
  { ai := { dst := some 67, op := .mv (.t 14) }, hide := [61, 62, 63, 64, 65, 66], wr := [67], pre := [] },
  { ai := { dst := some 68, op := .indexAddr T166 (.t 66) (.t 67) }, hide := [61, 62, 63, 64, 65], wr := [68], pre := [5, 6] },
  { ai := { dst := some 69, op := .fieldAddr T166 [.l] (.t 68) }, hide := [61, 62, 63, 64, 65], wr := [69], pre := [5, 6, 7] },
  { ai := { dst := some 70, op := .load T161 (.t 69) }, hide := [61, 62, 63, 64, 65], wr := [70], pre := [5, 6, 7, 8] },
  { ai := { dst := some 71, op := .bin .eql (.t 65) (.t 70) }, hide := [], wr := [71], pre := [0, 1, 2, 3, 4, 5, 6, 7, 8, 9] },
  { ai := { dst := some 72, op := .mv (.t 71) }, hide := [], wr := [72], pre := [0, 1, 2, 3, 4, 5, 6, 7, 8, 9, 10] },
  { ai := { dst := some 73, op := .mv (.t 12), guard := some (72, false) }, hide := [74], wr := [73], pre := [0, 1, 2, 3, 4, 5, 6, 7, 8, 9, 10, 11] },
  { ai := { dst := some 74, op := .mv (.t 14), guard := some (72, false) }, hide := [73], wr := [74], pre := [0, 1, 2, 3, 4, 5, 6, 7, 8, 9, 10, 11] },
  { ai := { dst := some 75, op := .indexAddr T166 (.t 73) (.t 74), guard := some (72, false) }, hide := [], wr := [75], pre := [0, 1, 2, 3, 4, 5, 6, 7, 8, 9, 10, 11, 12, 13] },
  { ai := { dst := some 76, op := .fieldAddr T166 [.r, .r, .l] (.t 75), guard := some (72, false) }, hide := [], wr := [76], pre := [0, 1, 2, 3, 4, 5, 6, 7, 8, 9, 10, 11, 12, 13, 14] },
  { ai := { dst := some 77, op := .load T161 (.t 76), guard := some (72, false) }, hide := [], wr := [77], pre := [0, 1, 2, 3, 4, 5, 6, 7, 8, 9, 10, 11, 12, 13, 14, 15] },
  { ai := { dst := some 78, op := .bin .neq (.t 77) (.c T161 0), guard := some (72, false) }, hide := [], wr := [78], pre := [0, 1, 2, 3, 4, 5, 6, 7, 8, 9, 10, 11, 12, 13, 14, 15, 16] },
  { ai := { dst := some 79, op := .mv (.t 78), guard := some (72, false) }, hide := [], wr := [79], pre := [0, 1, 2, 3, 4, 5, 6, 7, 8, 9, 10, 11, 12, 13, 14, 15, 16, 17] },
  { ai := { dst := some 80, op := .mv (.t 12), guard := some (79, true) }, hide := [81], wr := [80], pre := [0, 1, 2, 3, 4, 5, 6, 7, 8, 9, 10, 11, 12, 13, 14, 15, 16, 17, 18] },
  { ai := { dst := some 81, op := .mv (.t 13), guard := some (79, true) }, hide := [80], wr := [81], pre := [0, 1, 2, 3, 4, 5, 6, 7, 8, 9, 10, 11, 12, 13, 14, 15, 16, 17, 18] },
  { ai := { dst := some 82, op := .indexAddr T166 (.t 80) (.t 81), guard := some (79, true) }, hide := [], wr := [82], pre := [0, 1, 2, 3, 4, 5, 6, 7, 8, 9, 10, 11, 12, 13, 14, 15, 16, 17, 18, 19, 20] },
  { ai := { dst := some 83, op := .fieldAddr T166 [.r, .r, .l] (.t 82), guard := some (79, true) }, hide := [], wr := [83], pre := [0, 1, 2, 3, 4, 5, 6, 7, 8, 9, 10, 11, 12, 13, 14, 15, 16, 17, 18, 19, 20, 21] },
  { ai := { dst := some 84, op := .load T161 (.t 83), guard := some (79, true) }, hide := [], wr := [84], pre := [0, 1, 2, 3, 4, 5, 6, 7, 8, 9, 10, 11, 12, 13, 14, 15, 16, 17, 18, 19, 20, 21, 22] },
  { ai := { dst := some 85, op := .bin .eql (.t 84) (.c T161 0), guard := some (79, true) }, hide := [], wr := [85], pre := [0, 1, 2, 3, 4, 5, 6, 7, 8, 9, 10, 11, 12, 13, 14, 15, 16, 17, 18, 19, 20, 21, 22, 23] },
  { ai := { dst := some 86, op := .pick (.t 79) (.t 85) (.c .bool false), guard := some (72, false) }, hide := [], wr := [86], pre := [0, 1, 2, 3, 4, 5, 6, 7, 8, 9, 10, 11, 12, 13, 14, 15, 16, 17, 18, 19, 20, 21, 22, 23, 24] },
  { ai := { dst := some 87, op := .pick (.t 72) (.c .bool true) (.t 86) }, hide := [], wr := [87], pre := [0, 1, 2, 3, 4, 5, 6, 7, 8, 9, 10, 11, 12, 13, 14, 15, 16, 17, 18, 19, 20, 21, 22, 23, 24, 25] }]
def c5_21 : AC := .out [12, 13, 46, 47, 48, 53, 54, 57, 58, 87] (.draw [12, 13, 14, 46, 47, 48, 53, 54, 57, 58] c5_r16)
def c5_r17 : List AI := [{ dst := some 6, op := .asg (.c .bool false) }]
def c5_22 : AC := .out [6] (.reg [] c5_r17)
def c5_23 : AC := .out [6, 12, 13, 46, 47, 48, 53, 54, 57, 58] (.cond (.t 87) (.seq c5_22 .ret) .skip)
def c5_24 : AC := .out [6, 12, 13, 46, 47, 48, 53, 54, 57, 58] (.block 5 (.seq c5_20 (.seq c5_21 c5_23)))
def c5_r18 : List AI := [{ dst := some 88, op := .bin .add (.t 58) (.c T161 1) },
  { dst := some 58, op := .mv (.t 88) }]
def c5_25 : AC := .out [12, 13, 46, 47, 48, 53, 54, 57, 58] (.reg [12, 13, 46, 47, 48, 53, 54, 57, 58] c5_r18)
def c5_26 : AC := (.seq c5_18 (.seq c5_19 (.seq c5_24 c5_25)))
def c5_27 : AC := .out [6, 12, 46, 47, 48, 53, 54] (.loop [12, 13, 46, 47, 48, 53, 54, 57, 58] c5_26)
def c5_28 : AC := .out [6, 12, 46, 47, 48, 53, 54] (.block 4 c5_27)
def c5_29 : AC := .out [6, 12, 46, 47, 48, 53, 54] (.block 3 (.seq c5_16 (.seq c5_17 c5_28)))
def c5_r19 : List AI := [{ dst := some 89, op := .bin .add (.t 54) (.c T161 1) },
  { dst := some 54, op := .mv (.t 89) }]
def c5_30 : AC := .out [12, 46, 47, 48, 53, 54] (.reg [12, 46, 47, 48, 53, 54] c5_r19)
def c5_31 : AC := (.seq c5_14 (.seq c5_15 (.seq c5_29 c5_30)))
def c5_32 : AC := .out [6, 46, 47, 48] (.loop [12, 46, 47, 48, 53, 54] c5_31)
def c5_33 : AC := .out [6, 46, 47, 48] (.block 2 c5_32)
def c5_34 : AC := .out [6, 46, 47, 48] (.block 1 (.seq c5_12 (.seq c5_13 c5_33)))
def c5_r20 : List AI := [{ dst := some 90, op := .bin .add (.t 48) (.c T161 1) },
  { dst := some 48, op := .mv (.t 90) }]
def c5_35 : AC := .out [46, 47, 48] (.reg [46, 47, 48] c5_r20)
def c5_36 : AC := (.seq c5_10 (.seq c5_11 (.seq c5_34 c5_35)))
def c5_37 : AC := .out [6] (.loop [46, 47, 48] c5_36)
def c5_38 : AC := .out [6] (.block 0 c5_37)
def c5_r21 : List AI := [{ dst := some 6, op := .asg (.c .bool true) }]
def c5_39 : AC := .out [6] (.reg [] c5_r21)
def c5_40 : AC := (.seq c5_0 (.seq (.seq c5_1 c5_3) (.seq c5_4 (.seq c5_5 (.seq (.seq c5_6 c5_8) (.seq (.seq c5_9 c5_38) (.seq c5_39 .ret)))))))
def c5 : AC := c5_40
def d5 : FD := { nargs := 3, body := c5, res := [.t 6] }
-- anceps/weight.Pick$1
def c36_r0 : List AI := [{ dst := some 2, op := .box T166 (.t 0) },
  { dst := some 3, op := .asg (.c .bool false) }]
def c36_0 : AC := .out [1, 2] (.reg [0, 1] c36_r0)
def c36_r1 : List AI := [{ dst := some 4, op := .fieldAddr T166 [.l] (.t 2) },
  { dst := some 5, op := .load T161 (.t 4) },
  { dst := some 6, op := .load T161 (.t 1) },
  { dst := some 7, op := .bin .eql (.t 5) (.t 6) },
  { dst := some 3, op := .asg (.t 7) }]
def c36_1 : AC := .out [3] (.reg [1, 2] c36_r1)
def c36_2 : AC := (.seq c36_0 (.seq c36_1 .ret))
def c36 : AC := c36_2
def d36 : FD := { nargs := 2, body := c36, res := [.t 3] }
-- slices.IndexFunc[[]anceps/api.Option,anceps/api.Option]
def c35_r0 : List AI := [{ dst := some 4, op := .asg (.c T161 0) }]
def c35_0 : AC := .out [0, 1] (.reg [0, 1] c35_r0)
def c35_r1 : List AI := [{ dst := some 6, op := .mv (.t 0) },
  { dst := some 7, op := .lenL (.t 6) },
  { dst := some 8, op := .mv (.c T161 0) }]
def c35_1 : AC := .out [0, 1, 7, 8] (.reg [0, 1] c35_r1)
def c35_r2 : List AI := [{ dst := some 9, op := .bin .lss (.t 8) (.t 7) }]
def c35_2 : AC := .out [0, 1, 7, 8, 9] (.reg [0, 1, 7, 8] c35_r2)
def c35_3 : AC := .out [0, 1, 7, 8] (.cond (.t 9) .skip (.exit 0))
def c35_r3 : List AI := [{ dst := some 10, op := .mv (.t 8) },
  { dst := some 5, op := .asg (.t 10) }]
def c35_4 : AC := .out [0, 1, 5, 7, 8] (.reg [0, 1, 7, 8] c35_r3)
def c35_r4 : List AI := [{ dst := some 11, op := .mv (.t 1) },
  { dst := some 12, op := .mv (.t 0) },
  { dst := some 13, op := .mv (.t 5) },
  { dst := some 14, op := .indexAddr T166 (.t 12) (.t 13) },
  { dst := some 15, op := .load T166 (.t 14) },
  { dst := some 16, op := .callv (.t 11) [(.t 15)] }]
def c35_5 : AC := .out [0, 1, 5, 7, 8, 16] (.reg [0, 1, 5, 7, 8] c35_r4)
def c35_r5 : List AI := [{ dst := some 17, op := .mv (.t 5) },
  { dst := some 4, op := .asg (.t 17) }]
def c35_6 : AC := .out [4] (.reg [5] c35_r5)
def c35_7 : AC := .out [0, 1, 4, 7, 8] (.cond (.t 16) (.seq c35_6 .ret) .skip)
def c35_8 : AC := .out [0, 1, 4, 7, 8] (.block 1 (.seq c35_4 (.seq c35_5 c35_7)))
def c35_r6 : List AI := [{ dst := some 18, op := .bin .add (.t 8) (.c T161 1) },
  { dst := some 8, op := .mv (.t 18) }]
def c35_9 : AC := .out [0, 1, 7, 8] (.reg [0, 1, 7, 8] c35_r6)
def c35_10 : AC := (.seq c35_2 (.seq c35_3 (.seq c35_8 c35_9)))
def c35_11 : AC := .out [4] (.loop [0, 1, 7, 8] c35_10)
def c35_12 : AC := .out [4] (.block 0 c35_11)
def c35_r7 : List AI := [{ dst := some 4, op := .asg (.c T161 (-1)) }]
def c35_13 : AC := .out [4] (.reg [] c35_r7)
def c35_14 : AC := (.seq c35_0 (.seq (.seq c35_1 c35_12) (.seq c35_13 .ret)))
def c35 : AC := c35_14
def d35 : FD := { nargs := 2, body := c35, res := [.t 4] }
-- anceps/weight.Pick
def c17_r0 : List AI := [{ dst := some 3, op := .box T161 (.t 1) },
  { dst := some 4, op := .asg (.c T161 0) },
  { dst := some 5, op := .asg (.c .bool false) }]
def c17_0 : AC := .out [0, 3] (.reg [0, 1] c17_r0)
def c17_r1 : List AI := [{ dst := some 7, op := .mv (.t 0) },
  { dst := some 8, op := .mkfn 36 T168 .bool [(.t 3)] },
  { dst := some 9, op := .call 35 [(.t 7), (.t 8)] },
  { dst := some 6, op := .asg (.t 9) }]
def c17_1 : AC := .out [6] (.reg [0, 3] c17_r1)
def c17_r2 : List AI := [{ dst := some 10, op := .mv (.t 6) },
  { dst := some 11, op := .mm true (.t 10) (.c T161 0) },
  { dst := some 12, op := .mv (.t 6) },
  { dst := some 13, op := .bin .geq (.t 12) (.c T161 0) },
  { dst := some 4, op := .asg (.t 11) },
  { dst := some 5, op := .asg (.t 13) }]
def c17_2 : AC := .out [4, 5] (.reg [6] c17_r2)
def c17_3 : AC := (.seq c17_0 (.seq c17_1 (.seq c17_2 .ret)))
def c17 : AC := c17_3
def d17 : FD := { nargs := 2, body := c17, res := [.t 4, .t 5] }
-- anceps/ancepsref16.Pick
def c18_r0 : List AI := [{ dst := some 4, op := .asg (.c T161 0) },
  { dst := some 5, op := .asg (.c .bool false) }]
def c18_0 : AC := .out [0, 1] (.reg [0, 1] c18_r0)
def c18_r1 : List AI := [{ dst := some 6, op := .asg (.c T161 0) }]
def c18_1 : AC := .out [0, 1, 6] (.reg [0, 1] c18_r1)
def c18_r2 : List AI := [{ dst := some 7, op := .mv (.t 6) },
  { dst := some 8, op := .mv (.t 0) },
  { dst := some 9, op := .lenL (.t 8) },
  { dst := some 10, op := .bin .lss (.t 7) (.t 9) }]
def c18_2 : AC := .out [0, 1, 6, 10] (.reg [0, 1, 6] c18_r2)
def c18_3 : AC := .out [0, 1, 6] (.cond (.t 10) .skip (.exit 0))
def c18_r4 : List AI := [{ dst := some 13, op := .mv (.t 0) },
  { dst := some 14, op := .mv (.t 6) },
  { dst := some 15, op := .indexAddr T166 (.t 13) (.t 14) },
  { dst := some 16, op := .fieldAddr T166 [.l] (.t 15) },
  { dst := some 17, op := .load T161 (.t 16) },
  { dst := some 18, op := .mv (.t 1) },
  { dst := some 19, op := .bin .eql (.t 17) (.t 18) }]
def c18_4 : AC := .out [0, 1, 6, 19] (.reg [0, 1, 6] c18_r4)
def c18_r5 : List AI := [{ dst := some 20, op := .mv (.t 6) },
  { dst := some 4, op := .asg (.t 20) },
  { dst := some 5, op := .asg (.c .bool true) }]
def c18_5 : AC := .out [4, 5] (.reg [6] c18_r5)
def c18_6 : AC := .out [0, 1, 4, 5, 6] (.cond (.t 19) (.seq c18_5 .ret) .skip)
def c18_7 : AC := .out [0, 1, 4, 5, 6] (.block 1 (.seq c18_4 c18_6))
def c18_r3 : List AI := [{ dst := some 11, op := .mv (.t 6) },
  { dst := some 12, op := .bin .add (.t 11) (.c T161 1) },
  { dst := some 6, op := .asg (.t 12) }]
def c18_8 : AC := .out [0, 1, 6] (.reg [0, 1, 6] c18_r3)
def c18_9 : AC := (.seq (.seq c18_2 c18_3) (.seq c18_7 c18_8))
def c18_10 : AC := .out [4, 5] (.loop [0, 1, 6] c18_9)
def c18_11 : AC := .out [4, 5] (.block 0 c18_10)
def c18_r6 : List AI := [{ dst := some 4, op := .asg (.c T161 0) },
  { dst := some 5, op := .asg (.c .bool false) }]
def c18_12 : AC := .out [4, 5] (.reg [] c18_r6)
def c18_13 : AC := (.seq c18_0 (.seq (.seq c18_1 c18_11) (.seq c18_12 .ret)))
def c18 : AC := c18_13
def d18 : FD := { nargs := 2, body := c18, res := [.t 4, .t 5] }
-- anceps/ancepsref16.Weights
def c20_r0 : List AI := [{ dst := some 2, op := .asg (.c T161 0) }]
def c20_0 : AC := .out [0] (.reg [0] c20_r0)
def c20_r1 : List AI := [{ dst := some 3, op := .asg (.c T161 0) },
  { dst := some 4, op := .asg (.c T161 0) }]
def c20_1 : AC := .out [0, 3, 4] (.reg [0] c20_r1)
def c20_r2 : List AI := [{ dst := some 5, op := .asg (.c T161 0) }]
def c20_2 : AC := .out [0, 3, 4, 5] (.reg [0, 3, 4] c20_r2)
def c20_r3 : List AI := [{ dst := some 6, op := .mv (.t 5) },
  { dst := some 7, op := .mv (.t 0) },
  { dst := some 8, op := .lenL (.t 7) },
  { dst := some 9, op := .bin .lss (.t 6) (.t 8) }]
def c20_3 : AC := .out [0, 3, 4, 5, 9] (.reg [0, 3, 4, 5] c20_r3)
def c20_4 : AC := .out [0, 3, 4, 5] (.cond (.t 9) .skip (.exit 0))
def c20_r5 : List AI := [{ dst := some 12, op := .mv (.t 0) },
  { dst := some 13, op := .mv (.t 5) },
  { dst := some 14, op := .indexAddr T166 (.t 12) (.t 13) },
  { dst := some 15, op := .fieldAddr T166 [.l] (.t 14) },
  { dst := some 16, op := .load T161 (.t 15) },
  { dst := some 17, op := .bin .eql (.t 16) (.c T161 1) }]
def c20_5 : AC := .out [0, 3, 4, 5, 17] (.reg [0, 3, 4, 5] c20_r5)
def c20_r6 : List AI := [{ dst := some 3, op := .asg (.c T161 1) }]
def c20_6 : AC := .out [0, 3, 4, 5] (.reg [0, 4, 5] c20_r6)
def c20_7 : AC := .out [0, 3, 4, 5] (.cond (.t 17) c20_6 .skip)
def c20_8 : AC := (.seq c20_5 c20_7)
def c20_r7 : List AI := [{ dst := some 18, op := .mv (.t 0) },
  { dst := some 19, op := .mv (.t 5) },
  { dst := some 20, op := .indexAddr T166 (.t 18) (.t 19) },
  { dst := some 21, op := .fieldAddr T166 [.l] (.t 20) },
  { dst := some 22, op := .load T161 (.t 21) },
  { dst := some 23, op := .bin .eql (.t 22) (.c T161 2) }]
def c20_9 : AC := .out [0, 3, 4, 5, 23] (.reg [0, 3, 4, 5] c20_r7)
def c20_r8 : List AI := [{ dst := some 4, op := .asg (.c T161 2) }]
def c20_10 : AC := .out [0, 3, 4, 5] (.reg [0, 3, 5] c20_r8)
def c20_11 : AC := .out [0, 3, 4, 5] (.cond (.t 23) c20_10 .skip)
def c20_12 : AC := .out [0, 3, 4, 5] (.block 1 (.seq c20_8 (.seq c20_9 c20_11)))
def c20_r4 : List AI := [{ dst := some 10, op := .mv (.t 5) },
  { dst := some 11, op := .bin .add (.t 10) (.c T161 1) },
  { dst := some 5, op := .asg (.t 11) }]
def c20_13 : AC := .out [0, 3, 4, 5] (.reg [0, 3, 4, 5] c20_r4)
def c20_14 : AC := (.seq (.seq c20_3 c20_4) (.seq c20_12 c20_13))
def c20_15 : AC := .out [3, 4] (.loop [0, 3, 4, 5] c20_14)
def c20_16 : AC := .out [3, 4] (.block 0 c20_15)
def c20_r9 : List AI := [{ dst := some 24, op := .mv (.t 3) },
  { dst := some 25, op := .mv (.t 4) },
  { dst := some 26, op := .bin .add (.t 24) (.t 25) },
  { dst := some 2, op := .asg (.t 26) }]
def c20_17 : AC := .out [2] (.reg [3, 4] c20_r9)
def c20_18 : AC := (.seq c20_0 (.seq c20_1 (.seq (.seq c20_2 c20_16) (.seq c20_17 .ret))))
def c20 : AC := c20_18
def d20 : FD := { nargs := 1, body := c20, res := [.t 2] }
-- anceps/ancepslaw16.WeightPick
def c6_r0 : List AI := [{ dst := some 4, op := .asg (.c .bool false) }]
def c6_0 : AC := .out [0, 1] (.reg [0, 1] c6_r0)
def c6_r1 : List AI := [{ dst := some 14, op := .call 11 [] },
  { dst := some 15, op := .un .not (.t 14) },
  { dst := some 16, op := .mv (.t 15) },
  { dst := some 17, op := .mv (.t 0), guard := some (16, false) },
  { dst := some 18, op := .lenL (.t 17), guard := some (16, false) },
  { dst := some 19, op := .bin .gtr (.t 18) (.c T161 40), guard := some (16, false) },
  { dst := some 20, op := .pick (.t 16) (.c .bool true) (.t 19) }]
def c6_1 : AC := .out [0, 1, 20] (.reg [0, 1] c6_r1)
def c6_r2 : List AI := [{ dst := some 21, op := .call 11 [] },
  { dst := some 4, op := .asg (.t 21) }]
def c6_2 : AC := .out [4] (.reg [] c6_r2)
def c6_3 : AC := .out [0, 1, 4] (.cond (.t 20) (.seq c6_2 .ret) .skip)
def c6_r3 : List AI := [{ dst := some 23, op := .mv (.t 0) },
  { dst := some 24, op := .mv (.t 1) },
  { dst := some 25, op := .call 17 [(.t 23), (.t 24)] },
  { dst := some 22, op := .mv (.t 25) },
  { dst := some 26, op := .extract 22 0 },
  { dst := some 27, op := .extract 22 1 },
  { dst := some 5, op := .asg (.t 26) },
  { dst := some 6, op := .asg (.t 27) }]
def c6_4 : AC := .out [0, 1, 5, 6] (.reg [0, 1] c6_r3)
def c6_r4 : List AI := [{ dst := some 29, op := .mv (.t 0) },
  { dst := some 30, op := .mv (.t 1) },
  { dst := some 31, op := .call 18 [(.t 29), (.t 30)] },
  { dst := some 28, op := .mv (.t 31) },
  { dst := some 32, op := .extract 28 0 },
  { dst := some 33, op := .extract 28 1 },
  { dst := some 7, op := .asg (.t 32) },
  { dst := some 8, op := .asg (.t 33) }]
def c6_5 : AC := .out [0, 5, 6, 7, 8] (.reg [0, 1, 5, 6] c6_r4)
def c6_r5 : List AI := [{ dst := some 34, op := .mv (.t 0) },
  { dst := some 35, op := .call 19 [(.t 34)] },
  { dst := some 9, op := .asg (.t 35) }]
def c6_6 : AC := .out [0, 5, 6, 7, 8, 9] (.reg [0, 5, 6, 7, 8] c6_r5)
def c6_r6 : List AI := [{ dst := some 37, op := .mv (.t 0) },
  { dst := some 38, op := .call 17 [(.t 37), (.c T161 1)] },
  { dst := some 36, op := .mv (.t 38) },
  { dst := some 39, op := .extract 36 0 },
  { dst := some 40, op := .extract 36 1 },
  { dst := some 10, op := .asg (.t 39) },
  { dst := some 11, op := .asg (.t 40) }]
def c6_7 : AC := .out [0, 5, 6, 7, 8, 9, 11] (.reg [0, 5, 6, 7, 8, 9] c6_r6)
def c6_r7 : List AI := [{ dst := some 42, op := .mv (.t 0) },
  { dst := some 43, op := .call 17 [(.t 42), (.c T161 2)] },
  { dst := some 41, op := .mv (.t 43) },
  { dst := some 44, op := .extract 41 0 },
  { dst := some 45, op := .extract 41 1 },
  { dst := some 12, op := .asg (.t 44) },
  { dst := some 13, op := .asg (.t 45) }]
def c6_8 : AC := .out [0, 5, 6, 7, 8, 9, 11, 13] (.reg [0, 5, 6, 7, 8, 9, 11] c6_r7)
def c6_r8 : List AI := [{ dst := some 46, op := .mv (.t 5) },
  { dst := some 47, op := .mv (.t 7) },
  { dst := some 48, op := .bin .eql (.t 46) (.t 47) },
  { dst := some 49, op := .mv (.t 48) },
  { dst := some 50, op := .mv (.t 6), guard := some (49, true) },
  { dst := some 51, op := .mv (.t 8), guard := some (49, true) },
  { dst := some 52, op := .eqT false .bool (.t 50) (.t 51), guard := some (49, true) },
  { dst := some 53, op := .pick (.t 49) (.t 52) (.c .bool false) },
  { dst := some 54, op := .mv (.t 53) },
  { dst := some 55, op := .mv (.t 9), guard := some (54, true) },
  { dst := some 56, op := .mv (.t 0), guard := some (54, true) },
  { dst := some 57, op := .call 20 [(.t 56)], guard := some (54, true) },
  { dst := some 58, op := .bin .eql (.t 55) (.t 57), guard := some (54, true) },
  { dst := some 59, op := .pick (.t 54) (.t 58) (.c .bool false) },
  { dst := some 60, op := .mv (.t 59) },
  { dst := some 61, op := .mv (.t 11), guard := some (60, true) },
  { dst := some 62, op := .mv (.t 9), guard := some (60, true) },
  { dst := some 63, op := .bin .and (.t 62) (.c T161 1), guard := some (60, true) },
  { dst := some 64, op := .bin .gtr (.t 63) (.c T161 0), guard := some (60, true) },
  { dst := some 65, op := .eqT false .bool (.t 61) (.t 64), guard := some (60, true) },
  { dst := some 66, op := .pick (.t 60) (.t 65) (.c .bool false) },
  { dst := some 67, op := .mv (.t 66) },
  { dst := some 68, op := .mv (.t 13), guard := some (67, true) },
  { dst := some 69, op := .mv (.t 9), guard := some (67, true) },
  { dst := some 70, op := .bin .and (.t 69) (.c T161 2), guard := some (67, true) },
  { dst := some 71, op := .bin .gtr (.t 70) (.c T161 0), guard := some (67, true) },
  { dst := some 72, op := .eqT false .bool (.t 68) (.t 71), guard := some (67, true) },
  { dst := some 73, op := .pick (.t 67) (.t 72) (.c .bool false) },
  { dst := some 4, op := .asg (.t 73) }]
def c6_9 : AC := .out [4] (.reg [0, 5, 6, 7, 8, 9, 11, 13] c6_r8)
def c6_10 : AC := (.seq c6_0 (.seq (.seq c6_1 c6_3) (.seq c6_4 (.seq c6_5 (.seq c6_6 (.seq c6_7 (.seq c6_8 (.seq c6_9 .ret))))))))
def c6 : AC := c6_10
def d6 : FD := { nargs := 2, body := c6, res := [.t 4] }
-- slices.Index[[]int,int]
def c42_r0 : List AI := [{ dst := some 4, op := .asg (.c T161 0) }]
def c42_0 : AC := .out [0, 1] (.reg [0, 1] c42_r0)
def c42_r1 : List AI := [{ dst := some 6, op := .mv (.t 0) },
  { dst := some 7, op := .lenL (.t 6) },
  { dst := some 8, op := .mv (.c T161 0) }]
def c42_1 : AC := .out [0, 1, 7, 8] (.reg [0, 1] c42_r1)
def c42_r2 : List AI := [{ dst := some 9, op := .bin .lss (.t 8) (.t 7) }]
def c42_2 : AC := .out [0, 1, 7, 8, 9] (.reg [0, 1, 7, 8] c42_r2)
def c42_3 : AC := .out [0, 1, 7, 8] (.cond (.t 9) .skip (.exit 0))
def c42_r3 : List AI := [{ dst := some 10, op := .mv (.t 8) },
  { dst := some 5, op := .asg (.t 10) }]
def c42_4 : AC := .out [0, 1, 5, 7, 8] (.reg [0, 1, 7, 8] c42_r3)
def c42_r4 : List AI := [{ dst := some 11, op := .mv (.t 1) },
  { dst := some 12, op := .mv (.t 0) },
  { dst := some 13, op := .mv (.t 5) },
  { dst := some 14, op := .indexAddr T161 (.t 12) (.t 13) },
  { dst := some 15, op := .load T161 (.t 14) },
  { dst := some 16, op := .bin .eql (.t 11) (.t 15) }]
def c42_5 : AC := .out [0, 1, 5, 7, 8, 16] (.reg [0, 1, 5, 7, 8] c42_r4)
def c42_r5 : List AI := [{ dst := some 17, op := .mv (.t 5) },
  { dst := some 4, op := .asg (.t 17) }]
def c42_6 : AC := .out [4] (.reg [5] c42_r5)
def c42_7 : AC := .out [0, 1, 4, 7, 8] (.cond (.t 16) (.seq c42_6 .ret) .skip)
def c42_8 : AC := .out [0, 1, 4, 7, 8] (.block 1 (.seq c42_4 (.seq c42_5 c42_7)))
def c42_r6 : List AI := [{ dst := some 18, op := .bin .add (.t 8) (.c T161 1) },
  { dst := some 8, op := .mv (.t 18) }]
def c42_9 : AC := .out [0, 1, 7, 8] (.reg [0, 1, 7, 8] c42_r6)
def c42_10 : AC := (.seq c42_2 (.seq c42_3 (.seq c42_8 c42_9)))
def c42_11 : AC := .out [4] (.loop [0, 1, 7, 8] c42_10)
def c42_12 : AC := .out [4] (.block 0 c42_11)
def c42_r7 : List AI := [{ dst := some 4, op := .asg (.c T161 (-1)) }]
def c42_13 : AC := .out [4] (.reg [] c42_r7)
def c42_14 : AC := (.seq c42_0 (.seq (.seq c42_1 c42_12) (.seq c42_13 .ret)))
def c42 : AC := c42_14
def d42 : FD := { nargs := 2, body := c42, res := [.t 4] }
-- slices.Contains[[]int,int]
def c40_r0 : List AI := [{ dst := some 4, op := .asg (.c .bool false) }]
def c40_0 : AC := .out [0, 1] (.reg [0, 1] c40_r0)
def c40_r1 : List AI := [{ dst := some 5, op := .mv (.t 0) },
  { dst := some 6, op := .mv (.t 1) },
  { dst := some 7, op := .call 42 [(.t 5), (.t 6)] },
  { dst := some 8, op := .bin .geq (.t 7) (.c T161 0) },
  { dst := some 4, op := .asg (.t 8) }]
def c40_1 : AC := .out [4] (.reg [0, 1] c40_r1)
def c40_2 : AC := (.seq c40_0 (.seq c40_1 .ret))
def c40 : AC := c40_2
def d40 : FD := { nargs := 2, body := c40, res := [.t 4] }
-- anceps/weight.Allowed
def c25_r0 : List AI := [{ dst := some 4, op := .asg (.nil 33 T166) }]
def c25_0 : AC := .out [0, 1] (.reg [0, 1] c25_r0)
def c25_r1 : List AI := [{ dst := some 5, op := .asg (.nil 33 T166) }]
def c25_1 : AC := .out [0, 1, 5] (.reg [0, 1] c25_r1)
def c25_r2 : List AI := [{ dst := some 8, op := .mv (.t 0) },
  { dst := some 9, op := .lenL (.t 8) },
  { dst := some 10, op := .mv (.c T161 0) }]
def c25_2 : AC := .out [1, 5, 8, 9, 10] (.reg [0, 1, 5] c25_r2)
def c25_r3 : List AI := [{ dst := some 11, op := .bin .lss (.t 10) (.t 9) }]
def c25_3 : AC := .out [1, 5, 8, 9, 10, 11] (.reg [1, 5, 8, 9, 10] c25_r3)
def c25_4 : AC := .out [1, 5, 8, 9, 10] (.cond (.t 11) .skip (.exit 0))
def c25_r4 : List AI := [{ dst := some 12, op := .indexAddr T166 (.t 8) (.t 10) },
  { dst := some 13, op := .load T166 (.t 12) },
  { dst := some 7, op := .alloc T166 .no },
  { dst := none, op := .store T166 (.t 7) (.t 13) }]
def c25_5 : AC := .out [1, 5, 7, 8, 9, 10] (.reg [1, 5, 8, 9, 10] c25_r4)
def c25_r5 : List AI := [{ dst := some 14, op := .fieldAddr T166 [.r, .r, .l] (.t 7) },
  { dst := some 15, op := .load T161 (.t 14) },
  { dst := some 16, op := .bin .eql (.t 15) (.c T161 0) },
  { dst := some 17, op := .mv (.t 16) },
  { dst := some 18, op := .mv (.t 1), guard := some (17, false) },
  { dst := some 19, op := .fieldAddr T166 [.r, .r, .l] (.t 7), guard := some (17, false) },
  { dst := some 20, op := .load T161 (.t 19), guard := some (17, false) },
  { dst := some 21, op := .call 40 [(.t 18), (.t 20)], guard := some (17, false) },
  { dst := some 22, op := .pick (.t 17) (.c .bool true) (.t 21) }]
def c25_6 : AC := .out [1, 5, 7, 8, 9, 10, 22] (.reg [1, 5, 7, 8, 9, 10] c25_r5)
def c25_r6 : List AI := [{ dst := some 23, op := .mv (.t 5) },
  { dst := some 24, op := .load T166 (.t 7) },
  { dst := some 25, op := .buildSlice 33 T166 [(.t 24)] },
  { dst := some 26, op := .append 33 T166 5864062014805 (.t 23) (.t 25) },
  { dst := some 5, op := .asg (.t 26) }]
def c25_7 : AC := .out [1, 5, 8, 9, 10] (.reg [1, 5, 7, 8, 9, 10] c25_r6)
def c25_8 : AC := .out [1, 5, 8, 9, 10] (.cond (.t 22) c25_7 .skip)
def c25_9 : AC := .out [1, 5, 8, 9, 10] (.block 1 (.seq c25_5 (.seq c25_6 c25_8)))
def c25_r7 : List AI := [{ dst := some 27, op := .bin .add (.t 10) (.c T161 1) },
  { dst := some 10, op := .mv (.t 27) }]
def c25_10 : AC := .out [1, 5, 8, 9, 10] (.reg [1, 5, 8, 9, 10] c25_r7)
def c25_11 : AC := (.seq c25_3 (.seq c25_4 (.seq c25_9 c25_10)))
def c25_12 : AC := .out [5] (.loop [1, 5, 8, 9, 10] c25_11)
def c25_13 : AC := .out [5] (.block 0 c25_12)
def c25_r8 : List AI := [{ dst := some 28, op := .mv (.t 5) },
  { dst := some 4, op := .asg (.t 28) }]
def c25_14 : AC := .out [4, 5] (.reg [5] c25_r8)
def c25_15 : AC := (.seq c25_0 (.seq c25_1 (.seq (.seq c25_2 c25_13) (.seq c25_14 .ret))))
def c25 : AC := c25_15
def d25 : FD := { nargs := 2, body := c25, res := [.t 4] }
-- anceps/ancepslaw16.every
def c26_r0 : List AI := [{ dst := some 0, op := .asg (.nil 3 T161) }]
def c26_0 : AC := .out [] (.reg [] c26_r0)
def c26_r1 : List AI := [{ dst := some 1, op := .asg (.nil 3 T161) }]
def c26_1 : AC := .out [1] (.reg [] c26_r1)
def c26_r2 : List AI := [{ dst := some 3, op := .mv (.c T161 0) }]
def c26_2 : AC := .out [1, 3] (.reg [1] c26_r2)
def c26_r3 : List AI := [{ dst := some 4, op := .bin .lss (.t 3) (.c T161 12) }]
def c26_3 : AC := .out [1, 3, 4] (.reg [1, 3] c26_r3)
def c26_4 : AC := .out [1, 3] (.cond (.t 4) .skip (.exit 0))
def c26_r4 : List AI := [{ dst := some 5, op := .mv (.t 3) },
  { dst := some 2, op := .asg (.t 5) }]
def c26_5 : AC := .out [1, 2, 3] (.reg [1, 3] c26_r4)
def c26_r5 : List AI := [{ dst := some 6, op := .mv (.t 1) },
  { dst := some 7, op := .mv (.t 2) },
  { dst := some 8, op := .bin .add (.t 7) (.c T161 1) },
  { dst := some 9, op := .buildSlice 3 T161 [(.t 8)] },
  { dst := some 10, op := .append 3 T161 17592186044416 (.t 6) (.t 9) },
  { dst := some 1, op := .asg (.t 10) }]
def c26_6 : AC := .out [1, 3] (.reg [1, 2, 3] c26_r5)
def c26_7 : AC := .out [1, 3] (.block 1 (.seq c26_5 c26_6))
def c26_r6 : List AI := [{ dst := some 11, op := .bin .add (.t 3) (.c T161 1) },
  { dst := some 3, op := .mv (.t 11) }]
def c26_8 : AC := .out [1, 3] (.reg [1, 3] c26_r6)
def c26_9 : AC := (.seq c26_3 (.seq c26_4 (.seq c26_7 c26_8)))
def c26_10 : AC := .out [1] (.loop [1, 3] c26_9)
def c26_11 : AC := .out [1] (.block 0 c26_10)
def c26_r7 : List AI := [{ dst := some 12, op := .mv (.t 1) },
  { dst := some 0, op := .asg (.t 12) }]
def c26_12 : AC := .out [0, 1] (.reg [1] c26_r7)
def c26_13 : AC := (.seq c26_0 (.seq c26_1 (.seq (.seq c26_2 c26_11) (.seq c26_12 .ret))))
def c26 : AC := c26_13
def d26 : FD := { nargs := 0, body := c26, res := [.t 0] }
-- anceps/ancepslaw16.WeightAlways
def c8_r0 : List AI := [{ dst := some 6, op := .asg (.c .bool false) }]
def c8_0 : AC := .out [0, 1, 2] (.reg [0, 1, 2] c8_r0)
def c8_r1 : List AI := [{ dst := some 15, op := .call 11 [] },
  { dst := some 16, op := .un .not (.t 15) }]
def c8_1 : AC := .out [0, 1, 2, 16] (.reg [0, 1, 2] c8_r1)
def c8_r2 : List AI := [{ dst := some 6, op := .asg (.c .bool false) }]
def c8_2 : AC := .out [6] (.reg [] c8_r2)
def c8_3 : AC := .out [0, 1, 2, 6] (.cond (.t 16) (.seq c8_2 .ret) .skip)
def c8_r3 : List AI := [{ dst := some 17, op := .mv (.t 0) },
  { dst := some 18, op := .bin .rem (.t 17) (.c T160 3) },
  { dst := some 19, op := .convI .i64 (.t 18) },
  { dst := some 20, op := .bin .add (.c T161 1) (.t 19) },
  { dst := some 21, op := .mv (.t 1) },
  { dst := some 22, op := .bin .rem (.t 21) (.c T160 4) },
  { dst := some 23, op := .convI .i64 (.t 22) },
  { dst := some 24, op := .bin .add (.c T161 1) (.t 23) },
  { dst := some 7, op := .asg (.t 20) },
  { dst := some 8, op := .asg (.t 24) }]
def c8_4 : AC := .out [2, 7, 8] (.reg [0, 1, 2] c8_r3)
def c8_r4 : List AI := [{ dst := some 26, op := .mv (.t 7) },
  { dst := some 27, op := .mv (.t 8) },
  { dst := some 28, op := .call 12 [(.t 26), (.t 27)] },
  { dst := some 25, op := .mv (.t 28) },
  { dst := some 29, op := .extract 25 0 },
  { dst := some 30, op := .extract 25 1 },
  { dst := some 9, op := .asg (.t 29) },
  { dst := some 10, op := .asg (.t 30) }]
def c8_5 : AC := .out [2, 7, 8, 9, 10] (.reg [2, 7, 8] c8_r4)
def c8_r5 : List AI := [{ dst := some 32, op := .mv (.t 7) },
  { dst := some 33, op := .mv (.t 2) },
  { dst := some 34, op := .call 15 [(.t 32), (.t 33)] },
  { dst := some 31, op := .mv (.t 34) },
  { dst := some 35, op := .extract 31 0 },
  { dst := some 36, op := .extract 31 1 },
  { dst := some 11, op := .asg (.t 35) },
  { dst := some 12, op := .asg (.t 36) }]
def c8_6 : AC := .out [8, 9, 10, 11, 12] (.reg [2, 7, 8, 9, 10] c8_r5)
def c8_r6 : List AI := [{ dst := some 37, op := .mv (.t 10) },
  { dst := some 38, op := .bin .neq (.t 37) (.c T161 0) },
  { dst := some 39, op := .mv (.t 38) },
  { dst := some 40, op := .mv (.t 12), guard := some (39, false) },
  { dst := some 41, op := .bin .neq (.t 40) (.c T161 0), guard := some (39, false) },
  { dst := some 42, op := .pick (.t 39) (.c .bool true) (.t 41) },
  { dst := some 43, op := .mv (.t 42) },
  { dst := some 44, op := .mv (.t 9), guard := some (43, false) },
  { dst := some 45, op := .call 25 [(.t 44), (.nil 3 T161)], guard := some (43, false) },
  { dst := some 46, op := .lenL (.t 45), guard := some (43, false) },
  { dst := some 47, op := .bin .eql (.t 46) (.c T161 0), guard := some (43, false) },
  { dst := some 48, op := .pick (.t 43) (.c .bool true) (.t 47) },
  { dst := some 49, op := .mv (.t 48) },
  { dst := some 50, op := .mv (.t 11), guard := some (49, false) },
  { dst := some 51, op := .call 25 [(.t 50), (.nil 3 T161)], guard := some (49, false) },
  { dst := some 52, op := .lenL (.t 51), guard := some (49, false) },
  { dst := some 53, op := .bin .eql (.t 52) (.c T161 0), guard := some (49, false) },
  { dst := some 54, op := .pick (.t 49) (.c .bool true) (.t 53) }]
def c8_7 : AC := .out [8, 9, 11, 54] (.reg [8, 9, 10, 11, 12] c8_r6)
def c8_r7 : List AI := [{ dst := some 6, op := .asg (.c .bool false) }]
def c8_8 : AC := .out [6] (.reg [] c8_r7)
def c8_9 : AC := .out [6, 8, 9, 11] (.cond (.t 54) (.seq c8_8 .ret) .skip)
def c8_r8 : List AI := [{ dst := some 55, op := .mv (.t 9) },
  { dst := some 56, op := .call 26 [] },
  { dst := some 57, op := .call 25 [(.t 55), (.t 56)] },
  { dst := some 58, op := .call 19 [(.t 57)] },
  { dst := some 59, op := .mv (.t 11) },
  { dst := some 60, op := .call 26 [] },
  { dst := some 61, op := .call 25 [(.t 59), (.t 60)] },
  { dst := some 62, op := .call 19 [(.t 61)] },
  { dst := some 13, op := .asg (.t 58) },
  { dst := some 14, op := .asg (.t 62) }]
def c8_10 : AC := .out [8, 13, 14] (.reg [8, 9, 11] c8_r8)
def c8_r9 : List AI := [{ dst := some 63, op := .mv (.t 13) },
  { dst := some 64, op := .bin .and (.t 63) (.c T161 2) },
  { dst := some 65, op := .bin .gtr (.t 64) (.c T161 0) },
  { dst := some 66, op := .mv (.t 65) },
  { dst := some 67, op := .mv (.t 8), guard := some (66, true) },
  { dst := some 68, op := .bin .neq (.t 67) (.c T161 1), guard := some (66, true) },
  { dst := some 69, op := .mv (.t 68), guard := some (66, true) },
  { dst := some 70, op := .mv (.t 13), guard := some (69, false) },
  { dst := some 71, op := .bin .eql (.t 70) (.c T161 3), guard := some (69, false) },
  { dst := some 72, op := .pick (.t 69) (.c .bool true) (.t 71), guard := some (66, true) },
  { dst := some 73, op := .pick (.t 66) (.t 72) (.c .bool false) },
  { dst := some 74, op := .mv (.t 73) },
  { dst := some 75, op := .mv (.t 14), guard := some (74, true) },
  { dst := some 76, op := .bin .eql (.t 75) (.c T161 3), guard := some (74, true) },
  { dst := some 77, op := .pick (.t 74) (.t 76) (.c .bool false) },
  { dst := some 6, op := .asg (.t 77) }]
def c8_11 : AC := .out [6] (.reg [8, 13, 14] c8_r9)
def c8_12 : AC := (.seq c8_0 (.seq (.seq c8_1 c8_3) (.seq c8_4 (.seq c8_5 (.seq c8_6 (.seq (.seq c8_7 c8_9) (.seq c8_10 (.seq c8_11 .ret))))))))
def c8 : AC := c8_12
def d8 : FD := { nargs := 3, body := c8, res := [.t 6] }
-- anceps/ancepslaw16.WeightOpen
def c9_r0 : List AI := [{ dst := some 6, op := .asg (.c .bool false) }]
def c9_0 : AC := .out [0, 1, 2] (.reg [0, 1, 2] c9_r0)
def c9_r1 : List AI := [{ dst := some 14, op := .call 11 [] },
  { dst := some 15, op := .un .not (.t 14) },
  { dst := some 16, op := .mv (.t 15) },
  { dst := some 17, op := .mv (.t 2), guard := some (16, false) },
  { dst := some 18, op := .lenL (.t 17), guard := some (16, false) },
  { dst := some 19, op := .bin .gtr (.t 18) (.c T161 40), guard := some (16, false) },
  { dst := some 20, op := .pick (.t 16) (.c .bool true) (.t 19) }]
def c9_1 : AC := .out [0, 1, 2, 20] (.reg [0, 1, 2] c9_r1)
def c9_r2 : List AI := [{ dst := some 21, op := .call 11 [] },
  { dst := some 6, op := .asg (.t 21) }]
def c9_2 : AC := .out [6] (.reg [] c9_r2)
def c9_3 : AC := .out [0, 1, 2, 6] (.cond (.t 20) (.seq c9_2 .ret) .skip)
def c9_r3 : List AI := [{ dst := some 22, op := .build T163 [] },
  { dst := some 23, op := .build T163 [] },
  { dst := some 7, op := .alloc T163 .no },
  { dst := some 8, op := .alloc T163 .no },
  { dst := none, op := .store T163 (.t 7) (.t 22) },
  { dst := none, op := .store T163 (.t 8) (.t 23) }]
def c9_4 : AC := .out [0, 1, 2, 7, 8] (.reg [0, 1, 2] c9_r3)
def c9_r4 : List AI := [{ dst := some 9, op := .asg (.c T161 1) }]
def c9_5 : AC := .out [0, 1, 2, 7, 8, 9] (.reg [0, 1, 2, 7, 8] c9_r4)
def c9_r5 : List AI := [{ dst := some 24, op := .mv (.t 9) },
  { dst := some 25, op := .bin .leq (.t 24) (.c T161 3) }]
def c9_6 : AC := .out [0, 1, 2, 7, 8, 9, 25] (.reg [0, 1, 2, 7, 8, 9] c9_r5)
def c9_7 : AC := .out [0, 1, 2, 7, 8, 9] (.cond (.t 25) .skip (.exit 0))
def c9_r7 : List AI := [{ dst := some 29, op := .mv (.t 9) },
  { dst := some 30, op := .mv (.t 0) },
  { dst := some 31, op := .bin .rem (.t 30) (.c T160 4) },
  { dst := some 32, op := .convI .i64 (.t 31) },
  { dst := some 33, op := .bin .add (.c T161 1) (.t 32) },
  { dst := some 34, op := .call 12 [(.t 29), (.t 33)] },
  { dst := some 28, op := .mv (.t 34) },
  { dst := some 35, op := .extract 28 0 },
  { dst := some 36, op := .extract 28 1 },
  { dst := some 10, op := .asg (.t 35) },
  { dst := some 11, op := .asg (.t 36) }]
def c9_8 : AC := .out [0, 1, 2, 7, 8, 9, 10, 11] (.reg [0, 1, 2, 7, 8, 9] c9_r7)
def c9_r8 : List AI := [{ dst := some 38, op := .mv (.t 9) },
  { dst := some 39, op := .mv (.t 1) },
  { dst := some 40, op := .call 15 [(.t 38), (.t 39)] },
  { dst := some 37, op := .mv (.t 40) },
  { dst := some 41, op := .extract 37 0 },
  { dst := some 42, op := .extract 37 1 },
  { dst := some 12, op := .asg (.t 41) },
  { dst := some 13, op := .asg (.t 42) }]
def c9_9 : AC := .out [0, 1, 2, 7, 8, 9, 10, 11, 12, 13] (.reg [0, 1, 2, 7, 8, 9, 10, 11] c9_r8)
def c9_r9 : List AI := [{ dst := some 43, op := .mv (.t 11) },
  { dst := some 44, op := .bin .neq (.t 43) (.c T161 0) },
  { dst := some 45, op := .mv (.t 44) },
  { dst := some 46, op := .mv (.t 13), guard := some (45, false) },
  { dst := some 47, op := .bin .neq (.t 46) (.c T161 0), guard := some (45, false) },
  { dst := some 48, op := .pick (.t 45) (.c .bool true) (.t 47) }]
def c9_10 : AC := .out [0, 1, 2, 7, 8, 9, 10, 12, 48] (.reg [0, 1, 2, 7, 8, 9, 10, 11, 12, 13] c9_r9)
def c9_r10 : List AI := [{ dst := some 6, op := .asg (.c .bool false) }]
def c9_11 : AC := .out [6] (.reg [] c9_r10)
def c9_12 : AC := .out [0, 1, 2, 6, 7, 8, 9, 10, 12] (.cond (.t 48) (.seq c9_11 .ret) .skip)
def c9_r11 : List DI := [{ ai := { dst := some 49, op := .mv (.t 9) }, hide := [50, 51, 52, 53, 54, 55, 56, 57, 58], wr := [49], pre := [] },
  { ai := { dst := some 50, op := .mv (.t 9) }, hide := [7, 49, 51, 52, 53, 54, 55, 56, 57, 58, 59], wr := [50], pre := [] },
  { ai := { dst := some 51, op := .mv (.t 10) }, hide := [49, 50, 52, 55, 56], wr := [51], pre := [] },
  { ai := { dst := some 52, op := .mv (.t 2) }, hide := [49, 50, 51, 55, 56], wr := [52], pre := [] },
  { ai := { dst := some 53, op := .call 25 [(.t 51), (.t 52)] }, hide := [49, 50, 55, 56], wr := [53], pre := [2, 3] },
  { ai := { dst := some 54, op := .call 19 [(.t 53)] }, hide := [49, 50, 55, 56], wr := [54], pre := [2, 3, 4] },
  { ai := { dst := some 55, op := .mv (.t 12) }, hide := [49, 50, 51, 52, 53, 54, 56, 59], wr := [55], pre := [] },
  { ai := { dst := some 56, op := .mv (.t 2) }, hide := [49, 50, 51, 52, 53, 54, 55, 59], wr := [56], pre := [] },
  { ai := { dst := some 57, op := .call 25 [(.t 55), (.t 56)] }, hide := [49, 50, 59], wr := [57], pre := [2, 3, 4, 5, 6, 7] },
  { ai := { dst := some 58, op := .call 19 [(.t 57)] }, hide := [49, 50, 59], wr := [58], pre := [2, 3, 4, 5, 6, 7, 8] },
  { ai := { dst := some 59, op := .indexArr 4 T161 (.t 7) (.t 49) }, hide := [50, 55, 56, 57, 58], wr := [59], pre := [0, 2, 3, 4, 5] },
  { ai := { dst := none, op := .store T161 (.t 59) (.t 54) }, hide := [50], wr := [7, 59], pre := [0, 2, 3, 4, 5, 6, 7, 8, 9, 10] },
  { ai := { dst := some 60, op := .indexArr 4 T161 (.t 8) (.t 50) }, hide := [], wr := [60], pre := [0, 1, 2, 3, 4, 5, 6, 7, 8, 9, 10, 11] },
  { ai := { dst := none, op := .store T161 (.t 60) (.t 58) }, hide := [], wr := [8, 60], pre := [0, 1, 2, 3, 4, 5, 6, 7, 8, 9, 10, 11, 12] }]
def c9_13 : AC := .out [0, 1, 2, 7, 8, 9] (.draw [0, 1, 2, 7, 8, 9, 10, 12] c9_r11)
def c9_14 : AC := .out [0, 1, 2, 6, 7, 8, 9] (.block 1 (.seq c9_8 (.seq c9_9 (.seq (.seq c9_10 c9_12) c9_13))))
def c9_r6 : List AI := [{ dst := some 26, op := .mv (.t 9) },
  { dst := some 27, op := .bin .add (.t 26) (.c T161 1) },
  { dst := some 9, op := .asg (.t 27) }]
def c9_15 : AC := .out [0, 1, 2, 7, 8, 9] (.reg [0, 1, 2, 7, 8, 9] c9_r6)
def c9_16 : AC := (.seq (.seq c9_6 c9_7) (.seq c9_14 c9_15))
def c9_17 : AC := .out [6, 7, 8] (.loop [0, 1, 2, 7, 8, 9] c9_16)
def c9_18 : AC := .out [6, 7, 8] (.block 0 c9_17)
def c9_r12 : List AI := [{ dst := some 61, op := .indexArr 4 T161 (.t 7) (.c T161 3) },
  { dst := some 62, op := .load T161 (.t 61) },
  { dst := some 63, op := .indexArr 4 T161 (.t 7) (.c T161 1) },
  { dst := some 64, op := .load T161 (.t 63) },
  { dst := some 65, op := .indexArr 4 T161 (.t 7) (.c T161 2) },
  { dst := some 66, op := .load T161 (.t 65) },
  { dst := some 67, op := .bin .or (.t 64) (.t 66) },
  { dst := some 68, op := .bin .eql (.t 62) (.t 67) },
  { dst := some 69, op := .mv (.t 68) },
  { dst := some 70, op := .indexArr 4 T161 (.t 8) (.c T161 3), guard := some (69, true) },
  { dst := some 71, op := .load T161 (.t 70), guard := some (69, true) },
  { dst := some 72, op := .indexArr 4 T161 (.t 8) (.c T161 1), guard := some (69, true) },
  { dst := some 73, op := .load T161 (.t 72), guard := some (69, true) },
  { dst := some 74, op := .indexArr 4 T161 (.t 8) (.c T161 2), guard := some (69, true) },
  { dst := some 75, op := .load T161 (.t 74), guard := some (69, true) },
  { dst := some 76, op := .bin .or (.t 73) (.t 75), guard := some (69, true) },
  { dst := some 77, op := .bin .eql (.t 71) (.t 76), guard := some (69, true) },
  { dst := some 78, op := .pick (.t 69) (.t 77) (.c .bool false) },
  { dst := some 6, op := .asg (.t 78) }]
def c9_19 : AC := .out [6] (.reg [7, 8] c9_r12)
def c9_20 : AC := (.seq c9_0 (.seq (.seq c9_1 c9_3) (.seq c9_4 (.seq (.seq c9_5 c9_18) (.seq c9_19 .ret)))))
def c9 : AC := c9_20
def d9 : FD := { nargs := 3, body := c9, res := [.t 6] }
-- anceps/ancepsref16.has
def c41_r0 : List AI := [{ dst := some 4, op := .asg (.c .bool false) }]
def c41_0 : AC := .out [0, 1] (.reg [0, 1] c41_r0)
def c41_r1 : List AI := [{ dst := some 5, op := .asg (.c T161 0) }]
def c41_1 : AC := .out [0, 1, 5] (.reg [0, 1] c41_r1)
def c41_r2 : List AI := [{ dst := some 6, op := .mv (.t 5) },
  { dst := some 7, op := .mv (.t 0) },
  { dst := some 8, op := .lenL (.t 7) },
  { dst := some 9, op := .bin .lss (.t 6) (.t 8) }]
def c41_2 : AC := .out [0, 1, 5, 9] (.reg [0, 1, 5] c41_r2)
def c41_3 : AC := .out [0, 1, 5] (.cond (.t 9) .skip (.exit 0))
def c41_r4 : List AI := [{ dst := some 12, op := .mv (.t 0) },
  { dst := some 13, op := .mv (.t 5) },
  { dst := some 14, op := .indexAddr T161 (.t 12) (.t 13) },
  { dst := some 15, op := .load T161 (.t 14) },
  { dst := some 16, op := .mv (.t 1) },
  { dst := some 17, op := .bin .eql (.t 15) (.t 16) }]
def c41_4 : AC := .out [0, 1, 5, 17] (.reg [0, 1, 5] c41_r4)
def c41_r5 : List AI := [{ dst := some 4, op := .asg (.c .bool true) }]
def c41_5 : AC := .out [4] (.reg [] c41_r5)
def c41_6 : AC := .out [0, 1, 4, 5] (.cond (.t 17) (.seq c41_5 .ret) .skip)
def c41_7 : AC := .out [0, 1, 4, 5] (.block 1 (.seq c41_4 c41_6))
def c41_r3 : List AI := [{ dst := some 10, op := .mv (.t 5) },
  { dst := some 11, op := .bin .add (.t 10) (.c T161 1) },
  { dst := some 5, op := .asg (.t 11) }]
def c41_8 : AC := .out [0, 1, 5] (.reg [0, 1, 5] c41_r3)
def c41_9 : AC := (.seq (.seq c41_2 c41_3) (.seq c41_7 c41_8))
def c41_10 : AC := .out [4] (.loop [0, 1, 5] c41_9)
def c41_11 : AC := .out [4] (.block 0 c41_10)
def c41_r6 : List AI := [{ dst := some 4, op := .asg (.c .bool false) }]
def c41_12 : AC := .out [4] (.reg [] c41_r6)
def c41_13 : AC := (.seq c41_0 (.seq (.seq c41_1 c41_11) (.seq c41_12 .ret)))
def c41 : AC := c41_13
def d41 : FD := { nargs := 2, body := c41, res := [.t 4] }
-- anceps/ancepsref16.Allowed
def c29_r0 : List AI := [{ dst := some 4, op := .asg (.nil 33 T166) }]
def c29_0 : AC := .out [0, 1] (.reg [0, 1] c29_r0)
def c29_r1 : List AI := [{ dst := some 5, op := .asg (.nil 33 T166) }]
def c29_1 : AC := .out [0, 1, 5] (.reg [0, 1] c29_r1)
def c29_r2 : List AI := [{ dst := some 6, op := .asg (.c T161 0) }]
def c29_2 : AC := .out [0, 1, 5, 6] (.reg [0, 1, 5] c29_r2)
def c29_r3 : List AI := [{ dst := some 7, op := .mv (.t 6) },
  { dst := some 8, op := .mv (.t 0) },
  { dst := some 9, op := .lenL (.t 8) },
  { dst := some 10, op := .bin .lss (.t 7) (.t 9) }]
def c29_3 : AC := .out [0, 1, 5, 6, 10] (.reg [0, 1, 5, 6] c29_r3)
def c29_4 : AC := .out [0, 1, 5, 6] (.cond (.t 10) .skip (.exit 0))
def c29_r5 : List AI := [{ dst := some 13, op := .mv (.t 0) },
  { dst := some 14, op := .mv (.t 6) },
  { dst := some 15, op := .indexAddr T166 (.t 13) (.t 14) },
  { dst := some 16, op := .fieldAddr T166 [.r, .r, .l] (.t 15) },
  { dst := some 17, op := .load T161 (.t 16) },
  { dst := some 18, op := .bin .eql (.t 17) (.c T161 0) },
  { dst := some 19, op := .mv (.t 18) },
  { dst := some 20, op := .mv (.t 1), guard := some (19, false) },
  { dst := some 21, op := .mv (.t 0), guard := some (19, false) },
  { dst := some 22, op := .mv (.t 6), guard := some (19, false) },
  { dst := some 23, op := .indexAddr T166 (.t 21) (.t 22), guard := some (19, false) },
  { dst := some 24, op := .fieldAddr T166 [.r, .r, .l] (.t 23), guard := some (19, false) },
  { dst := some 25, op := .load T161 (.t 24), guard := some (19, false) },
  { dst := some 26, op := .call 41 [(.t 20), (.t 25)], guard := some (19, false) },
  { dst := some 27, op := .pick (.t 19) (.c .bool true) (.t 26) }]
def c29_5 : AC := .out [0, 1, 5, 6, 27] (.reg [0, 1, 5, 6] c29_r5)
def c29_r6 : List AI := [{ dst := some 28, op := .mv (.t 5) },
  { dst := some 29, op := .mv (.t 0) },
  { dst := some 30, op := .mv (.t 6) },
  { dst := some 31, op := .indexAddr T166 (.t 29) (.t 30) },
  { dst := some 32, op := .load T166 (.t 31) },
  { dst := some 33, op := .buildSlice 33 T166 [(.t 32)] },
  { dst := some 34, op := .append 33 T166 5864062014805 (.t 28) (.t 33) },
  { dst := some 5, op := .asg (.t 34) }]
def c29_6 : AC := .out [0, 1, 5, 6] (.reg [0, 1, 5, 6] c29_r6)
def c29_7 : AC := .out [0, 1, 5, 6] (.cond (.t 27) c29_6 .skip)
def c29_8 : AC := .out [0, 1, 5, 6] (.block 1 (.seq c29_5 c29_7))
def c29_r4 : List AI := [{ dst := some 11, op := .mv (.t 6) },
  { dst := some 12, op := .bin .add (.t 11) (.c T161 1) },
  { dst := some 6, op := .asg (.t 12) }]
def c29_9 : AC := .out [0, 1, 5, 6] (.reg [0, 1, 5, 6] c29_r4)
def c29_10 : AC := (.seq (.seq c29_3 c29_4) (.seq c29_8 c29_9))
def c29_11 : AC := .out [5] (.loop [0, 1, 5, 6] c29_10)
def c29_12 : AC := .out [5] (.block 0 c29_11)
def c29_r7 : List AI := [{ dst := some 35, op := .mv (.t 5) },
  { dst := some 4, op := .asg (.t 35) }]
def c29_13 : AC := .out [4, 5] (.reg [5] c29_r7)
def c29_14 : AC := (.seq c29_0 (.seq c29_1 (.seq (.seq c29_2 c29_12) (.seq c29_13 .ret))))
def c29 : AC := c29_14
def d29 : FD := { nargs := 2, body := c29, res := [.t 4] }
-- anceps/ancepslaw16.WeightAllowed
def c10_r0 : List AI := [{ dst := some 6, op := .asg (.c .bool false) }]
def c10_0 : AC := .out [0, 1, 2] (.reg [0, 1, 2] c10_r0)
def c10_r1 : List AI := [{ dst := some 9, op := .call 11 [] },
  { dst := some 10, op := .un .not (.t 9) },
  { dst := some 11, op := .mv (.t 10) },
  { dst := some 12, op := .mv (.t 0), guard := some (11, false) },
  { dst := some 13, op := .lenL (.t 12), guard := some (11, false) },
  { dst := some 14, op := .bin .gtr (.t 13) (.c T161 40), guard := some (11, false) },
  { dst := some 15, op := .pick (.t 11) (.c .bool true) (.t 14) },
  { dst := some 16, op := .mv (.t 15) },
  { dst := some 17, op := .mv (.t 1), guard := some (16, false) },
  { dst := some 18, op := .lenL (.t 17), guard := some (16, false) },
  { dst := some 19, op := .bin .gtr (.t 18) (.c T161 40), guard := some (16, false) },
  { dst := some 20, op := .pick (.t 16) (.c .bool true) (.t 19) }]
def c10_1 : AC := .out [0, 1, 2, 20] (.reg [0, 1, 2] c10_r1)
def c10_r2 : List AI := [{ dst := some 21, op := .call 11 [] },
  { dst := some 6, op := .asg (.t 21) }]
def c10_2 : AC := .out [6] (.reg [] c10_r2)
def c10_3 : AC := .out [0, 1, 2, 6] (.cond (.t 20) (.seq c10_2 .ret) .skip)
def c10_r3 : List AI := [{ dst := some 22, op := .mv (.t 0) },
  { dst := some 23, op := .call 27 [(.t 22)] },
  { dst := some 24, op := .mv (.t 1) },
  { dst := some 25, op := .call 28 [(.t 24)] },
  { dst := some 26, op := .call 25 [(.t 23), (.t 25)] },
  { dst := some 7, op := .asg (.t 26) }]
def c10_4 : AC := .out [0, 1, 2, 7] (.reg [0, 1, 2] c10_r3)
def c10_r4 : List AI := [{ dst := some 27, op := .mv (.t 0) },
  { dst := some 28, op := .mv (.t 1) },
  { dst := some 29, op := .call 28 [(.t 28)] },
  { dst := some 30, op := .mv (.t 2) },
  { dst := some 31, op := .buildSlice 3 T161 [(.t 30)] },
  { dst := some 32, op := .append 3 T161 17592186044416 (.t 29) (.t 31) },
  { dst := some 33, op := .call 25 [(.t 27), (.t 32)] },
  { dst := some 8, op := .asg (.t 33) }]
def c10_5 : AC := .out [0, 1, 7, 8] (.reg [0, 1, 2, 7] c10_r4)
def c10_r5 : List AI := [{ dst := some 34, op := .mv (.t 7) },
  { dst := some 35, op := .mv (.t 0) },
  { dst := some 36, op := .mv (.t 1) },
  { dst := some 37, op := .call 29 [(.t 35), (.t 36)] },
  { dst := some 38, op := .call 14 [(.t 34), (.t 37)] },
  { dst := some 39, op := .un .not (.t 38) },
  { dst := some 40, op := .mv (.t 39) },
  { dst := some 41, op := .mv (.t 7), guard := some (40, false) },
  { dst := some 42, op := .mv (.t 1), guard := some (40, false) },
  { dst := some 43, op := .call 25 [(.t 41), (.t 42)], guard := some (40, false) },
  { dst := some 44, op := .mv (.t 7), guard := some (40, false) },
  { dst := some 45, op := .call 14 [(.t 43), (.t 44)], guard := some (40, false) },
  { dst := some 46, op := .un .not (.t 45), guard := some (40, false) },
  { dst := some 47, op := .pick (.t 40) (.c .bool true) (.t 46) }]
def c10_6 : AC := .out [1, 7, 8, 47] (.reg [0, 1, 7, 8] c10_r5)
def c10_r6 : List AI := [{ dst := some 6, op := .asg (.c .bool false) }]
def c10_7 : AC := .out [6] (.reg [] c10_r6)
def c10_8 : AC := .out [1, 6, 7, 8] (.cond (.t 47) (.seq c10_7 .ret) .skip)
def c10_r7 : List AI := [{ dst := some 48, op := .mv (.t 8) },
  { dst := some 49, op := .mv (.t 1) },
  { dst := some 50, op := .call 25 [(.t 48), (.t 49)] },
  { dst := some 51, op := .mv (.t 7) },
  { dst := some 52, op := .call 14 [(.t 50), (.t 51)] },
  { dst := some 53, op := .mv (.t 52) },
  { dst := some 54, op := .mv (.t 8), guard := some (53, true) },
  { dst := some 55, op := .lenL (.t 54), guard := some (53, true) },
  { dst := some 56, op := .mv (.t 7), guard := some (53, true) },
  { dst := some 57, op := .lenL (.t 56), guard := some (53, true) },
  { dst := some 58, op := .bin .geq (.t 55) (.t 57), guard := some (53, true) },
  { dst := some 59, op := .pick (.t 53) (.t 58) (.c .bool false) },
  { dst := some 6, op := .asg (.t 59) }]
def c10_9 : AC := .out [6] (.reg [1, 7, 8] c10_r7)
def c10_10 : AC := (.seq c10_0 (.seq (.seq c10_1 c10_3) (.seq c10_4 (.seq c10_5 (.seq (.seq c10_6 c10_8) (.seq c10_9 .ret))))))
def c10 : AC := c10_10
def d10 : FD := { nargs := 3, body := c10, res := [.t 6] }
def table : Table := fun f => match f with
  | 5 => some d5
  | 6 => some d6
  | 8 => some d8
  | 9 => some d9
  | 10 => some d10
  | 11 => some d11
  | 12 => some d12
  | 14 => some d14
  | 15 => some d15
  | 17 => some d17
  | 18 => some d18
  | 19 => some d19
  | 20 => some d20
  | 25 => some d25
  | 26 => some d26
  | 29 => some d29
  | 30 => some d30
  | 31 => some d31
  | 32 => some d32
  | 35 => some d35
  | 36 => some d36
  | 40 => some d40
  | 41 => some d41
  | 42 => some d42
  | _ => none
end Go.Fw.L16
