import Derived.Test.YtngkconohhikpaaFwC
set_option linter.unusedVariables false
set_option linter.unusedSimpArgs false
namespace Go.Fw.L16
open Go Go.Fw
-- anceps/ancepslaw16.WeightOnce
def c5_r0 : List AI := [{ dst := some 6, op := .asg (.c .bool false) }]
def c5_r1 : List AI := [{ dst := some 15, op := .call 11 [] },
  { dst := some 16, op := .un .not (.t 15) }]
def c5_r2 : List AI := [{ dst := some 6, op := .asg (.c .bool false) }]
def c5_r3 : List AI := [{ dst := some 18, op := .mv (.t 0) },
  { dst := some 19, op := .bin .rem (.t 18) (.c (.int .u8) 3) },
  { dst := some 20, op := .convI .i64 (.t 19) },
  { dst := some 21, op := .bin .add (.c (.int .i64) 1) (.t 20) },
  { dst := some 22, op := .mv (.t 1) },
  { dst := some 23, op := .bin .rem (.t 22) (.c (.int .u8) 4) },
  { dst := some 24, op := .convI .i64 (.t 23) },
  { dst := some 25, op := .bin .add (.c (.int .i64) 1) (.t 24) },
  { dst := some 26, op := .call 12 [(.t 21), (.t 25)] },
  { dst := some 17, op := .mv (.t 26) },
  { dst := some 27, op := .extract 17 0 },
  { dst := some 28, op := .extract 17 1 },
  { dst := some 7, op := .asg (.t 27) },
  { dst := some 8, op := .asg (.t 28) }]
def c5_r4 : List AI := [{ dst := some 30, op := .mv (.t 0) },
  { dst := some 31, op := .bin .rem (.t 30) (.c (.int .u8) 3) },
  { dst := some 32, op := .convI .i64 (.t 31) },
  { dst := some 33, op := .bin .add (.c (.int .i64) 1) (.t 32) },
  { dst := some 34, op := .mv (.t 2) },
  { dst := some 35, op := .call 15 [(.t 33), (.t 34)] },
  { dst := some 29, op := .mv (.t 35) },
  { dst := some 36, op := .extract 29 0 },
  { dst := some 37, op := .extract 29 1 },
  { dst := some 9, op := .asg (.t 36) },
  { dst := some 10, op := .asg (.t 37) }]
def c5_r5 : List AI := [{ dst := some 38, op := .mv (.t 8) },
  { dst := some 39, op := .bin .neq (.t 38) (.c (.int .i64) 0) },
  { dst := some 40, op := .mv (.t 39) },
  { dst := some 41, op := .mv (.t 10), guard := some (40, false) },
  { dst := some 42, op := .bin .neq (.t 41) (.c (.int .i64) 0), guard := some (40, false) },
  { dst := some 43, op := .pick (.t 40) (.c .bool true) (.t 42) }]
def c5_r6 : List AI := [{ dst := some 6, op := .asg (.c .bool false) }]
def c5_r7 : List AI := [{ dst := some 44, op := .mv (.t 7) },
  { dst := some 45, op := .mv (.t 9) },
  { dst := some 46, op := .buildSlice 23 (.sl (.pair (.int .i64) (.pair (.int .i64) (.pair (.int .i64) .unit)))) [(.t 44), (.t 45)] },
  { dst := some 47, op := .lenL (.t 46) },
  { dst := some 48, op := .mv (.c (.int .i64) 0) }]
def c5_r8 : List AI := [{ dst := some 49, op := .bin .lss (.t 48) (.t 47) }]
def c5_r9 : List AI := [{ dst := some 50, op := .indexAddr (.sl (.pair (.int .i64) (.pair (.int .i64) (.pair (.int .i64) .unit)))) (.t 46) (.t 48) },
  { dst := some 51, op := .load (.sl (.pair (.int .i64) (.pair (.int .i64) (.pair (.int .i64) .unit)))) (.t 50) },
  { dst := some 12, op := .asg (.t 51) }]
def c5_r10 : List AI := [{ dst := some 52, op := .mv (.t 12) },
  { dst := some 53, op := .lenL (.t 52) },
  { dst := some 54, op := .mv (.c (.int .i64) 0) }]
def c5_r11 : List AI := [{ dst := some 55, op := .bin .lss (.t 54) (.t 53) }]
def c5_r12 : List AI := [{ dst := some 56, op := .mv (.t 54) },
  { dst := some 13, op := .asg (.t 56) }]
def c5_r13 : List AI := [{ dst := some 57, op := .mv (.t 13) },
  { dst := some 58, op := .mv (.c (.int .i64) 0) }]
def c5_r14 : List AI := [{ dst := some 59, op := .bin .lss (.t 58) (.t 57) }]
def c5_r15 : List AI := [{ dst := some 60, op := .mv (.t 58) },
  { dst := some 14, op := .asg (.t 60) }]
def c5_r16 : List DI := [{ ai := { dst := some 61, op := .mv (.t 12) }, hide := [62, 66, 67, 68, 69, 70], wr := [61], pre := [] },
  { ai := { dst := some 62, op := .mv (.t 13) }, hide := [61, 66, 67, 68, 69, 70], wr := [62], pre := [] },
  { ai := { dst := some 63, op := .indexAddr (.pair (.int .i64) (.pair (.int .i64) (.pair (.int .i64) .unit))) (.t 61) (.t 62) }, hide := [66, 67, 68, 69, 70], wr := [63], pre := [0, 1] },
  { ai := { dst := some 64, op := .fieldAddr (.pair (.int .i64) (.pair (.int .i64) (.pair (.int .i64) .unit))) [.l] (.t 63) }, hide := [66, 67, 68, 69, 70], wr := [64], pre := [0, 1, 2] },
  { ai := { dst := some 65, op := .load (.int .i64) (.t 64) }, hide := [66, 67, 68, 69, 70], wr := [65], pre := [0, 1, 2, 3] },
  { ai := { dst := some 66, op := .mv (.t 12) }, hide := [61, 62, 63, 64, 65, 67], wr := [66], pre := [] },
  { ai := { dst := some 67, op := .mv (.t 14) }, hide := [61, 62, 63, 64, 65, 66], wr := [67], pre := [] },
  { ai := { dst := some 68, op := .indexAddr (.pair (.int .i64) (.pair (.int .i64) (.pair (.int .i64) .unit))) (.t 66) (.t 67) }, hide := [61, 62, 63, 64, 65], wr := [68], pre := [5, 6] },
  { ai := { dst := some 69, op := .fieldAddr (.pair (.int .i64) (.pair (.int .i64) (.pair (.int .i64) .unit))) [.l] (.t 68) }, hide := [61, 62, 63, 64, 65], wr := [69], pre := [5, 6, 7] },
  { ai := { dst := some 70, op := .load (.int .i64) (.t 69) }, hide := [61, 62, 63, 64, 65], wr := [70], pre := [5, 6, 7, 8] },
  { ai := { dst := some 71, op := .bin .eql (.t 65) (.t 70) }, hide := [], wr := [71], pre := [0, 1, 2, 3, 4, 5, 6, 7, 8, 9] },
  { ai := { dst := some 72, op := .mv (.t 71) }, hide := [], wr := [72], pre := [0, 1, 2, 3, 4, 5, 6, 7, 8, 9, 10] },
  { ai := { dst := some 73, op := .mv (.t 12), guard := some (72, false) }, hide := [74], wr := [73], pre := [0, 1, 2, 3, 4, 5, 6, 7, 8, 9, 10, 11] },
  { ai := { dst := some 74, op := .mv (.t 14), guard := some (72, false) }, hide := [73], wr := [74], pre := [0, 1, 2, 3, 4, 5, 6, 7, 8, 9, 10, 11] },
  { ai := { dst := some 75, op := .indexAddr (.pair (.int .i64) (.pair (.int .i64) (.pair (.int .i64) .unit))) (.t 73) (.t 74), guard := some (72, false) }, hide := [], wr := [75], pre := [0, 1, 2, 3, 4, 5, 6, 7, 8, 9, 10, 11, 12, 13] },
  { ai := { dst := some 76, op := .fieldAddr (.pair (.int .i64) (.pair (.int .i64) (.pair (.int .i64) .unit))) [.r, .r, .l] (.t 75), guard := some (72, false) }, hide := [], wr := [76], pre := [0, 1, 2, 3, 4, 5, 6, 7, 8, 9, 10, 11, 12, 13, 14] },
  { ai := { dst := some 77, op := .load (.int .i64) (.t 76), guard := some (72, false) }, hide := [], wr := [77], pre := [0, 1, 2, 3, 4, 5, 6, 7, 8, 9, 10, 11, 12, 13, 14, 15] },
  { ai := { dst := some 78, op := .bin .neq (.t 77) (.c (.int .i64) 0), guard := some (72, false) }, hide := [], wr := [78], pre := [0, 1, 2, 3, 4, 5, 6, 7, 8, 9, 10, 11, 12, 13, 14, 15, 16] },
  { ai := { dst := some 79, op := .mv (.t 78), guard := some (72, false) }, hide := [], wr := [79], pre := [0, 1, 2, 3, 4, 5, 6, 7, 8, 9, 10, 11, 12, 13, 14, 15, 16, 17] },
  { ai := { dst := some 80, op := .mv (.t 12), guard := some (79, true) }, hide := [81], wr := [80], pre := [0, 1, 2, 3, 4, 5, 6, 7, 8, 9, 10, 11, 12, 13, 14, 15, 16, 17, 18] },
  { ai := { dst := some 81, op := .mv (.t 13), guard := some (79, true) }, hide := [80], wr := [81], pre := [0, 1, 2, 3, 4, 5, 6, 7, 8, 9, 10, 11, 12, 13, 14, 15, 16, 17, 18] },
  { ai := { dst := some 82, op := .indexAddr (.pair (.int .i64) (.pair (.int .i64) (.pair (.int .i64) .unit))) (.t 80) (.t 81), guard := some (79, true) }, hide := [], wr := [82], pre := [0, 1, 2, 3, 4, 5, 6, 7, 8, 9, 10, 11, 12, 13, 14, 15, 16, 17, 18, 19, 20] },
  { ai := { dst := some 83, op := .fieldAddr (.pair (.int .i64) (.pair (.int .i64) (.pair (.int .i64) .unit))) [.r, .r, .l] (.t 82), guard := some (79, true) }, hide := [], wr := [83], pre := [0, 1, 2, 3, 4, 5, 6, 7, 8, 9, 10, 11, 12, 13, 14, 15, 16, 17, 18, 19, 20, 21] },
  { ai := { dst := some 84, op := .load (.int .i64) (.t 83), guard := some (79, true) }, hide := [], wr := [84], pre := [0, 1, 2, 3, 4, 5, 6, 7, 8, 9, 10, 11, 12, 13, 14, 15, 16, 17, 18, 19, 20, 21, 22] },
  { ai := { dst := some 85, op := .bin .eql (.t 84) (.c (.int .i64) 0), guard := some (79, true) }, hide := [], wr := [85], pre := [0, 1, 2, 3, 4, 5, 6, 7, 8, 9, 10, 11, 12, 13, 14, 15, 16, 17, 18, 19, 20, 21, 22, 23] },
  { ai := { dst := some 86, op := .pick (.t 79) (.t 85) (.c .bool false), guard := some (72, false) }, hide := [], wr := [86], pre := [0, 1, 2, 3, 4, 5, 6, 7, 8, 9, 10, 11, 12, 13, 14, 15, 16, 17, 18, 19, 20, 21, 22, 23, 24] },
  { ai := { dst := some 87, op := .pick (.t 72) (.c .bool true) (.t 86) }, hide := [], wr := [87], pre := [0, 1, 2, 3, 4, 5, 6, 7, 8, 9, 10, 11, 12, 13, 14, 15, 16, 17, 18, 19, 20, 21, 22, 23, 24, 25] }]
def c5_r17 : List AI := [{ dst := some 6, op := .asg (.c .bool false) }]
def c5_r18 : List AI := [{ dst := some 88, op := .bin .add (.t 58) (.c (.int .i64) 1) },
  { dst := some 58, op := .mv (.t 88) }]
def c5_r19 : List AI := [{ dst := some 89, op := .bin .add (.t 54) (.c (.int .i64) 1) },
  { dst := some 54, op := .mv (.t 89) }]
def c5_r20 : List AI := [{ dst := some 90, op := .bin .add (.t 48) (.c (.int .i64) 1) },
  { dst := some 48, op := .mv (.t 90) }]
def c5_r21 : List AI := [{ dst := some 6, op := .asg (.c .bool true) }]
def c5 : AC := (.seq (.reg [0, 1, 2] c5_r0) (.seq (.seq (.reg [0, 1, 2] c5_r1) (.cond (.t 16) (.seq (.reg [] c5_r2) .ret) .skip)) (.seq (.reg [0, 1, 2] c5_r3) (.seq (.reg [0, 2, 7, 8, 27] c5_r4) (.seq (.seq (.reg [7, 8, 9, 10, 27, 36] c5_r5) (.cond (.t 43) (.seq (.reg [] c5_r6) .ret) .skip)) (.seq (.seq (.reg [7, 9, 27, 36] c5_r7) (.block 0 (.loop [46, 47, 48] (.seq (.reg [46, 47, 48] c5_r8) (.seq (.cond (.t 49) .skip (.exit 0)) (.seq (.block 1 (.seq (.reg [46, 47, 48] c5_r9) (.seq (.reg [12, 46, 47, 48, 50, 51] c5_r10) (.block 2 (.loop [12, 46, 47, 48, 50, 51, 53, 54] (.seq (.reg [12, 46, 47, 48, 50, 51, 53, 54] c5_r11) (.seq (.cond (.t 55) .skip (.exit 2)) (.seq (.block 3 (.seq (.reg [12, 46, 47, 48, 50, 51, 53, 54] c5_r12) (.seq (.reg [12, 13, 46, 47, 48, 50, 51, 53, 54] c5_r13) (.block 4 (.loop [12, 13, 46, 47, 48, 50, 51, 53, 54, 57, 58] (.seq (.reg [12, 13, 46, 47, 48, 50, 51, 53, 54, 57, 58] c5_r14) (.seq (.cond (.t 59) .skip (.exit 4)) (.seq (.block 5 (.seq (.reg [12, 13, 46, 47, 48, 50, 51, 53, 54, 57, 58] c5_r15) (.seq (.draw [12, 13, 14, 46, 47, 48, 50, 51, 53, 54, 57, 58] c5_r16) (.cond (.t 87) (.seq (.reg [] c5_r17) .ret) .skip)))) (.reg [12, 13, 46, 47, 48, 50, 51, 53, 54, 57, 58] c5_r18))))))))) (.reg [12, 46, 47, 48, 50, 51, 53, 54] c5_r19))))))))) (.reg [46, 47, 48] c5_r20))))))) (.seq (.reg [] c5_r21) .ret)))))))
def d5 : FD := { nargs := 3, body := c5, res := [.t 6] }
-- anceps/ancepslaw16.WeightPick
def c6_r0 : List AI := [{ dst := some 4, op := .asg (.c .bool false) }]
def c6_r1 : List AI := [{ dst := some 14, op := .call 11 [] },
  { dst := some 15, op := .un .not (.t 14) },
  { dst := some 16, op := .mv (.t 15) },
  { dst := some 17, op := .mv (.t 0), guard := some (16, false) },
  { dst := some 18, op := .lenL (.t 17), guard := some (16, false) },
  { dst := some 19, op := .bin .gtr (.t 18) (.c (.int .i64) 40), guard := some (16, false) },
  { dst := some 20, op := .pick (.t 16) (.c .bool true) (.t 19) }]
def c6_r2 : List AI := [{ dst := some 21, op := .call 11 [] },
  { dst := some 4, op := .asg (.t 21) }]
def c6_r3 : List AI := [{ dst := some 23, op := .mv (.t 0) },
  { dst := some 24, op := .mv (.t 1) },
  { dst := some 25, op := .call 17 [(.t 23), (.t 24)] },
  { dst := some 22, op := .mv (.t 25) },
  { dst := some 26, op := .extract 22 0 },
  { dst := some 27, op := .extract 22 1 },
  { dst := some 5, op := .asg (.t 26) },
  { dst := some 6, op := .asg (.t 27) }]
def c6_r4 : List AI := [{ dst := some 29, op := .mv (.t 0) },
  { dst := some 30, op := .mv (.t 1) },
  { dst := some 31, op := .call 18 [(.t 29), (.t 30)] },
  { dst := some 28, op := .mv (.t 31) },
  { dst := some 32, op := .extract 28 0 },
  { dst := some 33, op := .extract 28 1 },
  { dst := some 7, op := .asg (.t 32) },
  { dst := some 8, op := .asg (.t 33) }]
def c6_r5 : List AI := [{ dst := some 34, op := .mv (.t 0) },
  { dst := some 35, op := .call 19 [(.t 34)] },
  { dst := some 9, op := .asg (.t 35) }]
def c6_r6 : List AI := [{ dst := some 37, op := .mv (.t 0) },
  { dst := some 38, op := .call 17 [(.t 37), (.c (.int .i64) 1)] },
  { dst := some 36, op := .mv (.t 38) },
  { dst := some 39, op := .extract 36 0 },
  { dst := some 40, op := .extract 36 1 },
  { dst := some 10, op := .asg (.t 39) },
  { dst := some 11, op := .asg (.t 40) }]
def c6_r7 : List AI := [{ dst := some 42, op := .mv (.t 0) },
  { dst := some 43, op := .call 17 [(.t 42), (.c (.int .i64) 2)] },
  { dst := some 41, op := .mv (.t 43) },
  { dst := some 44, op := .extract 41 0 },
  { dst := some 45, op := .extract 41 1 },
  { dst := some 12, op := .asg (.t 44) },
  { dst := some 13, op := .asg (.t 45) }]
def c6_r8 : List AI := [{ dst := some 46, op := .mv (.t 5) },
  { dst := some 47, op := .mv (.t 7) },
  { dst := some 48, op := .bin .eql (.t 46) (.t 47) },
  { dst := some 49, op := .mv (.t 48) },
  { dst := some 50, op := .mv (.t 6), guard := some (49, true) },
  { dst := some 51, op := .mv (.t 8), guard := some (49, true) },
  { dst := some 52, op := .eqT false .bool (.t 50) (.t 51), guard := some (49, true) },
  { dst := some 53, op := .pick (.t 49) (.t 52) (.c .bool false) },
  { dst := some 54, op := .mv (.t 53) },
  { dst := some 55, op := .mv (.t 9), guard := some (54, true) },
  { dst := some 56, op := .mv (.t 0), guard := some (54, true) },
  { dst := some 57, op := .call 20 [(.t 56)], guard := some (54, true) },
  { dst := some 58, op := .bin .eql (.t 55) (.t 57), guard := some (54, true) },
  { dst := some 59, op := .pick (.t 54) (.t 58) (.c .bool false) },
  { dst := some 60, op := .mv (.t 59) },
  { dst := some 61, op := .mv (.t 11), guard := some (60, true) },
  { dst := some 62, op := .mv (.t 9), guard := some (60, true) },
  { dst := some 63, op := .bin .and (.t 62) (.c (.int .i64) 1), guard := some (60, true) },
  { dst := some 64, op := .bin .gtr (.t 63) (.c (.int .i64) 0), guard := some (60, true) },
  { dst := some 65, op := .eqT false .bool (.t 61) (.t 64), guard := some (60, true) },
  { dst := some 66, op := .pick (.t 60) (.t 65) (.c .bool false) },
  { dst := some 67, op := .mv (.t 66) },
  { dst := some 68, op := .mv (.t 13), guard := some (67, true) },
  { dst := some 69, op := .mv (.t 9), guard := some (67, true) },
  { dst := some 70, op := .bin .and (.t 69) (.c (.int .i64) 2), guard := some (67, true) },
  { dst := some 71, op := .bin .gtr (.t 70) (.c (.int .i64) 0), guard := some (67, true) },
  { dst := some 72, op := .eqT false .bool (.t 68) (.t 71), guard := some (67, true) },
  { dst := some 73, op := .pick (.t 67) (.t 72) (.c .bool false) },
  { dst := some 4, op := .asg (.t 73) }]
def c6 : AC := (.seq (.reg [0, 1] c6_r0) (.seq (.seq (.reg [0, 1] c6_r1) (.cond (.t 20) (.seq (.reg [] c6_r2) .ret) .skip)) (.seq (.reg [0, 1] c6_r3) (.seq (.reg [0, 1, 5, 6] c6_r4) (.seq (.reg [0, 5, 6, 7, 8] c6_r5) (.seq (.reg [0, 5, 6, 7, 8, 9] c6_r6) (.seq (.reg [0, 5, 6, 7, 8, 9, 11] c6_r7) (.seq (.reg [0, 5, 6, 7, 8, 9, 11, 13] c6_r8) .ret))))))))
def d6 : FD := { nargs := 2, body := c6, res := [.t 4] }
-- anceps/ancepslaw16.WeightAlways
def c8_r0 : List AI := [{ dst := some 6, op := .asg (.c .bool false) }]
def c8_r1 : List AI := [{ dst := some 15, op := .call 11 [] },
  { dst := some 16, op := .un .not (.t 15) }]
def c8_r2 : List AI := [{ dst := some 6, op := .asg (.c .bool false) }]
def c8_r3 : List AI := [{ dst := some 17, op := .mv (.t 0) },
  { dst := some 18, op := .bin .rem (.t 17) (.c (.int .u8) 3) },
  { dst := some 19, op := .convI .i64 (.t 18) },
  { dst := some 20, op := .bin .add (.c (.int .i64) 1) (.t 19) },
  { dst := some 21, op := .mv (.t 1) },
  { dst := some 22, op := .bin .rem (.t 21) (.c (.int .u8) 4) },
  { dst := some 23, op := .convI .i64 (.t 22) },
  { dst := some 24, op := .bin .add (.c (.int .i64) 1) (.t 23) },
  { dst := some 7, op := .asg (.t 20) },
  { dst := some 8, op := .asg (.t 24) }]
def c8_r4 : List AI := [{ dst := some 26, op := .mv (.t 7) },
  { dst := some 27, op := .mv (.t 8) },
  { dst := some 28, op := .call 12 [(.t 26), (.t 27)] },
  { dst := some 25, op := .mv (.t 28) },
  { dst := some 29, op := .extract 25 0 },
  { dst := some 30, op := .extract 25 1 },
  { dst := some 9, op := .asg (.t 29) },
  { dst := some 10, op := .asg (.t 30) }]
def c8_r5 : List AI := [{ dst := some 32, op := .mv (.t 7) },
  { dst := some 33, op := .mv (.t 2) },
  { dst := some 34, op := .call 15 [(.t 32), (.t 33)] },
  { dst := some 31, op := .mv (.t 34) },
  { dst := some 35, op := .extract 31 0 },
  { dst := some 36, op := .extract 31 1 },
  { dst := some 11, op := .asg (.t 35) },
  { dst := some 12, op := .asg (.t 36) }]
def c8_r6 : List AI := [{ dst := some 37, op := .mv (.t 10) },
  { dst := some 38, op := .bin .neq (.t 37) (.c (.int .i64) 0) },
  { dst := some 39, op := .mv (.t 38) },
  { dst := some 40, op := .mv (.t 12), guard := some (39, false) },
  { dst := some 41, op := .bin .neq (.t 40) (.c (.int .i64) 0), guard := some (39, false) },
  { dst := some 42, op := .pick (.t 39) (.c .bool true) (.t 41) },
  { dst := some 43, op := .mv (.t 42) },
  { dst := some 44, op := .mv (.t 9), guard := some (43, false) },
  { dst := some 45, op := .call 25 [(.t 44), (.nil 3 (.int .i64))], guard := some (43, false) },
  { dst := some 46, op := .lenL (.t 45), guard := some (43, false) },
  { dst := some 47, op := .bin .eql (.t 46) (.c (.int .i64) 0), guard := some (43, false) },
  { dst := some 48, op := .pick (.t 43) (.c .bool true) (.t 47) },
  { dst := some 49, op := .mv (.t 48) },
  { dst := some 50, op := .mv (.t 11), guard := some (49, false) },
  { dst := some 51, op := .call 25 [(.t 50), (.nil 3 (.int .i64))], guard := some (49, false) },
  { dst := some 52, op := .lenL (.t 51), guard := some (49, false) },
  { dst := some 53, op := .bin .eql (.t 52) (.c (.int .i64) 0), guard := some (49, false) },
  { dst := some 54, op := .pick (.t 49) (.c .bool true) (.t 53) }]
def c8_r7 : List AI := [{ dst := some 6, op := .asg (.c .bool false) }]
def c8_r8 : List AI := [{ dst := some 55, op := .mv (.t 9) },
  { dst := some 56, op := .call 26 [] },
  { dst := some 57, op := .call 25 [(.t 55), (.t 56)] },
  { dst := some 58, op := .call 19 [(.t 57)] },
  { dst := some 59, op := .mv (.t 11) },
  { dst := some 60, op := .call 26 [] },
  { dst := some 61, op := .call 25 [(.t 59), (.t 60)] },
  { dst := some 62, op := .call 19 [(.t 61)] },
  { dst := some 13, op := .asg (.t 58) },
  { dst := some 14, op := .asg (.t 62) }]
def c8_r9 : List AI := [{ dst := some 63, op := .mv (.t 13) },
  { dst := some 64, op := .bin .and (.t 63) (.c (.int .i64) 2) },
  { dst := some 65, op := .bin .gtr (.t 64) (.c (.int .i64) 0) },
  { dst := some 66, op := .mv (.t 65) },
  { dst := some 67, op := .mv (.t 8), guard := some (66, true) },
  { dst := some 68, op := .bin .neq (.t 67) (.c (.int .i64) 1), guard := some (66, true) },
  { dst := some 69, op := .mv (.t 68), guard := some (66, true) },
  { dst := some 70, op := .mv (.t 13), guard := some (69, false) },
  { dst := some 71, op := .bin .eql (.t 70) (.c (.int .i64) 3), guard := some (69, false) },
  { dst := some 72, op := .pick (.t 69) (.c .bool true) (.t 71), guard := some (66, true) },
  { dst := some 73, op := .pick (.t 66) (.t 72) (.c .bool false) },
  { dst := some 74, op := .mv (.t 73) },
  { dst := some 75, op := .mv (.t 14), guard := some (74, true) },
  { dst := some 76, op := .bin .eql (.t 75) (.c (.int .i64) 3), guard := some (74, true) },
  { dst := some 77, op := .pick (.t 74) (.t 76) (.c .bool false) },
  { dst := some 6, op := .asg (.t 77) }]
def c8 : AC := (.seq (.reg [0, 1, 2] c8_r0) (.seq (.seq (.reg [0, 1, 2] c8_r1) (.cond (.t 16) (.seq (.reg [] c8_r2) .ret) .skip)) (.seq (.reg [0, 1, 2] c8_r3) (.seq (.reg [2, 7, 8] c8_r4) (.seq (.reg [2, 7, 8, 9, 10, 29] c8_r5) (.seq (.seq (.reg [8, 9, 10, 11, 12, 29, 35] c8_r6) (.cond (.t 54) (.seq (.reg [] c8_r7) .ret) .skip)) (.seq (.reg [8, 9, 11, 29, 35] c8_r8) (.seq (.reg [8, 13, 14] c8_r9) .ret))))))))
def d8 : FD := { nargs := 3, body := c8, res := [.t 6] }
-- anceps/ancepslaw16.WeightOpen
def c9_r0 : List AI := [{ dst := some 6, op := .asg (.c .bool false) }]
def c9_r1 : List AI := [{ dst := some 14, op := .call 11 [] },
  { dst := some 15, op := .un .not (.t 14) },
  { dst := some 16, op := .mv (.t 15) },
  { dst := some 17, op := .mv (.t 2), guard := some (16, false) },
  { dst := some 18, op := .lenL (.t 17), guard := some (16, false) },
  { dst := some 19, op := .bin .gtr (.t 18) (.c (.int .i64) 40), guard := some (16, false) },
  { dst := some 20, op := .pick (.t 16) (.c .bool true) (.t 19) }]
def c9_r2 : List AI := [{ dst := some 21, op := .call 11 [] },
  { dst := some 6, op := .asg (.t 21) }]
def c9_r3 : List AI := [{ dst := some 22, op := .build (.arr 4 (.int .i64)) [] },
  { dst := some 23, op := .build (.arr 4 (.int .i64)) [] },
  { dst := some 7, op := .alloc (.arr 4 (.int .i64)) .no },
  { dst := some 8, op := .alloc (.arr 4 (.int .i64)) .no },
  { dst := none, op := .store (.arr 4 (.int .i64)) (.t 7) (.t 22) },
  { dst := none, op := .store (.arr 4 (.int .i64)) (.t 8) (.t 23) }]
def c9_r4 : List AI := [{ dst := some 9, op := .asg (.c (.int .i64) 1) }]
def c9_r5 : List AI := [{ dst := some 24, op := .mv (.t 9) },
  { dst := some 25, op := .bin .leq (.t 24) (.c (.int .i64) 3) }]
def c9_r7 : List AI := [{ dst := some 29, op := .mv (.t 9) },
  { dst := some 30, op := .mv (.t 0) },
  { dst := some 31, op := .bin .rem (.t 30) (.c (.int .u8) 4) },
  { dst := some 32, op := .convI .i64 (.t 31) },
  { dst := some 33, op := .bin .add (.c (.int .i64) 1) (.t 32) },
  { dst := some 34, op := .call 12 [(.t 29), (.t 33)] },
  { dst := some 28, op := .mv (.t 34) },
  { dst := some 35, op := .extract 28 0 },
  { dst := some 36, op := .extract 28 1 },
  { dst := some 10, op := .asg (.t 35) },
  { dst := some 11, op := .asg (.t 36) }]
def c9_r8 : List AI := [{ dst := some 38, op := .mv (.t 9) },
  { dst := some 39, op := .mv (.t 1) },
  { dst := some 40, op := .call 15 [(.t 38), (.t 39)] },
  { dst := some 37, op := .mv (.t 40) },
  { dst := some 41, op := .extract 37 0 },
  { dst := some 42, op := .extract 37 1 },
  { dst := some 12, op := .asg (.t 41) },
  { dst := some 13, op := .asg (.t 42) }]
def c9_r9 : List AI := [{ dst := some 43, op := .mv (.t 11) },
  { dst := some 44, op := .bin .neq (.t 43) (.c (.int .i64) 0) },
  { dst := some 45, op := .mv (.t 44) },
  { dst := some 46, op := .mv (.t 13), guard := some (45, false) },
  { dst := some 47, op := .bin .neq (.t 46) (.c (.int .i64) 0), guard := some (45, false) },
  { dst := some 48, op := .pick (.t 45) (.c .bool true) (.t 47) }]
def c9_r10 : List AI := [{ dst := some 6, op := .asg (.c .bool false) }]
def c9_r11 : List DI := [{ ai := { dst := some 49, op := .mv (.t 9) }, hide := [50, 51, 52, 53, 54, 55, 56, 57, 58], wr := [49], pre := [] },
  { ai := { dst := some 50, op := .mv (.t 9) }, hide := [7, 49, 51, 52, 53, 54, 55, 56, 57, 58, 59], wr := [50], pre := [] },
  { ai := { dst := some 51, op := .mv (.t 10) }, hide := [49, 50, 52, 55, 56], wr := [51], pre := [] },
  { ai := { dst := some 52, op := .mv (.t 2) }, hide := [49, 50, 51, 55, 56], wr := [52], pre := [] },
  { ai := { dst := some 53, op := .call 25 [(.t 51), (.t 52)] }, hide := [49, 50, 55, 56], wr := [53], pre := [2, 3] },
  { ai := { dst := some 54, op := .call 19 [(.t 53)] }, hide := [49, 50, 55, 56], wr := [54], pre := [2, 3, 4] },
  { ai := { dst := some 55, op := .mv (.t 12) }, hide := [49, 50, 51, 52, 53, 54, 56, 59], wr := [55], pre := [] },
  { ai := { dst := some 56, op := .mv (.t 2) }, hide := [49, 50, 51, 52, 53, 54, 55, 59], wr := [56], pre := [] },
  { ai := { dst := some 57, op := .call 25 [(.t 55), (.t 56)] }, hide := [49, 50, 59], wr := [57], pre := [2, 3, 4, 5, 6, 7] },
  { ai := { dst := some 58, op := .call 19 [(.t 57)] }, hide := [49, 50, 59], wr := [58], pre := [2, 3, 4, 5, 6, 7, 8] },
  { ai := { dst := some 59, op := .indexArr 4 (.int .i64) (.t 7) (.t 49) }, hide := [50, 55, 56, 57, 58], wr := [59], pre := [0, 2, 3, 4, 5] },
  { ai := { dst := none, op := .store (.int .i64) (.t 59) (.t 54) }, hide := [50], wr := [7, 59], pre := [0, 2, 3, 4, 5, 6, 7, 8, 9, 10] },
  { ai := { dst := some 60, op := .indexArr 4 (.int .i64) (.t 8) (.t 50) }, hide := [], wr := [60], pre := [0, 1, 2, 3, 4, 5, 6, 7, 8, 9, 10, 11] },
  { ai := { dst := none, op := .store (.int .i64) (.t 60) (.t 58) }, hide := [], wr := [8, 60], pre := [0, 1, 2, 3, 4, 5, 6, 7, 8, 9, 10, 11, 12] }]
def c9_r6 : List AI := [{ dst := some 26, op := .mv (.t 9) },
  { dst := some 27, op := .bin .add (.t 26) (.c (.int .i64) 1) },
  { dst := some 9, op := .asg (.t 27) }]
def c9_r12 : List AI := [{ dst := some 61, op := .indexArr 4 (.int .i64) (.t 7) (.c (.int .i64) 3) },
  { dst := some 62, op := .load (.int .i64) (.t 61) },
  { dst := some 63, op := .indexArr 4 (.int .i64) (.t 7) (.c (.int .i64) 1) },
  { dst := some 64, op := .load (.int .i64) (.t 63) },
  { dst := some 65, op := .indexArr 4 (.int .i64) (.t 7) (.c (.int .i64) 2) },
  { dst := some 66, op := .load (.int .i64) (.t 65) },
  { dst := some 67, op := .bin .or (.t 64) (.t 66) },
  { dst := some 68, op := .bin .eql (.t 62) (.t 67) },
  { dst := some 69, op := .mv (.t 68) },
  { dst := some 70, op := .indexArr 4 (.int .i64) (.t 8) (.c (.int .i64) 3), guard := some (69, true) },
  { dst := some 71, op := .load (.int .i64) (.t 70), guard := some (69, true) },
  { dst := some 72, op := .indexArr 4 (.int .i64) (.t 8) (.c (.int .i64) 1), guard := some (69, true) },
  { dst := some 73, op := .load (.int .i64) (.t 72), guard := some (69, true) },
  { dst := some 74, op := .indexArr 4 (.int .i64) (.t 8) (.c (.int .i64) 2), guard := some (69, true) },
  { dst := some 75, op := .load (.int .i64) (.t 74), guard := some (69, true) },
  { dst := some 76, op := .bin .or (.t 73) (.t 75), guard := some (69, true) },
  { dst := some 77, op := .bin .eql (.t 71) (.t 76), guard := some (69, true) },
  { dst := some 78, op := .pick (.t 69) (.t 77) (.c .bool false) },
  { dst := some 6, op := .asg (.t 78) }]
def c9 : AC := (.seq (.reg [0, 1, 2] c9_r0) (.seq (.seq (.reg [0, 1, 2] c9_r1) (.cond (.t 20) (.seq (.reg [] c9_r2) .ret) .skip)) (.seq (.reg [0, 1, 2] c9_r3) (.seq (.seq (.reg [0, 1, 2, 7, 8, 22, 23] c9_r4) (.block 0 (.loop [0, 1, 2, 7, 8, 9, 22, 23] (.seq (.seq (.reg [0, 1, 2, 7, 8, 9, 22, 23] c9_r5) (.cond (.t 25) .skip (.exit 0))) (.seq (.block 1 (.seq (.reg [0, 1, 2, 7, 8, 9, 22, 23] c9_r7) (.seq (.reg [0, 1, 2, 7, 8, 9, 10, 11, 22, 23, 35] c9_r8) (.seq (.seq (.reg [0, 1, 2, 7, 8, 9, 10, 11, 12, 13, 22, 23, 35, 41] c9_r9) (.cond (.t 48) (.seq (.reg [] c9_r10) .ret) .skip)) (.draw [0, 1, 2, 7, 8, 9, 10, 12, 22, 23, 35, 41] c9_r11))))) (.reg [0, 1, 2, 7, 8, 9, 22, 23] c9_r6)))))) (.seq (.reg [7, 8, 22, 23] c9_r12) .ret)))))
def d9 : FD := { nargs := 3, body := c9, res := [.t 6] }
-- anceps/ancepslaw16.WeightAllowed
def c10_r0 : List AI := [{ dst := some 6, op := .asg (.c .bool false) }]
def c10_r1 : List AI := [{ dst := some 9, op := .call 11 [] },
  { dst := some 10, op := .un .not (.t 9) },
  { dst := some 11, op := .mv (.t 10) },
  { dst := some 12, op := .mv (.t 0), guard := some (11, false) },
  { dst := some 13, op := .lenL (.t 12), guard := some (11, false) },
  { dst := some 14, op := .bin .gtr (.t 13) (.c (.int .i64) 40), guard := some (11, false) },
  { dst := some 15, op := .pick (.t 11) (.c .bool true) (.t 14) },
  { dst := some 16, op := .mv (.t 15) },
  { dst := some 17, op := .mv (.t 1), guard := some (16, false) },
  { dst := some 18, op := .lenL (.t 17), guard := some (16, false) },
  { dst := some 19, op := .bin .gtr (.t 18) (.c (.int .i64) 40), guard := some (16, false) },
  { dst := some 20, op := .pick (.t 16) (.c .bool true) (.t 19) }]
def c10_r2 : List AI := [{ dst := some 21, op := .call 11 [] },
  { dst := some 6, op := .asg (.t 21) }]
def c10_r3 : List AI := [{ dst := some 22, op := .mv (.t 0) },
  { dst := some 23, op := .call 27 [(.t 22)] },
  { dst := some 24, op := .mv (.t 1) },
  { dst := some 25, op := .call 28 [(.t 24)] },
  { dst := some 26, op := .call 25 [(.t 23), (.t 25)] },
  { dst := some 7, op := .asg (.t 26) }]
def c10_r4 : List AI := [{ dst := some 27, op := .mv (.t 0) },
  { dst := some 28, op := .mv (.t 1) },
  { dst := some 29, op := .call 28 [(.t 28)] },
  { dst := some 30, op := .mv (.t 2) },
  { dst := some 31, op := .buildSlice 3 (.int .i64) [(.t 30)] },
  { dst := some 32, op := .append 3 (.int .i64) 17592186044416 (.t 29) (.t 31) },
  { dst := some 33, op := .call 25 [(.t 27), (.t 32)] },
  { dst := some 8, op := .asg (.t 33) }]
def c10_r5 : List AI := [{ dst := some 34, op := .mv (.t 7) },
  { dst := some 35, op := .mv (.t 0) },
  { dst := some 36, op := .mv (.t 1) },
  { dst := some 37, op := .call 29 [(.t 35), (.t 36)] },
  { dst := some 38, op := .call 14 [(.t 34), (.t 37)] },
  { dst := some 39, op := .un .not (.t 38) },
  { dst := some 40, op := .mv (.t 39) },
  { dst := some 41, op := .mv (.t 7), guard := some (40, false) },
  { dst := some 42, op := .mv (.t 1), guard := some (40, false) },
  { dst := some 43, op := .call 25 [(.t 41), (.t 42)], guard := some (40, false) },
  { dst := some 44, op := .mv (.t 7), guard := some (40, false) },
  { dst := some 45, op := .call 14 [(.t 43), (.t 44)], guard := some (40, false) },
  { dst := some 46, op := .un .not (.t 45), guard := some (40, false) },
  { dst := some 47, op := .pick (.t 40) (.c .bool true) (.t 46) }]
def c10_r6 : List AI := [{ dst := some 6, op := .asg (.c .bool false) }]
def c10_r7 : List AI := [{ dst := some 48, op := .mv (.t 8) },
  { dst := some 49, op := .mv (.t 1) },
  { dst := some 50, op := .call 25 [(.t 48), (.t 49)] },
  { dst := some 51, op := .mv (.t 7) },
  { dst := some 52, op := .call 14 [(.t 50), (.t 51)] },
  { dst := some 53, op := .mv (.t 52) },
  { dst := some 54, op := .mv (.t 8), guard := some (53, true) },
  { dst := some 55, op := .lenL (.t 54), guard := some (53, true) },
  { dst := some 56, op := .mv (.t 7), guard := some (53, true) },
  { dst := some 57, op := .lenL (.t 56), guard := some (53, true) },
  { dst := some 58, op := .bin .geq (.t 55) (.t 57), guard := some (53, true) },
  { dst := some 59, op := .pick (.t 53) (.t 58) (.c .bool false) },
  { dst := some 6, op := .asg (.t 59) }]
def c10 : AC := (.seq (.reg [0, 1, 2] c10_r0) (.seq (.seq (.reg [0, 1, 2] c10_r1) (.cond (.t 20) (.seq (.reg [] c10_r2) .ret) .skip)) (.seq (.reg [0, 1, 2] c10_r3) (.seq (.reg [0, 1, 2, 7, 26] c10_r4) (.seq (.seq (.reg [0, 1, 7, 8, 26, 33] c10_r5) (.cond (.t 47) (.seq (.reg [] c10_r6) .ret) .skip)) (.seq (.reg [1, 7, 8, 26, 33] c10_r7) .ret))))))
def d10 : FD := { nargs := 3, body := c10, res := [.t 6] }
-- anceps/ancepslaw16.awake
def c11_r0 : List AI := [{ dst := some 0, op := .asg (.c .bool false) }]
def c11_r1 : List AI := [{ dst := some 8, op := .call 12 [(.c (.int .i64) 1), (.c (.int .i64) 2)] },
  { dst := some 7, op := .mv (.t 8) },
  { dst := some 9, op := .extract 7 0 },
  { dst := some 10, op := .extract 7 1 },
  { dst := some 1, op := .asg (.t 9) },
  { dst := some 2, op := .asg (.t 10) }]
def c11_r2 : List AI := [{ dst := some 12, op := .call 12 [(.c (.int .i64) 2), (.c (.int .i64) 1)] },
  { dst := some 11, op := .mv (.t 12) },
  { dst := some 13, op := .extract 11 0 },
  { dst := some 14, op := .extract 11 1 },
  { dst := some 3, op := .asg (.t 13) },
  { dst := some 4, op := .asg (.t 14) }]
def c11_r3 : List AI := [{ dst := some 16, op := .call 15 [(.c (.int .i64) 1), (.c .bool false)] },
  { dst := some 15, op := .mv (.t 16) },
  { dst := some 17, op := .extract 15 0 },
  { dst := some 18, op := .extract 15 1 },
  { dst := some 5, op := .asg (.t 17) },
  { dst := some 6, op := .asg (.t 18) }]
def c11_r4 : List AI := [{ dst := some 19, op := .mv (.t 2) },
  { dst := some 20, op := .bin .eql (.t 19) (.c (.int .i64) 0) },
  { dst := some 21, op := .mv (.t 20) },
  { dst := some 22, op := .mv (.t 4), guard := some (21, true) },
  { dst := some 23, op := .bin .eql (.t 22) (.c (.int .i64) 0), guard := some (21, true) },
  { dst := some 24, op := .pick (.t 21) (.t 23) (.c .bool false) },
  { dst := some 25, op := .mv (.t 24) },
  { dst := some 26, op := .mv (.t 6), guard := some (25, true) },
  { dst := some 27, op := .bin .eql (.t 26) (.c (.int .i64) 0), guard := some (25, true) },
  { dst := some 28, op := .pick (.t 25) (.t 27) (.c .bool false) },
  { dst := some 29, op := .mv (.t 28) },
  { dst := some 30, op := .mv (.t 1), guard := some (29, true) },
  { dst := some 31, op := .build (.pair (.int .i64) (.pair (.int .i64) (.pair (.int .i64) .unit))) [([.l], (.c (.int .i64) 1)), ([.r, .l], (.c (.int .i64) 1))], guard := some (29, true) },
  { dst := some 32, op := .build (.pair (.int .i64) (.pair (.int .i64) (.pair (.int .i64) .unit))) [([.l], (.c (.int .i64) 2)), ([.r, .l], (.c (.int .i64) 5)), ([.r, .r, .l], (.c (.int .i64) 1))], guard := some (29, true) },
  { dst := some 33, op := .buildSlice 33 (.pair (.int .i64) (.pair (.int .i64) (.pair (.int .i64) .unit))) [(.t 31), (.t 32)], guard := some (29, true) },
  { dst := some 34, op := .call 14 [(.t 30), (.t 33)], guard := some (29, true) },
  { dst := some 35, op := .pick (.t 29) (.t 34) (.c .bool false) },
  { dst := some 36, op := .mv (.t 35) },
  { dst := some 37, op := .mv (.t 3), guard := some (36, true) },
  { dst := some 38, op := .build (.pair (.int .i64) (.pair (.int .i64) (.pair (.int .i64) .unit))) [([.l], (.c (.int .i64) 2)), ([.r, .l], (.c (.int .i64) 2))], guard := some (36, true) },
  { dst := some 39, op := .build (.pair (.int .i64) (.pair (.int .i64) (.pair (.int .i64) .unit))) [([.l], (.c (.int .i64) 1)), ([.r, .l], (.c (.int .i64) 7)), ([.r, .r, .l], (.c (.int .i64) 6))], guard := some (36, true) },
  { dst := some 40, op := .buildSlice 33 (.pair (.int .i64) (.pair (.int .i64) (.pair (.int .i64) .unit))) [(.t 38), (.t 39)], guard := some (36, true) },
  { dst := some 41, op := .call 14 [(.t 37), (.t 40)], guard := some (36, true) },
  { dst := some 42, op := .pick (.t 36) (.t 41) (.c .bool false) },
  { dst := some 43, op := .mv (.t 42) },
  { dst := some 44, op := .mv (.t 5), guard := some (43, true) },
  { dst := some 45, op := .build (.pair (.int .i64) (.pair (.int .i64) (.pair (.int .i64) .unit))) [([.l], (.c (.int .i64) 1)), ([.r, .l], (.c (.int .i64) 1))], guard := some (43, true) },
  { dst := some 46, op := .build (.pair (.int .i64) (.pair (.int .i64) (.pair (.int .i64) .unit))) [([.l], (.c (.int .i64) 2)), ([.r, .l], (.c (.int .i64) 6)), ([.r, .r, .l], (.c (.int .i64) 3))], guard := some (43, true) },
  { dst := some 47, op := .buildSlice 33 (.pair (.int .i64) (.pair (.int .i64) (.pair (.int .i64) .unit))) [(.t 45), (.t 46)], guard := some (43, true) },
  { dst := some 48, op := .call 14 [(.t 44), (.t 47)], guard := some (43, true) },
  { dst := some 49, op := .pick (.t 43) (.t 48) (.c .bool false) },
  { dst := some 0, op := .asg (.t 49) }]
def c11 : AC := (.seq (.reg [] c11_r0) (.seq (.reg [] c11_r1) (.seq (.reg [1, 2, 9] c11_r2) (.seq (.reg [1, 2, 3, 4, 9, 13] c11_r3) (.seq (.reg [1, 2, 3, 4, 5, 6, 9, 13, 17] c11_r4) .ret)))))
def d11 : FD := { nargs := 0, body := c11, res := [.t 0] }
-- anceps/weight.Options
def c12_r0 : List AI := [{ dst := some 4, op := .asg (.nil 33 (.pair (.int .i64) (.pair (.int .i64) (.pair (.int .i64) .unit)))) },
  { dst := some 5, op := .asg (.c (.int .i64) 0) }]
def c12_r1 : List AI := [{ dst := some 8, op := .mv (.t 0) },
  { dst := some 9, op := .bin .lss (.t 8) (.c (.int .i64) 1) },
  { dst := some 10, op := .mv (.t 9) },
  { dst := some 11, op := .mv (.t 0), guard := some (10, false) },
  { dst := some 12, op := .bin .gtr (.t 11) (.c (.int .i64) 3), guard := some (10, false) },
  { dst := some 13, op := .pick (.t 10) (.c .bool true) (.t 12) }]
def c12_r2 : List AI := [{ dst := some 4, op := .asg (.nil 33 (.pair (.int .i64) (.pair (.int .i64) (.pair (.int .i64) .unit)))) },
  { dst := some 5, op := .asg (.c (.int .i64) 6) }]
def c12_r3 : List AI := [{ dst := some 6, op := .asg (.nil 33 (.pair (.int .i64) (.pair (.int .i64) (.pair (.int .i64) .unit)))) }]
def c12_r4 : List AI := [{ dst := some 14, op := .mv (.t 1) }]
def c12_r6 : List AI := [{ dst := some 16, op := .bin .eql (.t 14) (.c (.int .i64) 1) },
  { dst := some 15, op := .asg (.t 16) }]
def c12_r7 : List AI := [{ dst := some 17, op := .mv (.t 0) },
  { dst := some 18, op := .call 30 [(.t 17), (.c (.int .i64) 0)] },
  { dst := some 6, op := .asg (.t 18) }]
def c12_r8 : List AI := [{ dst := some 20, op := .bin .eql (.t 14) (.c (.int .i64) 2) },
  { dst := some 19, op := .asg (.t 20) }]
def c12_r9 : List AI := [{ dst := some 21, op := .mv (.t 0) },
  { dst := some 22, op := .call 30 [(.t 21), (.c (.int .i64) 1)] },
  { dst := some 6, op := .asg (.t 22) }]
def c12_r10 : List AI := [{ dst := some 24, op := .bin .eql (.t 14) (.c (.int .i64) 3) },
  { dst := some 23, op := .asg (.t 24) }]
def c12_r11 : List AI := [{ dst := some 25, op := .mv (.t 0) },
  { dst := some 26, op := .call 30 [(.t 25), (.c (.int .i64) 2)] },
  { dst := some 6, op := .asg (.t 26) }]
def c12_r12 : List AI := [{ dst := some 28, op := .bin .eql (.t 14) (.c (.int .i64) 4) },
  { dst := some 27, op := .asg (.t 28) }]
def c12_r13 : List AI := [{ dst := some 29, op := .call 31 [(.c (.int .i64) 4), (.c (.int .i64) 0)] },
  { dst := some 30, op := .buildSlice 33 (.pair (.int .i64) (.pair (.int .i64) (.pair (.int .i64) .unit))) [(.t 29)] },
  { dst := some 6, op := .asg (.t 30) }]
def c12_r5 : List AI := [{ dst := some 4, op := .asg (.nil 33 (.pair (.int .i64) (.pair (.int .i64) (.pair (.int .i64) .unit)))) },
  { dst := some 5, op := .asg (.c (.int .i64) 6) }]
def c12_r14 : List AI := [{ dst := some 31, op := .mv (.t 6) },
  { dst := some 32, op := .call 19 [(.t 31)] },
  { dst := some 7, op := .asg (.t 32) }]
def c12_r15 : List AI := [{ dst := some 33, op := .mv (.t 7) },
  { dst := some 34, op := .bin .and (.t 33) (.c (.int .i64) 2) },
  { dst := some 35, op := .bin .eql (.t 34) (.c (.int .i64) 0) }]
def c12_r16 : List AI := [{ dst := some 36, op := .mv (.t 6) },
  { dst := some 37, op := .call 31 [(.c (.int .i64) 7), (.c (.int .i64) 5)] },
  { dst := some 38, op := .buildSlice 33 (.pair (.int .i64) (.pair (.int .i64) (.pair (.int .i64) .unit))) [(.t 37)] },
  { dst := some 39, op := .append 33 (.pair (.int .i64) (.pair (.int .i64) (.pair (.int .i64) .unit))) 5864062014805 (.t 36) (.t 38) },
  { dst := some 6, op := .asg (.t 39) }]
def c12_r17 : List AI := [{ dst := some 40, op := .mv (.t 7) },
  { dst := some 41, op := .bin .and (.t 40) (.c (.int .i64) 1) },
  { dst := some 42, op := .bin .eql (.t 41) (.c (.int .i64) 0) },
  { dst := some 43, op := .mv (.t 42) },
  { dst := some 44, op := .mv (.t 1), guard := some (43, true) },
  { dst := some 45, op := .bin .eql (.t 44) (.c (.int .i64) 1), guard := some (43, true) },
  { dst := some 46, op := .pick (.t 43) (.t 45) (.c .bool false) }]
def c12_r18 : List AI := [{ dst := some 47, op := .mv (.t 6) },
  { dst := some 48, op := .call 32 [(.c (.int .i64) 7), (.c (.int .i64) 6)] },
  { dst := some 49, op := .buildSlice 33 (.pair (.int .i64) (.pair (.int .i64) (.pair (.int .i64) .unit))) [(.t 48)] },
  { dst := some 50, op := .append 33 (.pair (.int .i64) (.pair (.int .i64) (.pair (.int .i64) .unit))) 5864062014805 (.t 47) (.t 49) },
  { dst := some 6, op := .asg (.t 50) }]
def c12_r19 : List AI := [{ dst := some 51, op := .mv (.t 6) },
  { dst := some 4, op := .asg (.t 51) },
  { dst := some 5, op := .asg (.c (.int .i64) 0) }]
def c12 : AC := (.seq (.reg [0, 1] c12_r0) (.seq (.seq (.reg [0, 1] c12_r1) (.cond (.t 13) (.seq (.reg [] c12_r2) .ret) .skip)) (.seq (.reg [0, 1] c12_r3) (.seq (.seq (.reg [0, 1] c12_r4) (.block 0 (.seq (.reg [0, 1, 14] c12_r6) (.cond (.t 15) (.reg [0, 1] c12_r7) (.seq (.reg [0, 1, 14] c12_r8) (.cond (.t 19) (.reg [0, 1] c12_r9) (.seq (.reg [0, 1, 14] c12_r10) (.cond (.t 23) (.reg [0, 1] c12_r11) (.seq (.reg [1, 14] c12_r12) (.cond (.t 27) (.reg [1] c12_r13) (.seq (.reg [] c12_r5) .ret))))))))))) (.seq (.reg [1, 6, 18, 22, 26, 30, 39, 50] c12_r14) (.seq (.seq (.reg [1, 6, 7, 18, 22, 26, 30, 39, 50] c12_r15) (.cond (.t 35) (.reg [1, 6, 7, 18, 22, 26, 30, 39, 50] c12_r16) .skip)) (.seq (.seq (.reg [1, 6, 7, 18, 22, 26, 30, 39, 50] c12_r17) (.cond (.t 46) (.reg [6, 18, 22, 26, 30, 39, 50] c12_r18) .skip)) (.seq (.reg [6, 18, 22, 26, 30, 39, 50] c12_r19) .ret))))))))
def d12 : FD := { nargs := 2, body := c12, res := [.t 4, .t 5] }
-- anceps/ancepsref16.Same
def c14_r0 : List AI := [{ dst := some 4, op := .asg (.c .bool false) }]
def c14_r1 : List AI := [{ dst := some 6, op := .mv (.t 0) },
  { dst := some 7, op := .lenL (.t 6) },
  { dst := some 8, op := .mv (.t 1) },
  { dst := some 9, op := .lenL (.t 8) },
  { dst := some 10, op := .bin .neq (.t 7) (.t 9) }]
def c14_r2 : List AI := [{ dst := some 4, op := .asg (.c .bool false) }]
def c14_r3 : List AI := [{ dst := some 5, op := .asg (.c (.int .i64) 0) }]
def c14_r4 : List AI := [{ dst := some 11, op := .mv (.t 5) },
  { dst := some 12, op := .mv (.t 0) },
  { dst := some 13, op := .lenL (.t 12) },
  { dst := some 14, op := .bin .lss (.t 11) (.t 13) }]
def c14_r6 : List DI := [{ ai := { dst := some 17, op := .mv (.t 0) }, hide := [18, 21, 22, 23, 24], wr := [17], pre := [] },
  { ai := { dst := some 18, op := .mv (.t 5) }, hide := [17, 21, 22, 23, 24], wr := [18], pre := [] },
  { ai := { dst := some 19, op := .indexAddr (.pair (.int .i64) (.pair (.int .i64) (.pair (.int .i64) .unit))) (.t 17) (.t 18) }, hide := [21, 22, 23, 24], wr := [19], pre := [0, 1] },
  { ai := { dst := some 20, op := .load (.pair (.int .i64) (.pair (.int .i64) (.pair (.int .i64) .unit))) (.t 19) }, hide := [21, 22, 23, 24], wr := [20], pre := [0, 1, 2] },
  { ai := { dst := some 21, op := .mv (.t 1) }, hide := [17, 18, 19, 20, 22], wr := [21], pre := [] },
  { ai := { dst := some 22, op := .mv (.t 5) }, hide := [17, 18, 19, 20, 21], wr := [22], pre := [] },
  { ai := { dst := some 23, op := .indexAddr (.pair (.int .i64) (.pair (.int .i64) (.pair (.int .i64) .unit))) (.t 21) (.t 22) }, hide := [17, 18, 19, 20], wr := [23], pre := [4, 5] },
  { ai := { dst := some 24, op := .load (.pair (.int .i64) (.pair (.int .i64) (.pair (.int .i64) .unit))) (.t 23) }, hide := [17, 18, 19, 20], wr := [24], pre := [4, 5, 6] },
  { ai := { dst := some 25, op := .eqT true (.pair (.int .i64) (.pair (.int .i64) (.pair (.int .i64) .unit))) (.t 20) (.t 24) }, hide := [], wr := [25], pre := [0, 1, 2, 3, 4, 5, 6, 7] }]
def c14_r7 : List AI := [{ dst := some 4, op := .asg (.c .bool false) }]
def c14_r5 : List AI := [{ dst := some 15, op := .mv (.t 5) },
  { dst := some 16, op := .bin .add (.t 15) (.c (.int .i64) 1) },
  { dst := some 5, op := .asg (.t 16) }]
def c14_r8 : List AI := [{ dst := some 4, op := .asg (.c .bool true) }]
def c14 : AC := (.seq (.reg [0, 1] c14_r0) (.seq (.seq (.reg [0, 1] c14_r1) (.cond (.t 10) (.seq (.reg [] c14_r2) .ret) .skip)) (.seq (.seq (.reg [0, 1] c14_r3) (.block 0 (.loop [0, 1, 5] (.seq (.seq (.reg [0, 1, 5] c14_r4) (.cond (.t 14) .skip (.exit 0))) (.seq (.block 1 (.seq (.draw [0, 1, 5] c14_r6) (.cond (.t 25) (.seq (.reg [] c14_r7) .ret) .skip))) (.reg [0, 1, 5] c14_r5)))))) (.seq (.reg [] c14_r8) .ret))))
def d14 : FD := { nargs := 2, body := c14, res := [.t 4] }
-- anceps/weight.Final
def c15_r0 : List AI := [{ dst := some 4, op := .asg (.nil 33 (.pair (.int .i64) (.pair (.int .i64) (.pair (.int .i64) .unit)))) },
  { dst := some 5, op := .asg (.c (.int .i64) 0) }]
def c15_r1 : List AI := [{ dst := some 7, op := .mv (.t 0) },
  { dst := some 8, op := .bin .lss (.t 7) (.c (.int .i64) 1) },
  { dst := some 9, op := .mv (.t 8) },
  { dst := some 10, op := .mv (.t 0), guard := some (9, false) },
  { dst := some 11, op := .bin .gtr (.t 10) (.c (.int .i64) 3), guard := some (9, false) },
  { dst := some 12, op := .pick (.t 9) (.c .bool true) (.t 11) },
  { dst := some 6, op := .asg (.t 12) }]
def c15_r2 : List AI := [{ dst := some 4, op := .asg (.nil 33 (.pair (.int .i64) (.pair (.int .i64) (.pair (.int .i64) .unit)))) },
  { dst := some 5, op := .asg (.c (.int .i64) 6) }]
def c15_r3 : List AI := [{ dst := some 14, op := .mv (.t 1) },
  { dst := some 13, op := .asg (.t 14) }]
def c15_r4 : List AI := [{ dst := some 15, op := .call 32 [(.c (.int .i64) 6), (.c (.int .i64) 0)] },
  { dst := some 16, op := .call 31 [(.c (.int .i64) 6), (.c (.int .i64) 0)] },
  { dst := some 17, op := .buildSlice 33 (.pair (.int .i64) (.pair (.int .i64) (.pair (.int .i64) .unit))) [(.t 15), (.t 16)] },
  { dst := some 4, op := .asg (.t 17) },
  { dst := some 5, op := .asg (.c (.int .i64) 0) }]
def c15_r5 : List AI := [{ dst := some 19, op := .mv (.t 0) },
  { dst := some 20, op := .bin .eql (.t 19) (.c (.int .i64) 1) },
  { dst := some 18, op := .asg (.t 20) }]
def c15_r6 : List AI := [{ dst := some 21, op := .call 32 [(.c (.int .i64) 1), (.c (.int .i64) 0)] },
  { dst := some 22, op := .call 31 [(.c (.int .i64) 6), (.c (.int .i64) 3)] },
  { dst := some 23, op := .buildSlice 33 (.pair (.int .i64) (.pair (.int .i64) (.pair (.int .i64) .unit))) [(.t 21), (.t 22)] },
  { dst := some 4, op := .asg (.t 23) },
  { dst := some 5, op := .asg (.c (.int .i64) 0) }]
def c15_r7 : List AI := [{ dst := some 25, op := .mv (.t 0) },
  { dst := some 26, op := .bin .eql (.t 25) (.c (.int .i64) 2) },
  { dst := some 24, op := .asg (.t 26) }]
def c15_r8 : List AI := [{ dst := some 27, op := .call 31 [(.c (.int .i64) 2), (.c (.int .i64) 0)] },
  { dst := some 28, op := .call 32 [(.c (.int .i64) 6), (.c (.int .i64) 4)] },
  { dst := some 29, op := .buildSlice 33 (.pair (.int .i64) (.pair (.int .i64) (.pair (.int .i64) .unit))) [(.t 27), (.t 28)] },
  { dst := some 4, op := .asg (.t 29) },
  { dst := some 5, op := .asg (.c (.int .i64) 0) }]
def c15_r9 : List AI := [{ dst := some 30, op := .mv (.t 0) },
  { dst := some 31, op := .call 30 [(.t 30), (.c (.int .i64) 0)] },
  { dst := some 4, op := .asg (.t 31) },
  { dst := some 5, op := .asg (.c (.int .i64) 0) }]
def c15 : AC := (.seq (.reg [0, 1] c15_r0) (.seq (.block 0 (.seq (.reg [0, 1] c15_r1) (.cond (.t 6) (.seq (.reg [] c15_r2) .ret) (.seq (.reg [0, 1] c15_r3) (.cond (.t 13) (.seq (.reg [] c15_r4) .ret) (.seq (.reg [0] c15_r5) (.cond (.t 18) (.seq (.reg [] c15_r6) .ret) (.seq (.reg [0] c15_r7) (.cond (.t 24) (.seq (.reg [] c15_r8) .ret) .skip))))))))) (.seq (.reg [0] c15_r9) .ret)))
def d15 : FD := { nargs := 2, body := c15, res := [.t 4, .t 5] }
-- anceps/weight.Pick
def c17_r0 : List AI := [{ dst := some 3, op := .box (.int .i64) (.t 1) },
  { dst := some 4, op := .asg (.c (.int .i64) 0) },
  { dst := some 5, op := .asg (.c .bool false) }]
def c17_r1 : List AI := [{ dst := some 7, op := .mv (.t 0) },
  { dst := some 8, op := .mkfn 36 (.pair (.pair (.int .i64) (.pair (.int .i64) (.pair (.int .i64) .unit))) .unit) .bool [(.t 3)] },
  { dst := some 9, op := .call 35 [(.t 7), (.t 8)] },
  { dst := some 6, op := .asg (.t 9) }]
def c17_r2 : List AI := [{ dst := some 10, op := .mv (.t 6) },
  { dst := some 11, op := .mm true (.t 10) (.c (.int .i64) 0) },
  { dst := some 12, op := .mv (.t 6) },
  { dst := some 13, op := .bin .geq (.t 12) (.c (.int .i64) 0) },
  { dst := some 4, op := .asg (.t 11) },
  { dst := some 5, op := .asg (.t 13) }]
def c17 : AC := (.seq (.reg [0, 1] c17_r0) (.seq (.reg [0, 3] c17_r1) (.seq (.reg [6] c17_r2) .ret)))
def d17 : FD := { nargs := 2, body := c17, res := [.t 4, .t 5] }
-- anceps/ancepsref16.Pick
def c18_r0 : List AI := [{ dst := some 4, op := .asg (.c (.int .i64) 0) },
  { dst := some 5, op := .asg (.c .bool false) }]
def c18_r1 : List AI := [{ dst := some 6, op := .asg (.c (.int .i64) 0) }]
def c18_r2 : List AI := [{ dst := some 7, op := .mv (.t 6) },
  { dst := some 8, op := .mv (.t 0) },
  { dst := some 9, op := .lenL (.t 8) },
  { dst := some 10, op := .bin .lss (.t 7) (.t 9) }]
def c18_r4 : List AI := [{ dst := some 13, op := .mv (.t 0) },
  { dst := some 14, op := .mv (.t 6) },
  { dst := some 15, op := .indexAddr (.pair (.int .i64) (.pair (.int .i64) (.pair (.int .i64) .unit))) (.t 13) (.t 14) },
  { dst := some 16, op := .fieldAddr (.pair (.int .i64) (.pair (.int .i64) (.pair (.int .i64) .unit))) [.l] (.t 15) },
  { dst := some 17, op := .load (.int .i64) (.t 16) },
  { dst := some 18, op := .mv (.t 1) },
  { dst := some 19, op := .bin .eql (.t 17) (.t 18) }]
def c18_r5 : List AI := [{ dst := some 20, op := .mv (.t 6) },
  { dst := some 4, op := .asg (.t 20) },
  { dst := some 5, op := .asg (.c .bool true) }]
def c18_r3 : List AI := [{ dst := some 11, op := .mv (.t 6) },
  { dst := some 12, op := .bin .add (.t 11) (.c (.int .i64) 1) },
  { dst := some 6, op := .asg (.t 12) }]
def c18_r6 : List AI := [{ dst := some 4, op := .asg (.c (.int .i64) 0) },
  { dst := some 5, op := .asg (.c .bool false) }]
def c18 : AC := (.seq (.reg [0, 1] c18_r0) (.seq (.seq (.reg [0, 1] c18_r1) (.block 0 (.loop [0, 1, 6] (.seq (.seq (.reg [0, 1, 6] c18_r2) (.cond (.t 10) .skip (.exit 0))) (.seq (.block 1 (.seq (.reg [0, 1, 6] c18_r4) (.cond (.t 19) (.seq (.reg [6] c18_r5) .ret) .skip))) (.reg [0, 1, 6] c18_r3)))))) (.seq (.reg [] c18_r6) .ret)))
def d18 : FD := { nargs := 2, body := c18, res := [.t 4, .t 5] }
-- anceps/weight.Weights
def c19_r0 : List AI := [{ dst := some 2, op := .asg (.c (.int .i64) 0) }]
def c19_r1 : List AI := [{ dst := some 3, op := .asg (.c (.int .i64) 0) }]
def c19_r2 : List AI := [{ dst := some 6, op := .mv (.t 0) },
  { dst := some 7, op := .lenL (.t 6) },
  { dst := some 8, op := .mv (.c (.int .i64) 0) }]
def c19_r3 : List AI := [{ dst := some 9, op := .bin .lss (.t 8) (.t 7) }]
def c19_r4 : List AI := [{ dst := some 10, op := .indexAddr (.pair (.int .i64) (.pair (.int .i64) (.pair (.int .i64) .unit))) (.t 6) (.t 8) },
  { dst := some 11, op := .load (.pair (.int .i64) (.pair (.int .i64) (.pair (.int .i64) .unit))) (.t 10) },
  { dst := some 5, op := .alloc (.pair (.int .i64) (.pair (.int .i64) (.pair (.int .i64) .unit))) .no },
  { dst := none, op := .store (.pair (.int .i64) (.pair (.int .i64) (.pair (.int .i64) .unit))) (.t 5) (.t 11) }]
def c19_r5 : List AI := [{ dst := some 12, op := .fieldAddr (.pair (.int .i64) (.pair (.int .i64) (.pair (.int .i64) .unit))) [.l] (.t 5) },
  { dst := some 13, op := .load (.int .i64) (.t 12) },
  { dst := some 14, op := .bin .eql (.t 13) (.c (.int .i64) 1) },
  { dst := some 15, op := .mv (.t 14) },
  { dst := some 16, op := .fieldAddr (.pair (.int .i64) (.pair (.int .i64) (.pair (.int .i64) .unit))) [.l] (.t 5), guard := some (15, false) },
  { dst := some 17, op := .load (.int .i64) (.t 16), guard := some (15, false) },
  { dst := some 18, op := .bin .eql (.t 17) (.c (.int .i64) 2), guard := some (15, false) },
  { dst := some 19, op := .pick (.t 15) (.c .bool true) (.t 18) }]
def c19_r6 : List AI := [{ dst := some 20, op := .mv (.t 3) },
  { dst := some 21, op := .fieldAddr (.pair (.int .i64) (.pair (.int .i64) (.pair (.int .i64) .unit))) [.l] (.t 5) },
  { dst := some 22, op := .load (.int .i64) (.t 21) },
  { dst := some 23, op := .bin .or (.t 20) (.t 22) },
  { dst := some 3, op := .asg (.t 23) }]
def c19_r7 : List AI := [{ dst := some 24, op := .bin .add (.t 8) (.c (.int .i64) 1) },
  { dst := some 8, op := .mv (.t 24) }]
def c19_r8 : List AI := [{ dst := some 25, op := .mv (.t 3) },
  { dst := some 2, op := .asg (.t 25) }]
def c19 : AC := (.seq (.reg [0] c19_r0) (.seq (.reg [0] c19_r1) (.seq (.seq (.reg [0, 3] c19_r2) (.block 0 (.loop [0, 3, 6, 7, 8] (.seq (.reg [0, 3, 6, 7, 8] c19_r3) (.seq (.cond (.t 9) .skip (.exit 0)) (.seq (.block 1 (.seq (.reg [0, 3, 6, 7, 8] c19_r4) (.seq (.reg [0, 3, 5, 6, 7, 8, 10, 11] c19_r5) (.cond (.t 19) (.reg [0, 3, 5, 6, 7, 8, 10, 11] c19_r6) .skip)))) (.reg [0, 3, 6, 7, 8] c19_r7))))))) (.seq (.reg [3] c19_r8) .ret))))
def d19 : FD := { nargs := 1, body := c19, res := [.t 2] }
-- anceps/ancepsref16.Weights
def c20_r0 : List AI := [{ dst := some 2, op := .asg (.c (.int .i64) 0) }]
def c20_r1 : List AI := [{ dst := some 3, op := .asg (.c (.int .i64) 0) },
  { dst := some 4, op := .asg (.c (.int .i64) 0) }]
def c20_r2 : List AI := [{ dst := some 5, op := .asg (.c (.int .i64) 0) }]
def c20_r3 : List AI := [{ dst := some 6, op := .mv (.t 5) },
  { dst := some 7, op := .mv (.t 0) },
  { dst := some 8, op := .lenL (.t 7) },
  { dst := some 9, op := .bin .lss (.t 6) (.t 8) }]
def c20_r5 : List AI := [{ dst := some 12, op := .mv (.t 0) },
  { dst := some 13, op := .mv (.t 5) },
  { dst := some 14, op := .indexAddr (.pair (.int .i64) (.pair (.int .i64) (.pair (.int .i64) .unit))) (.t 12) (.t 13) },
  { dst := some 15, op := .fieldAddr (.pair (.int .i64) (.pair (.int .i64) (.pair (.int .i64) .unit))) [.l] (.t 14) },
  { dst := some 16, op := .load (.int .i64) (.t 15) },
  { dst := some 17, op := .bin .eql (.t 16) (.c (.int .i64) 1) }]
def c20_r6 : List AI := [{ dst := some 3, op := .asg (.c (.int .i64) 1) }]
def c20_r7 : List AI := [{ dst := some 18, op := .mv (.t 0) },
  { dst := some 19, op := .mv (.t 5) },
  { dst := some 20, op := .indexAddr (.pair (.int .i64) (.pair (.int .i64) (.pair (.int .i64) .unit))) (.t 18) (.t 19) },
  { dst := some 21, op := .fieldAddr (.pair (.int .i64) (.pair (.int .i64) (.pair (.int .i64) .unit))) [.l] (.t 20) },
  { dst := some 22, op := .load (.int .i64) (.t 21) },
  { dst := some 23, op := .bin .eql (.t 22) (.c (.int .i64) 2) }]
def c20_r8 : List AI := [{ dst := some 4, op := .asg (.c (.int .i64) 2) }]
def c20_r4 : List AI := [{ dst := some 10, op := .mv (.t 5) },
  { dst := some 11, op := .bin .add (.t 10) (.c (.int .i64) 1) },
  { dst := some 5, op := .asg (.t 11) }]
def c20_r9 : List AI := [{ dst := some 24, op := .mv (.t 3) },
  { dst := some 25, op := .mv (.t 4) },
  { dst := some 26, op := .bin .add (.t 24) (.t 25) },
  { dst := some 2, op := .asg (.t 26) }]
def c20 : AC := (.seq (.reg [0] c20_r0) (.seq (.reg [0] c20_r1) (.seq (.seq (.reg [0, 3, 4] c20_r2) (.block 0 (.loop [0, 3, 4, 5] (.seq (.seq (.reg [0, 3, 4, 5] c20_r3) (.cond (.t 9) .skip (.exit 0))) (.seq (.block 1 (.seq (.seq (.reg [0, 3, 4, 5] c20_r5) (.cond (.t 17) (.reg [0, 4, 5] c20_r6) .skip)) (.seq (.reg [0, 3, 4, 5] c20_r7) (.cond (.t 23) (.reg [0, 3, 5] c20_r8) .skip)))) (.reg [0, 3, 4, 5] c20_r4)))))) (.seq (.reg [3, 4] c20_r9) .ret))))
def d20 : FD := { nargs := 1, body := c20, res := [.t 2] }
-- anceps/weight.Allowed
def c25_r0 : List AI := [{ dst := some 4, op := .asg (.nil 33 (.pair (.int .i64) (.pair (.int .i64) (.pair (.int .i64) .unit)))) }]
def c25_r1 : List AI := [{ dst := some 5, op := .asg (.nil 33 (.pair (.int .i64) (.pair (.int .i64) (.pair (.int .i64) .unit)))) }]
def c25_r2 : List AI := [{ dst := some 8, op := .mv (.t 0) },
  { dst := some 9, op := .lenL (.t 8) },
  { dst := some 10, op := .mv (.c (.int .i64) 0) }]
def c25_r3 : List AI := [{ dst := some 11, op := .bin .lss (.t 10) (.t 9) }]
def c25_r4 : List AI := [{ dst := some 12, op := .indexAddr (.pair (.int .i64) (.pair (.int .i64) (.pair (.int .i64) .unit))) (.t 8) (.t 10) },
  { dst := some 13, op := .load (.pair (.int .i64) (.pair (.int .i64) (.pair (.int .i64) .unit))) (.t 12) },
  { dst := some 7, op := .alloc (.pair (.int .i64) (.pair (.int .i64) (.pair (.int .i64) .unit))) .no },
  { dst := none, op := .store (.pair (.int .i64) (.pair (.int .i64) (.pair (.int .i64) .unit))) (.t 7) (.t 13) }]
def c25_r5 : List AI := [{ dst := some 14, op := .fieldAddr (.pair (.int .i64) (.pair (.int .i64) (.pair (.int .i64) .unit))) [.r, .r, .l] (.t 7) },
  { dst := some 15, op := .load (.int .i64) (.t 14) },
  { dst := some 16, op := .bin .eql (.t 15) (.c (.int .i64) 0) },
  { dst := some 17, op := .mv (.t 16) },
  { dst := some 18, op := .mv (.t 1), guard := some (17, false) },
  { dst := some 19, op := .fieldAddr (.pair (.int .i64) (.pair (.int .i64) (.pair (.int .i64) .unit))) [.r, .r, .l] (.t 7), guard := some (17, false) },
  { dst := some 20, op := .load (.int .i64) (.t 19), guard := some (17, false) },
  { dst := some 21, op := .call 40 [(.t 18), (.t 20)], guard := some (17, false) },
  { dst := some 22, op := .pick (.t 17) (.c .bool true) (.t 21) }]
def c25_r6 : List AI := [{ dst := some 23, op := .mv (.t 5) },
  { dst := some 24, op := .load (.pair (.int .i64) (.pair (.int .i64) (.pair (.int .i64) .unit))) (.t 7) },
  { dst := some 25, op := .buildSlice 33 (.pair (.int .i64) (.pair (.int .i64) (.pair (.int .i64) .unit))) [(.t 24)] },
  { dst := some 26, op := .append 33 (.pair (.int .i64) (.pair (.int .i64) (.pair (.int .i64) .unit))) 5864062014805 (.t 23) (.t 25) },
  { dst := some 5, op := .asg (.t 26) }]
def c25_r7 : List AI := [{ dst := some 27, op := .bin .add (.t 10) (.c (.int .i64) 1) },
  { dst := some 10, op := .mv (.t 27) }]
def c25_r8 : List AI := [{ dst := some 28, op := .mv (.t 5) },
  { dst := some 4, op := .asg (.t 28) }]
def c25 : AC := (.seq (.reg [0, 1] c25_r0) (.seq (.reg [0, 1] c25_r1) (.seq (.seq (.reg [0, 1, 5, 26] c25_r2) (.block 0 (.loop [0, 1, 5, 8, 9, 10, 26] (.seq (.reg [0, 1, 5, 8, 9, 10, 26] c25_r3) (.seq (.cond (.t 11) .skip (.exit 0)) (.seq (.block 1 (.seq (.reg [0, 1, 5, 8, 9, 10, 26] c25_r4) (.seq (.reg [0, 1, 5, 7, 8, 9, 10, 12, 13, 26] c25_r5) (.cond (.t 22) (.reg [0, 1, 5, 7, 8, 9, 10, 12, 13, 26] c25_r6) .skip)))) (.reg [0, 1, 5, 8, 9, 10, 26] c25_r7))))))) (.seq (.reg [5, 26] c25_r8) .ret))))
def d25 : FD := { nargs := 2, body := c25, res := [.t 4] }
-- anceps/ancepslaw16.every
def c26_r0 : List AI := [{ dst := some 0, op := .asg (.nil 3 (.int .i64)) }]
def c26_r1 : List AI := [{ dst := some 1, op := .asg (.nil 3 (.int .i64)) }]
def c26_r2 : List AI := [{ dst := some 3, op := .mv (.c (.int .i64) 0) }]
def c26_r3 : List AI := [{ dst := some 4, op := .bin .lss (.t 3) (.c (.int .i64) 12) }]
def c26_r4 : List AI := [{ dst := some 5, op := .mv (.t 3) },
  { dst := some 2, op := .asg (.t 5) }]
def c26_r5 : List AI := [{ dst := some 6, op := .mv (.t 1) },
  { dst := some 7, op := .mv (.t 2) },
  { dst := some 8, op := .bin .add (.t 7) (.c (.int .i64) 1) },
  { dst := some 9, op := .buildSlice 3 (.int .i64) [(.t 8)] },
  { dst := some 10, op := .append 3 (.int .i64) 17592186044416 (.t 6) (.t 9) },
  { dst := some 1, op := .asg (.t 10) }]
def c26_r6 : List AI := [{ dst := some 11, op := .bin .add (.t 3) (.c (.int .i64) 1) },
  { dst := some 3, op := .mv (.t 11) }]
def c26_r7 : List AI := [{ dst := some 12, op := .mv (.t 1) },
  { dst := some 0, op := .asg (.t 12) }]
def c26 : AC := (.seq (.reg [] c26_r0) (.seq (.reg [] c26_r1) (.seq (.seq (.reg [1, 10] c26_r2) (.block 0 (.loop [1, 3, 10] (.seq (.reg [1, 3, 10] c26_r3) (.seq (.cond (.t 4) .skip (.exit 0)) (.seq (.block 1 (.seq (.reg [1, 3, 10] c26_r4) (.reg [1, 2, 3, 10] c26_r5))) (.reg [1, 3, 10] c26_r6))))))) (.seq (.reg [1, 10] c26_r7) .ret))))
def d26 : FD := { nargs := 0, body := c26, res := [.t 0] }
-- anceps/ancepsref16.Allowed
def c29_r0 : List AI := [{ dst := some 4, op := .asg (.nil 33 (.pair (.int .i64) (.pair (.int .i64) (.pair (.int .i64) .unit)))) }]
def c29_r1 : List AI := [{ dst := some 5, op := .asg (.nil 33 (.pair (.int .i64) (.pair (.int .i64) (.pair (.int .i64) .unit)))) }]
def c29_r2 : List AI := [{ dst := some 6, op := .asg (.c (.int .i64) 0) }]
def c29_r3 : List AI := [{ dst := some 7, op := .mv (.t 6) },
  { dst := some 8, op := .mv (.t 0) },
  { dst := some 9, op := .lenL (.t 8) },
  { dst := some 10, op := .bin .lss (.t 7) (.t 9) }]
def c29_r5 : List AI := [{ dst := some 13, op := .mv (.t 0) },
  { dst := some 14, op := .mv (.t 6) },
  { dst := some 15, op := .indexAddr (.pair (.int .i64) (.pair (.int .i64) (.pair (.int .i64) .unit))) (.t 13) (.t 14) },
  { dst := some 16, op := .fieldAddr (.pair (.int .i64) (.pair (.int .i64) (.pair (.int .i64) .unit))) [.r, .r, .l] (.t 15) },
  { dst := some 17, op := .load (.int .i64) (.t 16) },
  { dst := some 18, op := .bin .eql (.t 17) (.c (.int .i64) 0) },
  { dst := some 19, op := .mv (.t 18) },
  { dst := some 20, op := .mv (.t 1), guard := some (19, false) },
  { dst := some 21, op := .mv (.t 0), guard := some (19, false) },
  { dst := some 22, op := .mv (.t 6), guard := some (19, false) },
  { dst := some 23, op := .indexAddr (.pair (.int .i64) (.pair (.int .i64) (.pair (.int .i64) .unit))) (.t 21) (.t 22), guard := some (19, false) },
  { dst := some 24, op := .fieldAddr (.pair (.int .i64) (.pair (.int .i64) (.pair (.int .i64) .unit))) [.r, .r, .l] (.t 23), guard := some (19, false) },
  { dst := some 25, op := .load (.int .i64) (.t 24), guard := some (19, false) },
  { dst := some 26, op := .call 41 [(.t 20), (.t 25)], guard := some (19, false) },
  { dst := some 27, op := .pick (.t 19) (.c .bool true) (.t 26) }]
def c29_r6 : List AI := [{ dst := some 28, op := .mv (.t 5) },
  { dst := some 29, op := .mv (.t 0) },
  { dst := some 30, op := .mv (.t 6) },
  { dst := some 31, op := .indexAddr (.pair (.int .i64) (.pair (.int .i64) (.pair (.int .i64) .unit))) (.t 29) (.t 30) },
  { dst := some 32, op := .load (.pair (.int .i64) (.pair (.int .i64) (.pair (.int .i64) .unit))) (.t 31) },
  { dst := some 33, op := .buildSlice 33 (.pair (.int .i64) (.pair (.int .i64) (.pair (.int .i64) .unit))) [(.t 32)] },
  { dst := some 34, op := .append 33 (.pair (.int .i64) (.pair (.int .i64) (.pair (.int .i64) .unit))) 5864062014805 (.t 28) (.t 33) },
  { dst := some 5, op := .asg (.t 34) }]
def c29_r4 : List AI := [{ dst := some 11, op := .mv (.t 6) },
  { dst := some 12, op := .bin .add (.t 11) (.c (.int .i64) 1) },
  { dst := some 6, op := .asg (.t 12) }]
def c29_r7 : List AI := [{ dst := some 35, op := .mv (.t 5) },
  { dst := some 4, op := .asg (.t 35) }]
def c29 : AC := (.seq (.reg [0, 1] c29_r0) (.seq (.reg [0, 1] c29_r1) (.seq (.seq (.reg [0, 1, 5, 34] c29_r2) (.block 0 (.loop [0, 1, 5, 6, 34] (.seq (.seq (.reg [0, 1, 5, 6, 34] c29_r3) (.cond (.t 10) .skip (.exit 0))) (.seq (.block 1 (.seq (.reg [0, 1, 5, 6, 34] c29_r5) (.cond (.t 27) (.reg [0, 1, 5, 6, 34] c29_r6) .skip))) (.reg [0, 1, 5, 6, 34] c29_r4)))))) (.seq (.reg [5, 34] c29_r7) .ret))))
def d29 : FD := { nargs := 2, body := c29, res := [.t 4] }
-- anceps/weight.natural
def c30_r0 : List AI := [{ dst := some 4, op := .asg (.nil 33 (.pair (.int .i64) (.pair (.int .i64) (.pair (.int .i64) .unit)))) }]
def c30_r1 : List AI := [{ dst := some 5, op := .mv (.t 0) }]
def c30_r2 : List AI := [{ dst := some 7, op := .bin .eql (.t 5) (.c (.int .i64) 1) },
  { dst := some 6, op := .asg (.t 7) }]
def c30_r3 : List AI := [{ dst := some 8, op := .mv (.t 1) },
  { dst := some 9, op := .bin .eql (.t 8) (.c (.int .i64) 0) }]
def c30_r4 : List AI := [{ dst := some 10, op := .call 32 [(.c (.int .i64) 1), (.c (.int .i64) 0)] },
  { dst := some 11, op := .buildSlice 33 (.pair (.int .i64) (.pair (.int .i64) (.pair (.int .i64) .unit))) [(.t 10)] },
  { dst := some 4, op := .asg (.t 11) }]
def c30_r5 : List AI := [{ dst := some 12, op := .call 32 [(.c (.int .i64) 1), (.c (.int .i64) 0)] },
  { dst := some 13, op := .mv (.t 1) },
  { dst := some 14, op := .call 31 [(.c (.int .i64) 5), (.t 13)] },
  { dst := some 15, op := .buildSlice 33 (.pair (.int .i64) (.pair (.int .i64) (.pair (.int .i64) .unit))) [(.t 12), (.t 14)] },
  { dst := some 4, op := .asg (.t 15) }]
def c30_r6 : List AI := [{ dst := some 17, op := .bin .eql (.t 5) (.c (.int .i64) 2) },
  { dst := some 16, op := .asg (.t 17) }]
def c30_r7 : List AI := [{ dst := some 18, op := .call 31 [(.c (.int .i64) 2), (.c (.int .i64) 0)] },
  { dst := some 19, op := .buildSlice 33 (.pair (.int .i64) (.pair (.int .i64) (.pair (.int .i64) .unit))) [(.t 18)] },
  { dst := some 4, op := .asg (.t 19) }]
def c30_r8 : List AI := [{ dst := some 20, op := .call 32 [(.c (.int .i64) 3), (.c (.int .i64) 0)] },
  { dst := some 21, op := .call 31 [(.c (.int .i64) 3), (.c (.int .i64) 0)] },
  { dst := some 22, op := .buildSlice 33 (.pair (.int .i64) (.pair (.int .i64) (.pair (.int .i64) .unit))) [(.t 20), (.t 21)] },
  { dst := some 4, op := .asg (.t 22) }]
def c30 : AC := (.seq (.reg [0, 1] c30_r0) (.seq (.seq (.reg [0, 1] c30_r1) (.block 0 (.seq (.reg [1, 5] c30_r2) (.cond (.t 6) (.seq (.seq (.reg [1] c30_r3) (.cond (.t 9) (.seq (.reg [] c30_r4) .ret) .skip)) (.seq (.reg [1] c30_r5) .ret)) (.seq (.reg [5] c30_r6) (.cond (.t 16) (.seq (.reg [] c30_r7) .ret) .skip)))))) (.seq (.reg [] c30_r8) .ret)))
def d30 : FD := { nargs := 2, body := c30, res := [.t 4] }
-- anceps/weight.heavy
def c31_r0 : List AI := [{ dst := some 4, op := .alloc (.pair (.int .i64) (.pair (.int .i64) (.pair (.int .i64) .unit))) .no }]
def c31_r1 : List AI := [{ dst := some 5, op := .mv (.t 0) },
  { dst := some 6, op := .mv (.t 1) },
  { dst := some 7, op := .build (.pair (.int .i64) (.pair (.int .i64) (.pair (.int .i64) .unit))) [([.l], (.c (.int .i64) 2)), ([.r, .l], (.t 5)), ([.r, .r, .l], (.t 6))] },
  { dst := none, op := .store (.pair (.int .i64) (.pair (.int .i64) (.pair (.int .i64) .unit))) (.t 4) (.t 7) }]
def c31 : AC := (.seq (.reg [0, 1] c31_r0) (.seq (.reg [0, 1, 4, 7] c31_r1) .ret))
def d31 : FD := { nargs := 2, body := c31, res := [.cell 4 (.pair (.int .i64) (.pair (.int .i64) (.pair (.int .i64) .unit)))] }
-- anceps/weight.light
def c32_r0 : List AI := [{ dst := some 4, op := .alloc (.pair (.int .i64) (.pair (.int .i64) (.pair (.int .i64) .unit))) .no }]
def c32_r1 : List AI := [{ dst := some 5, op := .mv (.t 0) },
  { dst := some 6, op := .mv (.t 1) },
  { dst := some 7, op := .build (.pair (.int .i64) (.pair (.int .i64) (.pair (.int .i64) .unit))) [([.l], (.c (.int .i64) 1)), ([.r, .l], (.t 5)), ([.r, .r, .l], (.t 6))] },
  { dst := none, op := .store (.pair (.int .i64) (.pair (.int .i64) (.pair (.int .i64) .unit))) (.t 4) (.t 7) }]
def c32 : AC := (.seq (.reg [0, 1] c32_r0) (.seq (.reg [0, 1, 4, 7] c32_r1) .ret))
def d32 : FD := { nargs := 2, body := c32, res := [.cell 4 (.pair (.int .i64) (.pair (.int .i64) (.pair (.int .i64) .unit)))] }
-- slices.IndexFunc[[]anceps/api.Option,anceps/api.Option]
def c35_r0 : List AI := [{ dst := some 4, op := .asg (.c (.int .i64) 0) }]
def c35_r1 : List AI := [{ dst := some 6, op := .mv (.t 0) },
  { dst := some 7, op := .lenL (.t 6) },
  { dst := some 8, op := .mv (.c (.int .i64) 0) }]
def c35_r2 : List AI := [{ dst := some 9, op := .bin .lss (.t 8) (.t 7) }]
def c35_r3 : List AI := [{ dst := some 10, op := .mv (.t 8) },
  { dst := some 5, op := .asg (.t 10) }]
def c35_r4 : List AI := [{ dst := some 11, op := .mv (.t 1) },
  { dst := some 12, op := .mv (.t 0) },
  { dst := some 13, op := .mv (.t 5) },
  { dst := some 14, op := .indexAddr (.pair (.int .i64) (.pair (.int .i64) (.pair (.int .i64) .unit))) (.t 12) (.t 13) },
  { dst := some 15, op := .load (.pair (.int .i64) (.pair (.int .i64) (.pair (.int .i64) .unit))) (.t 14) },
  { dst := some 16, op := .callv (.t 11) [(.t 15)] }]
def c35_r5 : List AI := [{ dst := some 17, op := .mv (.t 5) },
  { dst := some 4, op := .asg (.t 17) }]
def c35_r6 : List AI := [{ dst := some 18, op := .bin .add (.t 8) (.c (.int .i64) 1) },
  { dst := some 8, op := .mv (.t 18) }]
def c35_r7 : List AI := [{ dst := some 4, op := .asg (.c (.int .i64) (-1)) }]
def c35 : AC := (.seq (.reg [0, 1] c35_r0) (.seq (.seq (.reg [0, 1] c35_r1) (.block 0 (.loop [0, 1, 7, 8] (.seq (.reg [0, 1, 7, 8] c35_r2) (.seq (.cond (.t 9) .skip (.exit 0)) (.seq (.block 1 (.seq (.reg [0, 1, 7, 8] c35_r3) (.seq (.reg [0, 1, 5, 7, 8] c35_r4) (.cond (.t 16) (.seq (.reg [5] c35_r5) .ret) .skip)))) (.reg [0, 1, 7, 8] c35_r6))))))) (.seq (.reg [] c35_r7) .ret)))
def d35 : FD := { nargs := 2, body := c35, res := [.t 4] }
-- anceps/weight.Pick$1
def c36_r0 : List AI := [{ dst := some 2, op := .box (.pair (.int .i64) (.pair (.int .i64) (.pair (.int .i64) .unit))) (.t 0) },
  { dst := some 3, op := .asg (.c .bool false) }]
def c36_r1 : List AI := [{ dst := some 4, op := .fieldAddr (.pair (.int .i64) (.pair (.int .i64) (.pair (.int .i64) .unit))) [.l] (.t 2) },
  { dst := some 5, op := .load (.int .i64) (.t 4) },
  { dst := some 6, op := .load (.int .i64) (.t 1) },
  { dst := some 7, op := .bin .eql (.t 5) (.t 6) },
  { dst := some 3, op := .asg (.t 7) }]
def c36 : AC := (.seq (.reg [0, 1] c36_r0) (.seq (.reg [1, 2] c36_r1) .ret))
def d36 : FD := { nargs := 2, body := c36, res := [.t 3] }
-- slices.Contains[[]int,int]
def c40_r0 : List AI := [{ dst := some 4, op := .asg (.c .bool false) }]
def c40_r1 : List AI := [{ dst := some 5, op := .mv (.t 0) },
  { dst := some 6, op := .mv (.t 1) },
  { dst := some 7, op := .call 42 [(.t 5), (.t 6)] },
  { dst := some 8, op := .bin .geq (.t 7) (.c (.int .i64) 0) },
  { dst := some 4, op := .asg (.t 8) }]
def c40 : AC := (.seq (.reg [0, 1] c40_r0) (.seq (.reg [0, 1] c40_r1) .ret))
def d40 : FD := { nargs := 2, body := c40, res := [.t 4] }
-- anceps/ancepsref16.has
def c41_r0 : List AI := [{ dst := some 4, op := .asg (.c .bool false) }]
def c41_r1 : List AI := [{ dst := some 5, op := .asg (.c (.int .i64) 0) }]
def c41_r2 : List AI := [{ dst := some 6, op := .mv (.t 5) },
  { dst := some 7, op := .mv (.t 0) },
  { dst := some 8, op := .lenL (.t 7) },
  { dst := some 9, op := .bin .lss (.t 6) (.t 8) }]
def c41_r4 : List AI := [{ dst := some 12, op := .mv (.t 0) },
  { dst := some 13, op := .mv (.t 5) },
  { dst := some 14, op := .indexAddr (.int .i64) (.t 12) (.t 13) },
  { dst := some 15, op := .load (.int .i64) (.t 14) },
  { dst := some 16, op := .mv (.t 1) },
  { dst := some 17, op := .bin .eql (.t 15) (.t 16) }]
def c41_r5 : List AI := [{ dst := some 4, op := .asg (.c .bool true) }]
def c41_r3 : List AI := [{ dst := some 10, op := .mv (.t 5) },
  { dst := some 11, op := .bin .add (.t 10) (.c (.int .i64) 1) },
  { dst := some 5, op := .asg (.t 11) }]
def c41_r6 : List AI := [{ dst := some 4, op := .asg (.c .bool false) }]
def c41 : AC := (.seq (.reg [0, 1] c41_r0) (.seq (.seq (.reg [0, 1] c41_r1) (.block 0 (.loop [0, 1, 5] (.seq (.seq (.reg [0, 1, 5] c41_r2) (.cond (.t 9) .skip (.exit 0))) (.seq (.block 1 (.seq (.reg [0, 1, 5] c41_r4) (.cond (.t 17) (.seq (.reg [] c41_r5) .ret) .skip))) (.reg [0, 1, 5] c41_r3)))))) (.seq (.reg [] c41_r6) .ret)))
def d41 : FD := { nargs := 2, body := c41, res := [.t 4] }
-- slices.Index[[]int,int]
def c42_r0 : List AI := [{ dst := some 4, op := .asg (.c (.int .i64) 0) }]
def c42_r1 : List AI := [{ dst := some 6, op := .mv (.t 0) },
  { dst := some 7, op := .lenL (.t 6) },
  { dst := some 8, op := .mv (.c (.int .i64) 0) }]
def c42_r2 : List AI := [{ dst := some 9, op := .bin .lss (.t 8) (.t 7) }]
def c42_r3 : List AI := [{ dst := some 10, op := .mv (.t 8) },
  { dst := some 5, op := .asg (.t 10) }]
def c42_r4 : List AI := [{ dst := some 11, op := .mv (.t 1) },
  { dst := some 12, op := .mv (.t 0) },
  { dst := some 13, op := .mv (.t 5) },
  { dst := some 14, op := .indexAddr (.int .i64) (.t 12) (.t 13) },
  { dst := some 15, op := .load (.int .i64) (.t 14) },
  { dst := some 16, op := .bin .eql (.t 11) (.t 15) }]
def c42_r5 : List AI := [{ dst := some 17, op := .mv (.t 5) },
  { dst := some 4, op := .asg (.t 17) }]
def c42_r6 : List AI := [{ dst := some 18, op := .bin .add (.t 8) (.c (.int .i64) 1) },
  { dst := some 8, op := .mv (.t 18) }]
def c42_r7 : List AI := [{ dst := some 4, op := .asg (.c (.int .i64) (-1)) }]
def c42 : AC := (.seq (.reg [0, 1] c42_r0) (.seq (.seq (.reg [0, 1] c42_r1) (.block 0 (.loop [0, 1, 7, 8] (.seq (.reg [0, 1, 7, 8] c42_r2) (.seq (.cond (.t 9) .skip (.exit 0)) (.seq (.block 1 (.seq (.reg [0, 1, 7, 8] c42_r3) (.seq (.reg [0, 1, 5, 7, 8] c42_r4) (.cond (.t 16) (.seq (.reg [5] c42_r5) .ret) .skip)))) (.reg [0, 1, 7, 8] c42_r6))))))) (.seq (.reg [] c42_r7) .ret)))
def d42 : FD := { nargs := 2, body := c42, res := [.t 4] }
def table : Table := fun f => match f with
  | 5 => some d5
  | 6 => some d6
  | 8 => some d8
  | 9 => some d9
  | 10 => some d10
  | 11 => some d11
  | 12 => some d12
  | 14 => some d14
  | 15 => some d15
  | 17 => some d17
  | 18 => some d18
  | 19 => some d19
  | 20 => some d20
  | 25 => some d25
  | 26 => some d26
  | 29 => some d29
  | 30 => some d30
  | 31 => some d31
  | 32 => some d32
  | 35 => some d35
  | 36 => some d36
  | 40 => some d40
  | 41 => some d41
  | 42 => some d42
  | _ => none
end Go.Fw.L16
