/- Printed by an own program for this claim: the machine's code of functions, or their typed forms with their equations; no conditions. -/
import Derived.Test.YtnobiophckdjfaaFwMu51b
import Derived.Test.YtnobiophckdjfaaFwB4
set_option linter.unusedVariables false
set_option linter.unusedSimpArgs false
namespace Go.Fw.L51
open Go Go.Fw
set_option maxRecDepth 100000
set_option linter.unusedVariables false
set_option linter.unusedSimpArgs false
variable {N : Nat} {cl : Cal} {R : Type} {K : KE R}
def g23_0 (k0 : Int → Int → V10 → Option R) (x0 x1 : Int) : Option R :=
k0 x0 x1 (false, (([], ()), (([], ()), ())))
theorem t23_0 (x0 x1) : exec cl N c23_0 (e48 x0 x1) K = (g23_0 (fun y0 y1 y2 => K .normal (e202 y0 y1 y2)) x0 x1) := by
 kernel_rfl
def g23_1 (k0 : Int → Int → V10 → Bool → Option R) (x0 x1 : Int) (x2 : V10) : Option R :=
k0 x0 x1 x2 (x1 == (0 : Int))
theorem t23_1 (x0 x1 x2) : exec cl N c23_1 (e202 x0 x1 x2) K = (g23_1 (fun y0 y1 y2 y3 => K .normal (e203 y0 y1 y2 y3)) x0 x1 x2) := by
 kernel_rfl
def g23_2 (k0 : V10 → Int → Option R) (x0 x1 : Int) (x2 : V10) (x3 : Bool) : Option R :=
k0 (false, ([], ()), ([], ()), ()) (6 : Int)
theorem t23_2 (x0 x1 x2 x3) : exec cl N c23_2 (e203 x0 x1 x2 x3) K = (g23_2 (fun y0 y1 => K .normal (e86 y0 y1)) x0 x1 x2 x3) := by
 kernel_rfl
theorem kp23_0 (x0 x1) : keep [0, 1, 4, 5] (e86 x0 x1) = (e204 x0 x1) := by kernel_rfl
theorem kp23_1 (x0 x1 x2 x3) : keep [0, 1, 4, 5] (e203 x0 x1 x2 x3) = (e205 x0 x1 x2) := by kernel_rfl
theorem hb23_0 (x0 x1 x2 x3) : boolOf? (ent (e203 x0 x1 x2 x3) (.t 8)) = some x3 := by kernel_rfl
def g23_4 (k0 : Int → Int → V10 → Bool → Option R) (x0 x1 : Int) (x2 : V10) : Option R :=
brB (decide (x0 < (-1000000000000000 : Int))) (k0 x0 x1 x2 true) (brB (decide (x0 > (1000000000000000 : Int))) (k0 x0 x1 x2 true) (brB (decide (x1 < (-1000000000000000 : Int))) (k0 x0 x1 x2 true) (k0 x0 x1 x2 (decide (x1 > (1000000000000000 : Int))))))
theorem t23_4 (x0 x1 x2) : exec cl N c23_4 (e205 x0 x1 x2) K = (g23_4 (fun y0 y1 y2 y3 => K .normal (e206 y0 y1 y2 y3)) x0 x1 x2) := by
 kernel_rfl
def g23_5 (k0 : V10 → Int → Option R) (x0 x1 : Int) (x2 : V10) (x3 : Bool) : Option R :=
k0 (false, ([], ()), ([], ()), ()) (3 : Int)
theorem t23_5 (x0 x1 x2 x3) : exec cl N c23_5 (e206 x0 x1 x2 x3) K = (g23_5 (fun y0 y1 => K .normal (e86 y0 y1)) x0 x1 x2 x3) := by
 kernel_rfl
theorem kp23_2 (x0 x1 x2 x3) : keep [0, 1, 4, 5] (e206 x0 x1 x2 x3) = (e205 x0 x1 x2) := by kernel_rfl
theorem hb23_1 (x0 x1 x2 x3) : boolOf? (ent (e206 x0 x1 x2 x3) (.t 23)) = some x3 := by kernel_rfl
def g23_7 (k0 : Int → Int → V10 → Bool → Option R) (x0 x1 : Int) (x2 : V10) : Option R :=
k0 x0 x1 x2 (!((decide (x0 < (0 : Int))) == (decide (x1 < (0 : Int)))))
theorem t23_7 (x0 x1 x2) : exec cl N c23_7 (e205 x0 x1 x2) K = (g23_7 (fun y0 y1 y2 y3 => K .normal (e207 y0 y1 y2 y3)) x0 x1 x2) := by
 kernel_rfl
def g23_8 (k0 : Int → Int → V10 → Bool → Bool → Option R) (x0 x1 : Int) (x2 : V10) (x3 : Bool) : Option R :=
k0 x0 x1 x2 x3 (decide (x0 < (0 : Int)))
theorem t23_8 (x0 x1 x2 x3) : exec cl N c23_8 (e207 x0 x1 x2 x3) K = (g23_8 (fun y0 y1 y2 y3 y4 => K .normal (e208 y0 y1 y2 y3 y4)) x0 x1 x2 x3) := by
 kernel_rfl
def g23_9 (k0 : Int → Int → V10 → Bool → Option R) (x0 x1 : Int) (x2 : V10) (x3 x4 : Bool) : Option R :=
k0 (IntKind.i64.wrap ((0 : Int) - x0)) x1 x2 x3
theorem t23_9 (x0 x1 x2 x3 x4) : exec cl N c23_9 (e208 x0 x1 x2 x3 x4) K = (g23_9 (fun y0 y1 y2 y3 => K .normal (e207 y0 y1 y2 y3)) x0 x1 x2 x3 x4) := by
 kernel_rfl
theorem kp23_3 (x0 x1 x2 x3) : keep [0, 1, 4, 6] (e207 x0 x1 x2 x3) = (e207 x0 x1 x2 x3) := by kernel_rfl
theorem kp23_4 (x0 x1 x2 x3 x4) : keep [0, 1, 4, 6] (e208 x0 x1 x2 x3 x4) = (e207 x0 x1 x2 x3) := by kernel_rfl
theorem hb23_2 (x0 x1 x2 x3 x4) : boolOf? (ent (e208 x0 x1 x2 x3 x4) (.t 31)) = some x4 := by kernel_rfl
def g23_11 (k0 : Int → Int → V10 → Bool → Option R) (x0 x1 : Int) (x2 : V10) (x3 : Bool) : Option R :=
(g23_8 (fun y0 y1 y2 y3 y4 => brB y4 (g23_9 k0 y0 y1 y2 y3 y4) (k0 y0 y1 y2 y3)) x0 x1 x2 x3)
theorem t23_11 (x0 x1 x2 x3) : exec cl N c23_11 (e207 x0 x1 x2 x3) K = (g23_11 (fun y0 y1 y2 y3 => K .normal (e207 y0 y1 y2 y3)) x0 x1 x2 x3) := by
 simp only [c23_11, exec_seq, seqK_normal, seqK_exit, seqK_ret, t23_8, c23_10, exec_out, exec_cond', hb23_2, Option.bind_some, brB_true, brB_false, t23_9, exec_skip, kp23_3, kp23_4]
 rfl
def g23_12 (k0 : Int → Int → V10 → Bool → Bool → Option R) (x0 x1 : Int) (x2 : V10) (x3 : Bool) : Option R :=
k0 x0 x1 x2 x3 (decide (x1 < (0 : Int)))
theorem t23_12 (x0 x1 x2 x3) : exec cl N c23_12 (e207 x0 x1 x2 x3) K = (g23_12 (fun y0 y1 y2 y3 y4 => K .normal (e209 y0 y1 y2 y3 y4)) x0 x1 x2 x3) := by
 kernel_rfl
def g23_13 (k0 : Int → Int → V10 → Bool → Option R) (x0 x1 : Int) (x2 : V10) (x3 x4 : Bool) : Option R :=
k0 x0 (IntKind.i64.wrap ((0 : Int) - x1)) x2 x3
theorem t23_13 (x0 x1 x2 x3 x4) : exec cl N c23_13 (e209 x0 x1 x2 x3 x4) K = (g23_13 (fun y0 y1 y2 y3 => K .normal (e207 y0 y1 y2 y3)) x0 x1 x2 x3 x4) := by
 kernel_rfl
theorem kp23_5 (x0 x1 x2 x3 x4) : keep [0, 1, 4, 6] (e209 x0 x1 x2 x3 x4) = (e207 x0 x1 x2 x3) := by kernel_rfl
theorem hb23_3 (x0 x1 x2 x3 x4) : boolOf? (ent (e209 x0 x1 x2 x3 x4) (.t 35)) = some x4 := by kernel_rfl
def g23_15 (k0 : Int → Int → V10 → Bool → Option R) (x0 x1 : Int) (x2 : V10) (x3 : Bool) : Option R :=
(g23_12 (fun y0 y1 y2 y3 y4 => brB y4 (g23_13 k0 y0 y1 y2 y3 y4) (k0 y0 y1 y2 y3)) x0 x1 x2 x3)
theorem t23_15 (x0 x1 x2 x3) : exec cl N c23_15 (e207 x0 x1 x2 x3) K = (g23_15 (fun y0 y1 y2 y3 => K .normal (e207 y0 y1 y2 y3)) x0 x1 x2 x3) := by
 simp only [c23_15, exec_seq, seqK_normal, seqK_exit, seqK_ret, t23_12, c23_14, exec_out, exec_cond', hb23_3, Option.bind_some, brB_true, brB_false, t23_13, exec_skip, kp23_3, kp23_5]
 rfl
def g23_16 (S52 : Bool → V2 → V2 → Option V11) (S53 : Int → Option V3) (k0 : V10 → Int → Option R) (x0 x1 : Int) (x2 : V10) (x3 : Bool) : Option R :=
(S53 x0).bind fun r994 =>
(S53 x1).bind fun r995 =>
(S52 x3 r994 r995).bind fun r996 =>
k0 r996 (0 : Int)
theorem t23_16 (S52) (S53) (h52 : (ctr52 S52).holds cl) (h53 : (ctr53 S53).holds cl) (x0 x1 x2 x3) : exec cl N c23_16 (e207 x0 x1 x2 x3) K = (g23_16 S52 S53 (fun y0 y1 => K .normal (e86 y0 y1)) x0 x1 x2 x3) := by
 rw [← put_eq h52]
 rw [← put_eq h53]
 kernel_rfl
def g23_17 (S52 : Bool → V2 → V2 → Option V11) (S53 : Int → Option V3) (k0 : V10 → Int → Option R) (k1 : V10 → Int → Option R) (x0 x1 : Int) : Option R :=
(g23_0 (g23_1 (fun y0 y1 y2 y3 => brB y3 (g23_2 k0 y0 y1 y2 y3) ((g23_4 (fun y0 y1 y2 y3 => brB y3 (g23_5 k0 y0 y1 y2 y3) ((g23_7 (g23_11 (g23_15 (g23_16 S52 S53 k1)))) y0 y1 y2))) y0 y1 y2))) x0 x1)
theorem t23_17 (S52) (S53) (h52 : (ctr52 S52).holds cl) (h53 : (ctr53 S53).holds cl) (x0 x1) : exec cl N c23_17 (e48 x0 x1) K = (g23_17 S52 S53 (fun y0 y1 => K .ret (e204 y0 y1)) (fun y0 y1 => K .ret (e86 y0 y1)) x0 x1) := by
 simp only [c23_17, exec_seq, seqK_normal, seqK_exit, seqK_ret, t23_0, t23_1, c23_3, exec_out, exec_cond', hb23_0, Option.bind_some, brB_true, brB_false, t23_2, exec_ret, exec_skip, kp23_0, kp23_1, t23_4, c23_6, hb23_1, t23_5, kp23_2, t23_7, t23_11, t23_15, t23_16 S52 S53 h52 h53]
 rfl
theorem rk23_0 (y0 y1) : retK d23 .ret (e204 y0 y1) = some [.v U9 y0, .v U1 y1] := by kernel_rfl
theorem rk23_1 (y0 y1) : retK d23 .ret (e86 y0 y1) = some [.v U9 y0, .v U1 y1] := by kernel_rfl
def g23 (S52 : Bool → V2 → V2 → Option V11) (S53 : Int → Option V3) (x0 x1 : Int) (k : V10 → Int → Option R) : Option R :=
(g23_17 S52 S53 k k x0 x1)
theorem gen23 (S52) (S53) (h52 : (ctr52 S52).holds cl) (h53 : (ctr53 S53).holds cl) (x0 x1) (k : List E → Option R) : exec cl N c23 (e48 x0 x1) (fun e env => (retK d23 e env).bind k) = g23 S52 S53 x0 x1 (fun r0 r1 => k [.v U9 r0, .v U1 r1]) := by
 simp only [c23, t23_17 S52 S53 h52 h53, rk23_0, rk23_1, Option.bind_some]
 rfl
def ctr23 (S : Int → Int → Option V13) : Ctr := cv2 23 U1 U1 S fun b => [.v U9 b.1, .v U1 b.2]
def S23 (N : Nat) (x0 : Int) (x1 : Int) : Option V13 := g23 (S52 N) (S53 N) x0 x1 (fun (r0 : V10) (r1 : Int) => some (r0, r1))
def g21_2 (S51 : V2 → V2 → Option (Bool)) (k0 : Bool → Option R) (x0 x1 : V10) : Option R :=
brB (x0.1 == x1.1) ((S51 x0.2.1 x1.2.1).bind fun r1004 =>
brB r1004 ((S51 x0.2.2.1 x1.2.2.1).bind fun r1005 =>
k0 r1005) (k0 false)) (k0 false)
theorem t21_2 (S51) (h51 : (ctr51 S51).holds cl) (x0 x1) : exec cl N c21_2 (e158 x0 x1) K = (g21_2 S51 (fun y0 => exec cl N .ret [(4, .v .bool y0)] K) x0 x1) := by
 rw [← put_eq h51]
 kernel_rfl
def g21_2b (S51 : V2 → V2 → Option (Bool)) (k0 : Bool → Option R) (x0 x1 : V10) : Option R :=
(g21_2 S51 k0 x0 x1)
theorem t21_2b (S51) (h51 : (ctr51 S51).holds cl) (x0 x1) : exec cl N c21_2 (e158 x0 x1) K = (g21_2b S51 (fun y0 => K .ret [(4, .v .bool y0)]) x0 x1) := by
 simp only [exec_seq, seqK_normal, seqK_exit, seqK_ret, t21_2 S51 h51, exec_ret]
 rfl
theorem rk21_0 (y0) : retK d21 .ret [(4, .v .bool y0)] = some [.v .bool y0] := by kernel_rfl
def g21 (S51 : V2 → V2 → Option (Bool)) (x0 x1 : V10) (k : Bool → Option R) : Option R :=
(g21_2b S51 k x0 x1)
theorem gen21 (S51) (h51 : (ctr51 S51).holds cl) (x0 x1) (k : List E → Option R) : exec cl N c21 (e158 x0 x1) (fun e env => (retK d21 e env).bind k) = g21 S51 x0 x1 (fun r0 => k [.v .bool r0]) := by
 simp only [c21, t21_2b S51 h51, rk21_0, Option.bind_some]
 rfl
def ctr21 (S : V10 → V10 → Option (Bool)) : Ctr := cv2 21 U9 U9 S fun b => [.v .bool b]
def S21 (N : Nat) (x0 : V10) (x1 : V10) : Option (Bool) := g21 (S51 N) x0 x1 (fun (r0 : Bool) => some (r0))
def g31_3 (S21 : V10 → V10 → Option (Bool)) (S23 : Int → Int → Option V13) (k0 : Bool → Option R) (x0 : V10) (x1 : Int) : Option R :=
(S23 x1 (1 : Int)).bind fun r1008 =>
brB (r1008.2 == (0 : Int)) ((S21 x0 r1008.1).bind fun r1010 =>
k0 r1010) (k0 false)
theorem t31_3 (S21) (S23) (h21 : (ctr21 S21).holds cl) (h23 : (ctr23 S23).holds cl) (x0 x1) : exec cl N c31_3 [(0, .v U9 x0), (1, .v U1 x1)] K = (g31_3 S21 S23 (fun y0 => exec cl N .ret [(4, .v .bool y0)] K) x0 x1) := by
 rw [← put_eq h21]
 rw [← put_eq h23]
 kernel_rfl
def g31_3b (S21 : V10 → V10 → Option (Bool)) (S23 : Int → Int → Option V13) (k0 : Bool → Option R) (x0 : V10) (x1 : Int) : Option R :=
(g31_3 S21 S23 k0 x0 x1)
theorem t31_3b (S21) (S23) (h21 : (ctr21 S21).holds cl) (h23 : (ctr23 S23).holds cl) (x0 x1) : exec cl N c31_3 [(0, .v U9 x0), (1, .v U1 x1)] K = (g31_3b S21 S23 (fun y0 => K .ret [(4, .v .bool y0)]) x0 x1) := by
 simp only [exec_seq, seqK_normal, seqK_exit, seqK_ret, t31_3 S21 S23 h21 h23, exec_ret]
 rfl
theorem rk31_0 (y0) : retK d31 .ret [(4, .v .bool y0)] = some [.v .bool y0] := by kernel_rfl
def g31 (S21 : V10 → V10 → Option (Bool)) (S23 : Int → Int → Option V13) (x0 : V10) (x1 : Int) (k : Bool → Option R) : Option R :=
(g31_3b S21 S23 k x0 x1)
theorem gen31 (S21) (S23) (h21 : (ctr21 S21).holds cl) (h23 : (ctr23 S23).holds cl) (x0 x1) (k : List E → Option R) : exec cl N c31 [(0, .v U9 x0), (1, .v U1 x1)] (fun e env => (retK d31 e env).bind k) = g31 S21 S23 x0 x1 (fun r0 => k [.v .bool r0]) := by
 simp only [c31, t31_3b S21 S23 h21 h23, rk31_0, Option.bind_some]
 rfl
def ctr31 (S : V10 → Int → Option (Bool)) : Ctr := cv2 31 U9 U1 S fun b => [.v .bool b]
def S31 (N : Nat) (x0 : V10) (x1 : Int) : Option (Bool) := g31 (S21 N) (S23 N) x0 x1 (fun (r0 : Bool) => some (r0))
def g8_0 (k0 : V0 → Option R) (x0 : V0) : Option R :=
k0 x0
theorem t8_0 (x0) : exec cl N c8_0 [(0, .v U3 x0)] K = (g8_0 (fun y0 => K .normal [(1, .loc U3 .no y0)]) x0) := by
 kernel_rfl
def g8_1 (S11 : Option (Bool)) (k0 : V0 → Bool → Option R) (x0 : V0) : Option R :=
(S11).bind fun r1019 =>
k0 x0 (!r1019)
theorem t8_1 (S11) (h11 : (ctr11 S11).holds cl) (x0) : exec cl N c8_1 [(1, .loc U3 .no x0)] K = (g8_1 S11 (fun y0 y1 => K .normal (e210 y0 y1)) x0) := by
 rw [← put_eq h11]
 kernel_rfl
def g8_2 (k0 : Bool → Option R) (x0 : V0) (x1 : Bool) : Option R :=
k0 false
theorem t8_2 (x0 x1) : exec cl N c8_2 (e210 x0 x1) K = (g8_2 (fun y0 => K .normal [(2, .v .bool y0)]) x0 x1) := by
 kernel_rfl
theorem kp8_0 (x0) : keep [1, 2] [(2, .v .bool x0)] = (e144 x0) := by kernel_rfl
theorem kp8_1 (x0 x1) : keep [1, 2] (e210 x0 x1) = [(1, .loc U3 .no x0), (2, .dead)] := by kernel_rfl
theorem hb8_0 (x0 x1) : boolOf? (ent (e210 x0 x1) (.t 18)) = some x1 := by kernel_rfl
def g8_28 (k0 : V0 → Int → Int → Int → V12 → Option R) (x0 : V0) : Option R :=
if 0 ≤ (0 : Int) ∧ (0 : Int) < ((4 : Nat) : Int) then
(getP U3 [.ix (0 : Int).toNat] x0).bind fun z => (cast? U0 z).bind fun v1034 =>
let v1036 : Int := (IntKind.i64.wrap (Int.tmod v1034 (25 : Int)))
if 0 ≤ (1 : Int) ∧ (1 : Int) < ((4 : Nat) : Int) then
((getP U3 [.ix (1 : Int).toNat] x0).bind fun z => cast? U0 z).bind fun v1037 =>
let v1039 : Int := (IntKind.i64.wrap (v1036 + (1 : Int)))
if v1039 = 0 then none else
if 0 ≤ (2 : Int) ∧ (2 : Int) < ((4 : Nat) : Int) then
((getP U3 [.ix (2 : Int).toNat] x0).bind fun z => cast? U0 z).bind fun v1041 =>
let v1043 : Int := (IntKind.i64.wrap (v1036 + (1 : Int)))
if v1043 = 0 then none else
k0 x0 v1036 (Int.tmod (IntKind.i64.wrap v1037) v1039) (Int.tmod (IntKind.i64.wrap v1041) v1043) []
else none
else none
else none
theorem t8_28 (x0) : exec cl N c8_28 [(1, .loc U3 .no x0), (2, .dead)] K = (g8_28 (fun y0 y1 y2 y3 y4 => exec cl N (.seq (.seq c8_7 c8_21) c8_27) (e211 y0 y1 y2 y3 y4) K) x0) := by
 kernel_rfl
def g8_7 (k0 : V0 → Int → Int → Int → V12 → Int → Int → Option R) (x0 : V0) (x1 x2 x3 : Int) (x4 : V12) : Option R :=
k0 x0 x1 x2 x3 x4 (IntKind.i64.wrap (x3 + (1 : Int))) (0 : Int)
theorem t8_7 (x0 x1 x2 x3 x4) : exec cl N c8_7 (e211 x0 x1 x2 x3 x4) K = (g8_7 (fun y0 y1 y2 y3 y4 y5 y6 => K .normal (e212 y0 y1 y2 y3 y4 y5 y6)) x0 x1 x2 x3 x4) := by
 kernel_rfl
theorem kp8_2 (x0 x1 x2 x3 x4 x5 x6) : keep [1, 3, 4, 5, 6, 36, 37] (e212 x0 x1 x2 x3 x4 x5 x6) = (e212 x0 x1 x2 x3 x4 x5 x6) := by kernel_rfl
def g8_8 (k0 : V0 → Int → Int → Int → V12 → Int → Int → Bool → Option R) (x0 : V0) (x1 x2 x3 : Int) (x4 : V12) (x5 x6 : Int) : Option R :=
k0 x0 x1 x2 x3 x4 x5 x6 (decide (x6 < x5))
theorem t8_8 (x0 x1 x2 x3 x4 x5 x6) : exec cl N c8_8 (e212 x0 x1 x2 x3 x4 x5 x6) K = (g8_8 (fun y0 y1 y2 y3 y4 y5 y6 y7 => K .normal (e213 y0 y1 y2 y3 y4 y5 y6 y7)) x0 x1 x2 x3 x4 x5 x6) := by
 kernel_rfl
theorem kp8_3 (x0 x1 x2 x3 x4 x5 x6 x7) : keep [1, 3, 4, 5, 6, 36, 37] (e213 x0 x1 x2 x3 x4 x5 x6 x7) = (e212 x0 x1 x2 x3 x4 x5 x6) := by kernel_rfl
theorem hb8_1 (x0 x1 x2 x3 x4 x5 x6 x7) : boolOf? (ent (e213 x0 x1 x2 x3 x4 x5 x6 x7) (.t 38)) = some x7 := by kernel_rfl
def g8_16 (S27 : Int → Int → Int → Int → Option V13) (k0 : V0 → Int → Int → Int → V12 → V10 → Int → Int → Int → Option R) (x0 : V0) (x1 x2 x3 : Int) (x4 : V12) (x5 x6 : Int) : Option R :=
(S27 x1 x2 x3 x6).bind fun r1047 =>
k0 x0 x1 x2 x3 x4 r1047.1 r1047.2 x5 x6
theorem t8_16 (S27) (h27 : (ctr27 S27).holds cl) (x0 x1 x2 x3 x4 x5 x6) : exec cl N c8_16 (e212 x0 x1 x2 x3 x4 x5 x6) K = (g8_16 S27 (fun y0 y1 y2 y3 y4 y5 y6 y7 y8 => exec cl N (.seq (.seq c8_12 c8_14) c8_15) (e214 y0 y1 y2 y3 y4 y5 y6 y7 y8) K) x0 x1 x2 x3 x4 x5 x6) := by
 rw [← put_eq h27]
 kernel_rfl
def g8_12 (k0 : V0 → Int → Int → Int → V12 → V10 → Int → Int → Bool → Option R) (x0 : V0) (x1 x2 x3 : Int) (x4 : V12) (x5 : V10) (x6 x7 x8 : Int) : Option R :=
k0 x0 x1 x2 x3 x4 x5 x7 x8 (x6 != (0 : Int))
theorem t8_12 (x0 x1 x2 x3 x4 x5 x6 x7 x8) : exec cl N c8_12 (e214 x0 x1 x2 x3 x4 x5 x6 x7 x8) K = (g8_12 (fun y0 y1 y2 y3 y4 y5 y6 y7 y8 => K .normal (e215 y0 y1 y2 y3 y4 y5 y6 y7 y8)) x0 x1 x2 x3 x4 x5 x6 x7 x8) := by
 kernel_rfl
def g8_13 (k0 : Bool → Option R) (x0 : V0) (x1 x2 x3 : Int) (x4 : V12) (x5 : V10) (x6 x7 : Int) (x8 : Bool) : Option R :=
k0 false
theorem t8_13 (x0 x1 x2 x3 x4 x5 x6 x7 x8) : exec cl N c8_13 (e215 x0 x1 x2 x3 x4 x5 x6 x7 x8) K = (g8_13 (fun y0 => K .normal [(2, .v .bool y0)]) x0 x1 x2 x3 x4 x5 x6 x7 x8) := by
 kernel_rfl
theorem kp8_4 (x0) : keep [1, 2, 3, 4, 5, 6, 8, 36, 37] [(2, .v .bool x0)] = (e216 x0) := by kernel_rfl
theorem kp8_5 (x0 x1 x2 x3 x4 x5 x6 x7 x8) : keep [1, 2, 3, 4, 5, 6, 8, 36, 37] (e215 x0 x1 x2 x3 x4 x5 x6 x7 x8) = (e217 x0 x1 x2 x3 x4 x5 x6 x7) := by kernel_rfl
theorem hb8_2 (x0 x1 x2 x3 x4 x5 x6 x7 x8) : boolOf? (ent (e215 x0 x1 x2 x3 x4 x5 x6 x7 x8) (.t 49)) = some x8 := by kernel_rfl
def g8_15 (k0 : V0 → Int → Int → Int → V12 → Int → Int → Option R) (x0 : V0) (x1 x2 x3 : Int) (x4 : V12) (x5 : V10) (x6 x7 : Int) : Option R :=
if x4.length + [x5].length ≤ 2513169434916 then
k0 x0 x1 x2 x3 (x4 ++ [x5]) x6 x7
else none
theorem t8_15 (x0 x1 x2 x3 x4 x5 x6 x7) : exec cl N c8_15 (e217 x0 x1 x2 x3 x4 x5 x6 x7) K = (g8_15 (fun y0 y1 y2 y3 y4 y5 y6 => K .normal (e212 y0 y1 y2 y3 y4 y5 y6)) x0 x1 x2 x3 x4 x5 x6 x7) := by
 kernel_rfl
theorem kp8_6 (x0) : keep [1, 2, 3, 4, 5, 6, 36, 37] (e216 x0) = (e218 x0) := by kernel_rfl
theorem kp8_7 (x0 x1 x2 x3 x4 x5 x6) : keep [1, 2, 3, 4, 5, 6, 36, 37] (e212 x0 x1 x2 x3 x4 x5 x6) = (e219 x0 x1 x2 x3 x4 x5 x6) := by kernel_rfl
def g8_18 (k0 : V0 → Int → Int → Int → V12 → Int → Int → Option R) (x0 : V0) (x1 x2 x3 : Int) (x4 : V12) (x5 x6 : Int) : Option R :=
k0 x0 x1 x2 x3 x4 x5 (IntKind.i64.wrap (x6 + (1 : Int)))
theorem t8_18 (x0 x1 x2 x3 x4 x5 x6) : exec cl N c8_18 (e219 x0 x1 x2 x3 x4 x5 x6) K = (g8_18 (fun y0 y1 y2 y3 y4 y5 y6 => K .normal (e212 y0 y1 y2 y3 y4 y5 y6)) x0 x1 x2 x3 x4 x5 x6) := by
 kernel_rfl
def g8_19 (S27 : Int → Int → Int → Int → Option V13) (k0 : Bool → Option R) (k1 : V0 → Int → Int → Int → V12 → Int → Int → Option R) (k2 : V0 → Int → Int → Int → V12 → Int → Int → Option R) (x0 : V0) (x1 x2 x3 : Int) (x4 : V12) (x5 x6 : Int) : Option R :=
(g8_8 (fun y0 y1 y2 y3 y4 y5 y6 y7 => brB y7 ((g8_16 S27 (g8_12 (fun y0 y1 y2 y3 y4 y5 y6 y7 y8 => brB y8 (g8_13 k0 y0 y1 y2 y3 y4 y5 y6 y7 y8) ((g8_15 ((g8_18 k1))) y0 y1 y2 y3 y4 y5 y6 y7)))) y0 y1 y2 y3 y4 y5 y6) (k2 y0 y1 y2 y3 y4 y5 y6)) x0 x1 x2 x3 x4 x5 x6)
theorem t8_19 (S27) (h27 : (ctr27 S27).holds cl) (x0 x1 x2 x3 x4 x5 x6) : exec cl N c8_19 (e212 x0 x1 x2 x3 x4 x5 x6) K = (g8_19 S27 (fun y0 => K .ret (e218 y0)) (fun y0 y1 y2 y3 y4 y5 y6 => K .normal (e212 y0 y1 y2 y3 y4 y5 y6)) (fun y0 y1 y2 y3 y4 y5 y6 => K (.exit 0) (e212 y0 y1 y2 y3 y4 y5 y6)) x0 x1 x2 x3 x4 x5 x6) := by
 simp only [c8_19, exec_seq, seqK_normal, seqK_exit, seqK_ret, t8_8, c8_9, exec_out, exec_cond', hb8_1, Option.bind_some, brB_true, brB_false, exec_skip, exec_exit, kp8_3, c8_17, exec_block, t8_16 S27 h27, t8_12, c8_14, hb8_2, t8_13, exec_ret, kp8_4, kp8_5, t8_15, blockK_normal, blockK_ret, blockK_eq, kp8_6, kp8_7, t8_18]
 rfl
def l8_20 {R : Type} (S27 : Int → Int → Int → Int → Option V13) (k0 : Bool → Option R) (k1 : V0 → Int → Int → Int → V12 → Int → Int → Option R) : Nat → V0 → Int → Int → Int → V12 → Int → Int → Option R
 | 0, _, _, _, _, _, _, _ => none
 | m + 1, x0, x1, x2, x3, x4, x5, x6 => (g8_19 S27 k0 (l8_20 S27 k0 k1 m) k1 x0 x1 x2 x3 x4 x5 x6)
theorem lt8_20 (S27) (h27 : (ctr27 S27).holds cl) : ∀ (m) (x0 x1 x2 x3 x4 x5 x6), iter [1, 3, 4, 5, 6, 36, 37] (fun env K => exec cl N c8_19 env K) K m (e212 x0 x1 x2 x3 x4 x5 x6) = l8_20 S27 (fun y0 => K .ret (e218 y0)) (fun y0 y1 y2 y3 y4 y5 y6 => K (.exit 0) (e212 y0 y1 y2 y3 y4 y5 y6)) m x0 x1 x2 x3 x4 x5 x6 := by
 intro m
 induction m with
 | zero => intros; rfl
 | succ m ih =>
   intro x0 x1 x2 x3 x4 x5 x6
   simp only [iter_succ, t8_19 S27 h27, loopK_normal, loopK_exit, loopK_ret, kp8_2, ih]
   rfl
theorem kp8_8 (x0) : keep [1, 2, 3, 4, 5, 6] (e218 x0) = (e220 x0) := by kernel_rfl
theorem kp8_9 (x0 x1 x2 x3 x4 x5 x6) : keep [1, 2, 3, 4, 5, 6] (e212 x0 x1 x2 x3 x4 x5 x6) = (e221 x0 x1 x2 x3 x4) := by kernel_rfl
def g8_20 (N : Nat) (S27 : Int → Int → Int → Int → Option V13) (k0 : Bool → Option R) (k1 : V0 → Int → Int → Int → V12 → Option R) (x0 : V0) (x1 x2 x3 : Int) (x4 : V12) (x5 x6 : Int) : Option R :=
l8_20 S27 k0 (fun y0 y1 y2 y3 y4 y5 y6 => k1 y0 y1 y2 y3 y4) N x0 x1 x2 x3 x4 x5 x6
theorem t8_20 (S27) (h27 : (ctr27 S27).holds cl) (x0 x1 x2 x3 x4 x5 x6) : exec cl N c8_20 (e212 x0 x1 x2 x3 x4 x5 x6) K = (g8_20 N S27 (fun y0 => K .ret (e220 y0)) (fun y0 y1 y2 y3 y4 => K (.exit 0) (e221 y0 y1 y2 y3 y4)) x0 x1 x2 x3 x4 x5 x6) := by
 simp only [c8_20, exec_out, exec_loop, kp8_2, lt8_20 S27 h27, kp8_8, kp8_9]
 rfl
theorem kp8_10 (x0) : keep [1, 2, 3, 4, 5, 6] (e220 x0) = (e220 x0) := by kernel_rfl
theorem kp8_11 (x0 x1 x2 x3 x4) : keep [1, 2, 3, 4, 5, 6] (e221 x0 x1 x2 x3 x4) = (e221 x0 x1 x2 x3 x4) := by kernel_rfl
def g8_27 (S21 : V10 → V10 → Option (Bool)) (S27 : Int → Int → Int → Int → Option V13) (S29 : Int → Int → Int → Int → Option V13) (S31 : V10 → Int → Option (Bool)) (S32 : V12 → Option V11) (k0 : Bool → Option R) (x0 : V0) (x1 x2 x3 : Int) (x4 : V12) : Option R :=
if 0 ≤ (3 : Int) ∧ (3 : Int) < ((4 : Nat) : Int) then
(getP U3 [.ix (3 : Int).toNat] x0).bind fun z => (cast? U0 z).bind fun v1076 =>
let v1079 : Int := (IntKind.i64.wrap ((if x3 < x2 then x3 else x2) + (1 : Int)))
if v1079 = 0 then none else
let v1080 : Int := (Int.tmod (IntKind.i64.wrap v1076) v1079)
(S27 x1 x2 x3 v1080).bind fun r1081 =>
(S27 x1 x3 x2 v1080).bind fun r1082 =>
(S29 x1 x2 x3 v1080).bind fun r1083 =>
(S32 x4).bind fun r1084 =>
(S31 r1084 (1 : Int)).bind fun r1085 =>
brB r1085 (brB (r1081.2 == (0 : Int)) (brB (r1082.2 == (0 : Int)) ((S21 r1081.1 r1082.1).bind fun r1088 =>
brB r1088 (brB (r1083.2 == (0 : Int)) (if 0 ≤ v1080 ∧ v1080 ≤ (x4.length : Int) ∧ (x4.length : Int) ≤ (x4.length : Int) ∧ (x4.length : Int) ≤ (x4.length : Int) then
(S32 ((x4.drop v1080.toNat).take ((x4.length : Int).toNat - v1080.toNat))).bind fun r1091 =>
(S21 r1083.1 r1091).bind fun r1092 =>
k0 r1092
else none) (k0 false)) (k0 false)) (k0 false)) (k0 false)) (k0 false)
else none
theorem t8_27 (S21) (S27) (S29) (S31) (S32) (h21 : (ctr21 S21).holds cl) (h27 : (ctr27 S27).holds cl) (h29 : (ctr29 S29).holds cl) (h31 : (ctr31 S31).holds cl) (h32 : (ctr32 S32).holds cl) (x0 x1 x2 x3 x4) : exec cl N c8_27 (e221 x0 x1 x2 x3 x4) K = (g8_27 S21 S27 S29 S31 S32 (fun y0 => exec cl N .ret [(2, .v .bool y0)] K) x0 x1 x2 x3 x4) := by
 rw [← put_eq h21]
 rw [← put_eq h27]
 rw [← put_eq h29]
 rw [← put_eq h31]
 rw [← put_eq h32]
 kernel_rfl
def g8_29 (N : Nat) (S11 : Option (Bool)) (S21 : V10 → V10 → Option (Bool)) (S27 : Int → Int → Int → Int → Option V13) (S29 : Int → Int → Int → Int → Option V13) (S31 : V10 → Int → Option (Bool)) (S32 : V12 → Option V11) (k0 : Bool → Option R) (k1 : Bool → Option R) (k2 : Bool → Option R) (x0 : V0) : Option R :=
(g8_0 (g8_1 S11 (fun y0 y1 => brB y1 (g8_2 k0 y0 y1) ((g8_28 (g8_7 (g8_20 N S27 k1 ((g8_27 S21 S27 S29 S31 S32 k2))))) y0))) x0)
theorem t8_29 (S11) (S21) (S27) (S29) (S31) (S32) (h11 : (ctr11 S11).holds cl) (h21 : (ctr21 S21).holds cl) (h27 : (ctr27 S27).holds cl) (h29 : (ctr29 S29).holds cl) (h31 : (ctr31 S31).holds cl) (h32 : (ctr32 S32).holds cl) (x0) : exec cl N c8_29 [(0, .v U3 x0)] K = (g8_29 N S11 S21 S27 S29 S31 S32 (fun y0 => K .ret (e144 y0)) (fun y0 => K .ret (e220 y0)) (fun y0 => K .ret [(2, .v .bool y0)]) x0) := by
 simp only [c8_29, exec_seq, seqK_normal, seqK_exit, seqK_ret, t8_0, t8_1 S11 h11, c8_3, exec_out, exec_cond', hb8_0, Option.bind_some, brB_true, brB_false, t8_2, exec_ret, exec_skip, kp8_0, kp8_1, t8_28, t8_7, c8_21, exec_block, t8_20 S27 h27, blockK_normal, blockK_ret, blockK_eq, kp8_10, kp8_11, t8_27 S21 S27 S29 S31 S32 h21 h27 h29 h31 h32]
 rfl
theorem rk8_0 (y0) : retK d8 .ret (e144 y0) = some [.v .bool y0] := by kernel_rfl
theorem rk8_1 (y0) : retK d8 .ret (e220 y0) = some [.v .bool y0] := by kernel_rfl
theorem rk8_2 (y0) : retK d8 .ret [(2, .v .bool y0)] = some [.v .bool y0] := by kernel_rfl
def g8 (N : Nat) (S11 : Option (Bool)) (S21 : V10 → V10 → Option (Bool)) (S27 : Int → Int → Int → Int → Option V13) (S29 : Int → Int → Int → Int → Option V13) (S31 : V10 → Int → Option (Bool)) (S32 : V12 → Option V11) (x0 : V0) (k : Bool → Option R) : Option R :=
(g8_29 N S11 S21 S27 S29 S31 S32 k k k x0)
theorem gen8 (S11) (S21) (S27) (S29) (S31) (S32) (h11 : (ctr11 S11).holds cl) (h21 : (ctr21 S21).holds cl) (h27 : (ctr27 S27).holds cl) (h29 : (ctr29 S29).holds cl) (h31 : (ctr31 S31).holds cl) (h32 : (ctr32 S32).holds cl) (x0) (k : List E → Option R) : exec cl N c8 [(0, .v U3 x0)] (fun e env => (retK d8 e env).bind k) = g8 N S11 S21 S27 S29 S31 S32 x0 (fun r0 => k [.v .bool r0]) := by
 simp only [c8, t8_29 S11 S21 S27 S29 S31 S32 h11 h21 h27 h29 h31 h32, rk8_0, rk8_1, rk8_2, Option.bind_some]
 rfl
def ctr8 (S : V0 → Option (Bool)) : Ctr := cv1 8 U3 S fun b => [.v .bool b]
def S8 (N : Nat) (x0 : V0) : Option (Bool) := g8 N (S11 N) (S21 N) (S27 N) (S29 N) (S31 N) (S32 N) x0 (fun (r0 : Bool) => some (r0))
end Go.Fw.L51
