/- Printed by an own program for this claim: the machine's code of functions, or their typed forms with their equations; no conditions. -/
import Derived.Test.YtnobiophckdjfaaFwMt51b
import Derived.Test.YtnobiophckdjfaaFwB4
set_option linter.unusedVariables false
set_option linter.unusedSimpArgs false
namespace Go.Fw.L51
open Go Go.Fw
set_option maxRecDepth 100000
set_option linter.unusedVariables false
set_option linter.unusedSimpArgs false
variable {N : Nat} {cl : Cal} {R : Type} {K : KE R}
def g80_12 (S53 : Int → Option V6) (k0 : Int → V4 → V4 → V4 → Option R) (x0 : V4) (x1 : Int) : Option R :=
(S53 (1 : Int)).bind fun r956 =>
k0 x1 x0 ([], ()) r956
theorem t80_12 (S53) (h53 : (ctr53 S53).holds cl) (x0 x1) : exec cl N c80_12 [(0, .v U4 x0), (1, .v U1 x1)] K = (g80_12 S53 (fun y0 y1 y2 y3 => exec cl N (.seq (.seq c80_2 c80_10) (.seq c80_11 .ret)) (e196 y0 y1 y2 y3) K) x0 x1) := by
 rw [← put_eq h53]
 kernel_rfl
def g80_2 (k0 : Int → V4 → V4 → V4 → Int → Option R) (x0 : Int) (x1 x2 x3 : V4) : Option R :=
k0 x0 x1 x2 x3 (0 : Int)
theorem t80_2 (x0 x1 x2 x3) : exec cl N c80_2 (e196 x0 x1 x2 x3) K = (g80_2 (fun y0 y1 y2 y3 y4 => K .normal (e197 y0 y1 y2 y3 y4)) x0 x1 x2 x3) := by
 kernel_rfl
theorem kp80_0 (x0 x1 x2 x3 x4) : keep [1, 2, 4, 5, 6] (e197 x0 x1 x2 x3 x4) = (e197 x0 x1 x2 x3 x4) := by kernel_rfl
def g80_3 (k0 : Int → V4 → V4 → V4 → Int → Bool → Option R) (x0 : Int) (x1 x2 x3 : V4) (x4 : Int) : Option R :=
k0 x0 x1 x2 x3 x4 (decide (x4 < x0))
theorem t80_3 (x0 x1 x2 x3 x4) : exec cl N c80_3 (e197 x0 x1 x2 x3 x4) K = (g80_3 (fun y0 y1 y2 y3 y4 y5 => K .normal (e198 y0 y1 y2 y3 y4 y5)) x0 x1 x2 x3 x4) := by
 kernel_rfl
theorem kp80_1 (x0 x1 x2 x3 x4 x5) : keep [1, 2, 4, 5, 6] (e198 x0 x1 x2 x3 x4 x5) = (e197 x0 x1 x2 x3 x4) := by kernel_rfl
theorem hb80_0 (x0 x1 x2 x3 x4 x5) : boolOf? (ent (e198 x0 x1 x2 x3 x4 x5) (.t 10)) = some x5 := by kernel_rfl
def g80_5 (S58 : V4 → V4 → Option V9) (k0 : Int → V4 → V4 → V4 → Int → Option R) (x0 : Int) (x1 x2 x3 : V4) (x4 : Int) : Option R :=
(S58 x3 x1).bind fun r958 =>
k0 x0 x1 x2 r958.1 x4
theorem t80_5 (S58) (h58 : (ctr58 S58).holds cl) (x0 x1 x2 x3 x4) : exec cl N c80_5 (e197 x0 x1 x2 x3 x4) K = (g80_5 S58 (fun y0 y1 y2 y3 y4 => K .normal (e197 y0 y1 y2 y3 y4)) x0 x1 x2 x3 x4) := by
 rw [← put_eq h58]
 kernel_rfl
def g80_7 (k0 : Int → V4 → V4 → V4 → Int → Option R) (x0 : Int) (x1 x2 x3 : V4) (x4 : Int) : Option R :=
k0 x0 x1 x2 x3 (IntKind.i64.wrap (x4 + (1 : Int)))
theorem t80_7 (x0 x1 x2 x3 x4) : exec cl N c80_7 (e197 x0 x1 x2 x3 x4) K = (g80_7 (fun y0 y1 y2 y3 y4 => K .normal (e197 y0 y1 y2 y3 y4)) x0 x1 x2 x3 x4) := by
 kernel_rfl
def g80_8 (S58 : V4 → V4 → Option V9) (k0 : Int → V4 → V4 → V4 → Int → Option R) (k1 : Int → V4 → V4 → V4 → Int → Option R) (x0 : Int) (x1 x2 x3 : V4) (x4 : Int) : Option R :=
(g80_3 (fun y0 y1 y2 y3 y4 y5 => brB y5 ((g80_5 S58 ((g80_7 k0))) y0 y1 y2 y3 y4) (k1 y0 y1 y2 y3 y4)) x0 x1 x2 x3 x4)
theorem t80_8 (S58) (h58 : (ctr58 S58).holds cl) (x0 x1 x2 x3 x4) : exec cl N c80_8 (e197 x0 x1 x2 x3 x4) K = (g80_8 S58 (fun y0 y1 y2 y3 y4 => K .normal (e197 y0 y1 y2 y3 y4)) (fun y0 y1 y2 y3 y4 => K (.exit 0) (e197 y0 y1 y2 y3 y4)) x0 x1 x2 x3 x4) := by
 simp only [c80_8, exec_seq, seqK_normal, seqK_exit, seqK_ret, t80_3, c80_4, exec_out, exec_cond', hb80_0, Option.bind_some, brB_true, brB_false, exec_skip, exec_exit, kp80_1, c80_6, exec_block, t80_5 S58 h58, blockK_normal, blockK_ret, blockK_eq, kp80_0, t80_7]
 rfl
def l80_9 {R : Type} (S58 : V4 → V4 → Option V9) (k0 : Int → V4 → V4 → V4 → Int → Option R) : Nat → Int → V4 → V4 → V4 → Int → Option R
 | 0, _, _, _, _, _ => none
 | m + 1, x0, x1, x2, x3, x4 => (g80_8 S58 (l80_9 S58 k0 m) k0 x0 x1 x2 x3 x4)
theorem lt80_9 (S58) (h58 : (ctr58 S58).holds cl) : ∀ (m) (x0 x1 x2 x3 x4), iter [1, 2, 4, 5, 6] (fun env K => exec cl N c80_8 env K) K m (e197 x0 x1 x2 x3 x4) = l80_9 S58 (fun y0 y1 y2 y3 y4 => K (.exit 0) (e197 y0 y1 y2 y3 y4)) m x0 x1 x2 x3 x4 := by
 intro m
 induction m with
 | zero => intros; rfl
 | succ m ih =>
   intro x0 x1 x2 x3 x4
   simp only [iter_succ, t80_8 S58 h58, loopK_normal, loopK_exit, loopK_ret, kp80_0, ih]
   rfl
theorem kp80_2 (x0 x1 x2 x3 x4) : keep [4, 5] (e197 x0 x1 x2 x3 x4) = (e106 x2 x3) := by kernel_rfl
def g80_9 (N : Nat) (S58 : V4 → V4 → Option V9) (k0 : V4 → V4 → Option R) (x0 : Int) (x1 x2 x3 : V4) (x4 : Int) : Option R :=
l80_9 S58 (fun y0 y1 y2 y3 y4 => k0 y2 y3) N x0 x1 x2 x3 x4
theorem t80_9 (S58) (h58 : (ctr58 S58).holds cl) (x0 x1 x2 x3 x4) : exec cl N c80_9 (e197 x0 x1 x2 x3 x4) K = (g80_9 N S58 (fun y0 y1 => K (.exit 0) (e106 y0 y1)) x0 x1 x2 x3 x4) := by
 simp only [c80_9, exec_out, exec_loop, kp80_0, lt80_9 S58 h58, kp80_2]
 rfl
theorem kp80_3 (x0 x1) : keep [4, 5] (e106 x0 x1) = (e106 x0 x1) := by kernel_rfl
def g80_11 (k0 : V4 → Option R) (x0 x1 : V4) : Option R :=
k0 x1
theorem t80_11 (x0 x1) : exec cl N c80_11 (e106 x0 x1) K = (g80_11 (fun y0 => K .normal [(4, .loc U4 .no y0)]) x0 x1) := by
 kernel_rfl
def g80_12b (N : Nat) (S53 : Int → Option V6) (S58 : V4 → V4 → Option V9) (k0 : V4 → Option R) (x0 : V4) (x1 : Int) : Option R :=
(g80_12 S53 (g80_2 (g80_9 N S58 ((g80_11 k0)))) x0 x1)
theorem t80_12b (S53) (S58) (h53 : (ctr53 S53).holds cl) (h58 : (ctr58 S58).holds cl) (x0 x1) : exec cl N c80_12 [(0, .v U4 x0), (1, .v U1 x1)] K = (g80_12b N S53 S58 (fun y0 => K .ret [(4, .loc U4 .no y0)]) x0 x1) := by
 simp only [exec_seq, seqK_normal, seqK_exit, seqK_ret, t80_12 S53 h53, t80_2, c80_10, exec_out, exec_block, t80_9 S58 h58, blockK_normal, blockK_ret, blockK_eq, kp80_3, t80_11, exec_ret]
 rfl
theorem rk80_0 (y0) : retK d80 .ret [(4, .loc U4 .no y0)] = some [.v U4 y0] := by kernel_rfl
def g80 (N : Nat) (S53 : Int → Option V6) (S58 : V4 → V4 → Option V9) (x0 : V4) (x1 : Int) (k : V4 → Option R) : Option R :=
(g80_12b N S53 S58 k x0 x1)
theorem gen80 (S53) (S58) (h53 : (ctr53 S53).holds cl) (h58 : (ctr58 S58).holds cl) (x0 x1) (k : List E → Option R) : exec cl N c80 [(0, .v U4 x0), (1, .v U1 x1)] (fun e env => (retK d80 e env).bind k) = g80 N S53 S58 x0 x1 (fun r0 => k [.v U4 r0]) := by
 simp only [c80, t80_12b S53 S58 h53 h58, rk80_0, Option.bind_some]
 rfl
def ctr80 (S : V4 → Int → Option V6) : Ctr := cv2 80 U4 U1 S fun b => [.v U4 b]
def S80 (N : Nat) (x0 : V4) (x1 : Int) : Option V6 := g80 N (S53 N) (S58 N) x0 x1 (fun (r0 : V4) => some (r0))
def g71_6 (S58 : V4 → V4 → Option V9) (S61 : V4 → V4 → Option V9) (S80 : V4 → Int → Option V6) (S93 : Int → Int → Option V9) (k0 : V4 → Option R) (x0 x1 : Int) (x2 : V14) : Option R :=
(S61 x2.2.2.1 x2.2.1).bind fun r990 =>
(S93 x0 x1).bind fun r991 =>
(S80 x2.2.1 x1).bind fun r992 =>
(S58 r991.1 r992).bind fun r993 =>
(S80 r990.1 (IntKind.i64.wrap (x0 - x1))).bind fun r995 =>
(S58 r993.1 r995).bind fun r996 =>
k0 r996.1
theorem t71_6 (S58) (S61) (S80) (S93) (h58 : (ctr58 S58).holds cl) (h61 : (ctr61 S61).holds cl) (h80 : (ctr80 S80).holds cl) (h93 : (ctr93 S93).holds cl) (x0 x1 x2) : exec cl N c71_6 (e122 x0 x1 x2) K = (g71_6 S58 S61 S80 S93 (fun y0 => exec cl N .ret [(6, .loc U4 .no y0)] K) x0 x1 x2) := by
 rw [← put_eq h58]
 rw [← put_eq h61]
 rw [← put_eq h80]
 rw [← put_eq h93]
 kernel_rfl
def g71_6b (S58 : V4 → V4 → Option V9) (S61 : V4 → V4 → Option V9) (S80 : V4 → Int → Option V6) (S93 : Int → Int → Option V9) (k0 : V4 → Option R) (x0 x1 : Int) (x2 : V14) : Option R :=
(g71_6 S58 S61 S80 S93 k0 x0 x1 x2)
theorem t71_6b (S58) (S61) (S80) (S93) (h58 : (ctr58 S58).holds cl) (h61 : (ctr61 S61).holds cl) (h80 : (ctr80 S80).holds cl) (h93 : (ctr93 S93).holds cl) (x0 x1 x2) : exec cl N c71_6 (e122 x0 x1 x2) K = (g71_6b S58 S61 S80 S93 (fun y0 => K .ret [(6, .loc U4 .no y0)]) x0 x1 x2) := by
 simp only [exec_seq, seqK_normal, seqK_exit, seqK_ret, t71_6 S58 S61 S80 S93 h58 h61 h80 h93, exec_ret]
 rfl
theorem rk71_0 (y0) : retK d71 .ret [(6, .loc U4 .no y0)] = some [.v U4 y0] := by kernel_rfl
def g71 (S58 : V4 → V4 → Option V9) (S61 : V4 → V4 → Option V9) (S80 : V4 → Int → Option V6) (S93 : Int → Int → Option V9) (x0 x1 : Int) (x2 : V14) (k : V4 → Option R) : Option R :=
(g71_6b S58 S61 S80 S93 k x0 x1 x2)
theorem gen71 (S58) (S61) (S80) (S93) (h58 : (ctr58 S58).holds cl) (h61 : (ctr61 S61).holds cl) (h80 : (ctr80 S80).holds cl) (h93 : (ctr93 S93).holds cl) (x0 x1 x2) (k : List E → Option R) : exec cl N c71 (e122 x0 x1 x2) (fun e env => (retK d71 e env).bind k) = g71 S58 S61 S80 S93 x0 x1 x2 (fun r0 => k [.v U4 r0]) := by
 simp only [c71, t71_6b S58 S61 S80 S93 h58 h61 h80 h93, rk71_0, Option.bind_some]
 rfl
def ctr71 (S : Int → Int → V14 → Option V6) : Ctr := cv3 71 U1 U1 U10 S fun b => [.v U4 b]
def S71 (N : Nat) (x0 : Int) (x1 : Int) (x2 : V14) : Option V6 := g71 (S58 N) (S61 N) (S80 N) (S93 N) x0 x1 x2 (fun (r0 : V4) => some (r0))
def g59_0 (k0 : V4 → V4 → V4 → Option R) (x0 x1 : V4) : Option R :=
k0 x0 x1 ([], ())
theorem t59_0 (x0 x1) : exec cl N c59_0 (e52 x0 x1) K = (g59_0 (fun y0 y1 y2 => K .normal (e53 y0 y1 y2)) x0 x1) := by
 kernel_rfl
def g59_1 (S86 : V4 → Option (Bool)) (k0 : V4 → V4 → V4 → Bool → Option R) (x0 x1 x2 : V4) : Option R :=
(S86 x0).bind fun r1002 =>
brB (!r1002) (k0 x0 x1 x2 true) ((S86 x1).bind fun r1003 =>
k0 x0 x1 x2 (!r1003))
theorem t59_1 (S86) (h86 : (ctr86 S86).holds cl) (x0 x1 x2) : exec cl N c59_1 (e53 x0 x1 x2) K = (g59_1 S86 (fun y0 y1 y2 y3 => K .normal (e102 y0 y1 y2 y3)) x0 x1 x2) := by
 rw [← put_eq h86]
 kernel_rfl
def g59_2 (k0 : V4 → Int → Option R) (x0 x1 x2 : V4) (x3 : Bool) : Option R :=
k0 ([], ()) (1 : Int)
theorem t59_2 (x0 x1 x2 x3) : exec cl N c59_2 (e102 x0 x1 x2 x3) K = (g59_2 (fun y0 y1 => K .normal (e55 y0 y1)) x0 x1 x2 x3) := by
 kernel_rfl
theorem kp59_0 (x0 x1) : keep [2, 3, 4, 5] (e55 x0 x1) = (e56 x0 x1) := by kernel_rfl
theorem kp59_1 (x0 x1 x2 x3) : keep [2, 3, 4, 5] (e102 x0 x1 x2 x3) = (e57 x0 x1 x2) := by kernel_rfl
theorem hb59_0 (x0 x1 x2 x3) : boolOf? (ent (e102 x0 x1 x2 x3) (.t 13)) = some x3 := by kernel_rfl
def g59_4 (S87 : V0 → Option V9) (S89 : V0 → V0 → Option V1) (k0 : V4 → Int → Option R) (x0 x1 x2 : V4) : Option R :=
(S89 x0.1 x1.1).bind fun r1004 =>
(S87 r1004).bind fun r1005 =>
k0 r1005.1 r1005.2
theorem t59_4 (S87) (S89) (h87 : (ctr87 S87).holds cl) (h89 : (ctr89 S89).holds cl) (x0 x1 x2) : exec cl N c59_4 (e57 x0 x1 x2) K = (g59_4 S87 S89 (fun y0 y1 => K .normal (e61 y0 y1)) x0 x1 x2) := by
 rw [← put_eq h87]
 rw [← put_eq h89]
 kernel_rfl
def g59_5 (S86 : V4 → Option (Bool)) (S87 : V0 → Option V9) (S89 : V0 → V0 → Option V1) (k0 : V4 → Int → Option R) (k1 : V4 → Int → Option R) (x0 x1 : V4) : Option R :=
(g59_0 (g59_1 S86 (fun y0 y1 y2 y3 => brB y3 (g59_2 k0 y0 y1 y2 y3) ((g59_4 S87 S89 k1) y0 y1 y2))) x0 x1)
theorem t59_5 (S86) (S87) (S89) (h86 : (ctr86 S86).holds cl) (h87 : (ctr87 S87).holds cl) (h89 : (ctr89 S89).holds cl) (x0 x1) : exec cl N c59_5 (e52 x0 x1) K = (g59_5 S86 S87 S89 (fun y0 y1 => K .ret (e56 y0 y1)) (fun y0 y1 => K .ret (e61 y0 y1)) x0 x1) := by
 simp only [c59_5, exec_seq, seqK_normal, seqK_exit, seqK_ret, t59_0, t59_1 S86 h86, c59_3, exec_out, exec_cond', hb59_0, Option.bind_some, brB_true, brB_false, t59_2, exec_ret, exec_skip, kp59_0, kp59_1, t59_4 S87 S89 h87 h89]
 rfl
theorem rk59_0 (y0 y1) : retK d59 .ret (e56 y0 y1) = some [.v U4 y0, .v U1 y1] := by kernel_rfl
theorem rk59_1 (y0 y1) : retK d59 .ret (e61 y0 y1) = some [.v U4 y0, .v U1 y1] := by kernel_rfl
def g59 (S86 : V4 → Option (Bool)) (S87 : V0 → Option V9) (S89 : V0 → V0 → Option V1) (x0 x1 : V4) (k : V4 → Int → Option R) : Option R :=
(g59_5 S86 S87 S89 k k x0 x1)
theorem gen59 (S86) (S87) (S89) (h86 : (ctr86 S86).holds cl) (h87 : (ctr87 S87).holds cl) (h89 : (ctr89 S89).holds cl) (x0 x1) (k : List E → Option R) : exec cl N c59 (e52 x0 x1) (fun e env => (retK d59 e env).bind k) = g59 S86 S87 S89 x0 x1 (fun r0 r1 => k [.v U4 r0, .v U1 r1]) := by
 simp only [c59, t59_5 S86 S87 S89 h86 h87 h89, rk59_0, rk59_1, Option.bind_some]
 rfl
def ctr59 (S : V4 → V4 → Option V9) : Ctr := cv2 59 U4 U4 S fun b => [.v U4 b.1, .v U1 b.2]
def S59 (N : Nat) (x0 : V4) (x1 : V4) : Option V9 := g59 (S86 N) (S87 N) (S89 N) x0 x1 (fun (r0 : V4) (r1 : Int) => some (r0, r1))
def g72_0 (k0 : V4 → V4 → V14 → Option R) (x0 x1 : V4) : Option R :=
k0 x0 x1 (false, (([], ()), (([], ()), ())))
theorem t72_0 (x0 x1) : exec cl N c72_0 (e52 x0 x1) K = (g72_0 (fun y0 y1 y2 => K .normal (e116 y0 y1 y2)) x0 x1) := by
 kernel_rfl
def g72_1 (S86 : V4 → Option (Bool)) (k0 : V4 → V4 → V14 → Bool → Option R) (x0 x1 : V4) (x2 : V14) : Option R :=
(S86 x0).bind fun r1015 =>
brB (!r1015) (k0 x0 x1 x2 true) ((S86 x1).bind fun r1016 =>
k0 x0 x1 x2 (!r1016))
theorem t72_1 (S86) (h86 : (ctr86 S86).holds cl) (x0 x1 x2) : exec cl N c72_1 (e116 x0 x1 x2) K = (g72_1 S86 (fun y0 y1 y2 y3 => K .normal (e117 y0 y1 y2 y3)) x0 x1 x2) := by
 rw [← put_eq h86]
 kernel_rfl
def g72_2 (k0 : V14 → Int → Option R) (x0 x1 : V4) (x2 : V14) (x3 : Bool) : Option R :=
k0 (false, ([], ()), ([], ()), ()) (1 : Int)
theorem t72_2 (x0 x1 x2 x3) : exec cl N c72_2 (e117 x0 x1 x2 x3) K = (g72_2 (fun y0 y1 => K .normal (e118 y0 y1)) x0 x1 x2 x3) := by
 kernel_rfl
theorem kp72_0 (x0 x1) : keep [2, 3, 4, 5] (e118 x0 x1) = (e119 x0 x1) := by kernel_rfl
theorem kp72_1 (x0 x1 x2 x3) : keep [2, 3, 4, 5] (e117 x0 x1 x2 x3) = (e120 x0 x1 x2) := by kernel_rfl
theorem hb72_0 (x0 x1 x2 x3) : boolOf? (ent (e117 x0 x1 x2 x3) (.t 13)) = some x3 := by kernel_rfl
def g72_4 (S56 : V4 → Option (Bool)) (k0 : V4 → V4 → V14 → Bool → Option R) (x0 x1 : V4) (x2 : V14) : Option R :=
(S56 x1).bind fun r1018 =>
k0 x0 x1 x2 r1018
theorem t72_4 (S56) (h56 : (ctr56 S56).holds cl) (x0 x1 x2) : exec cl N c72_4 (e120 x0 x1 x2) K = (g72_4 S56 (fun y0 y1 y2 y3 => K .normal (e121 y0 y1 y2 y3)) x0 x1 x2) := by
 rw [← put_eq h56]
 kernel_rfl
def g72_5 (k0 : V14 → Int → Option R) (x0 x1 : V4) (x2 : V14) (x3 : Bool) : Option R :=
k0 (false, ([], ()), ([], ()), ()) (6 : Int)
theorem t72_5 (x0 x1 x2 x3) : exec cl N c72_5 (e121 x0 x1 x2 x3) K = (g72_5 (fun y0 y1 => K .normal (e118 y0 y1)) x0 x1 x2 x3) := by
 kernel_rfl
theorem kp72_2 (x0 x1 x2 x3) : keep [2, 3, 4, 5] (e121 x0 x1 x2 x3) = (e120 x0 x1 x2) := by kernel_rfl
theorem hb72_1 (x0 x1 x2 x3) : boolOf? (ent (e121 x0 x1 x2 x3) (.t 16)) = some x3 := by kernel_rfl
def g72_7 (S52 : Bool → V4 → V4 → Option V15) (k0 : V14 → Int → Option R) (x0 x1 : V4) (x2 : V14) : Option R :=
(S52 false x0 x1).bind fun r1020 =>
k0 r1020 (0 : Int)
theorem t72_7 (S52) (h52 : (ctr52 S52).holds cl) (x0 x1 x2) : exec cl N c72_7 (e120 x0 x1 x2) K = (g72_7 S52 (fun y0 y1 => K .normal (e118 y0 y1)) x0 x1 x2) := by
 rw [← put_eq h52]
 kernel_rfl
def g72_8 (S52 : Bool → V4 → V4 → Option V15) (S56 : V4 → Option (Bool)) (S86 : V4 → Option (Bool)) (k0 : V14 → Int → Option R) (k1 : V14 → Int → Option R) (x0 x1 : V4) : Option R :=
(g72_0 (g72_1 S86 (fun y0 y1 y2 y3 => brB y3 (g72_2 k0 y0 y1 y2 y3) ((g72_4 S56 (fun y0 y1 y2 y3 => brB y3 (g72_5 k0 y0 y1 y2 y3) ((g72_7 S52 k1) y0 y1 y2))) y0 y1 y2))) x0 x1)
theorem t72_8 (S52) (S56) (S86) (h52 : (ctr52 S52).holds cl) (h56 : (ctr56 S56).holds cl) (h86 : (ctr86 S86).holds cl) (x0 x1) : exec cl N c72_8 (e52 x0 x1) K = (g72_8 S52 S56 S86 (fun y0 y1 => K .ret (e119 y0 y1)) (fun y0 y1 => K .ret (e118 y0 y1)) x0 x1) := by
 simp only [c72_8, exec_seq, seqK_normal, seqK_exit, seqK_ret, t72_0, t72_1 S86 h86, c72_3, exec_out, exec_cond', hb72_0, Option.bind_some, brB_true, brB_false, t72_2, exec_ret, exec_skip, kp72_0, kp72_1, t72_4 S56 h56, c72_6, hb72_1, t72_5, kp72_2, t72_7 S52 h52]
 rfl
theorem rk72_0 (y0 y1) : retK d72 .ret (e119 y0 y1) = some [.v U10 y0, .v U1 y1] := by kernel_rfl
theorem rk72_1 (y0 y1) : retK d72 .ret (e118 y0 y1) = some [.v U10 y0, .v U1 y1] := by kernel_rfl
def g72 (S52 : Bool → V4 → V4 → Option V15) (S56 : V4 → Option (Bool)) (S86 : V4 → Option (Bool)) (x0 x1 : V4) (k : V14 → Int → Option R) : Option R :=
(g72_8 S52 S56 S86 k k x0 x1)
theorem gen72 (S52) (S56) (S86) (h52 : (ctr52 S52).holds cl) (h56 : (ctr56 S56).holds cl) (h86 : (ctr86 S86).holds cl) (x0 x1) (k : List E → Option R) : exec cl N c72 (e52 x0 x1) (fun e env => (retK d72 e env).bind k) = g72 S52 S56 S86 x0 x1 (fun r0 r1 => k [.v U10 r0, .v U1 r1]) := by
 simp only [c72, t72_8 S52 S56 S86 h52 h56 h86, rk72_0, rk72_1, Option.bind_some]
 rfl
def ctr72 (S : V4 → V4 → Option V17) : Ctr := cv2 72 U4 U4 S fun b => [.v U10 b.1, .v U1 b.2]
def S72 (N : Nat) (x0 : V4) (x1 : V4) : Option V17 := g72 (S52 N) (S56 N) (S86 N) x0 x1 (fun (r0 : V14) (r1 : Int) => some (r0, r1))
def g48_14 (S53 : Int → Option V6) (k0 : Int → Int → Int → V14 → V14 → V4 → Option R) (x0 x1 x2 : Int) (x3 : V14) : Option R :=
(S53 (0 : Int)).bind fun r1024 =>
k0 x0 x1 x2 x3 (false, (([], ()), (([], ()), ()))) r1024
theorem t48_14 (S53) (h53 : (ctr53 S53).holds cl) (x0 x1 x2 x3) : exec cl N c48_14 (e199 x0 x1 x2 x3) K = (g48_14 S53 (fun y0 y1 y2 y3 y4 y5 => exec cl N (.seq (.seq c48_2 c48_10) c48_13) (e200 y0 y1 y2 y3 y4 y5) K) x0 x1 x2 x3) := by
 rw [← put_eq h53]
 kernel_rfl
def g48_2 (k0 : Int → Int → V14 → V14 → V4 → Int → Option R) (x0 x1 x2 : Int) (x3 x4 : V14) (x5 : V4) : Option R :=
k0 x0 x2 x3 x4 x5 x1
theorem t48_2 (x0 x1 x2 x3 x4 x5) : exec cl N c48_2 (e200 x0 x1 x2 x3 x4 x5) K = (g48_2 (fun y0 y1 y2 y3 y4 y5 => K .normal (e201 y0 y1 y2 y3 y4 y5)) x0 x1 x2 x3 x4 x5) := by
 kernel_rfl
theorem kp48_0 (x0 x1 x2 x3 x4 x5) : keep [0, 2, 7, 8, 9, 10] (e201 x0 x1 x2 x3 x4 x5) = (e201 x0 x1 x2 x3 x4 x5) := by kernel_rfl
def g48_3 (k0 : Int → Int → V14 → V14 → V4 → Int → Bool → Option R) (x0 x1 : Int) (x2 x3 : V14) (x4 : V4) (x5 : Int) : Option R :=
k0 x0 x1 x2 x3 x4 x5 (decide (x5 ≤ x1))
theorem t48_3 (x0 x1 x2 x3 x4 x5) : exec cl N c48_3 (e201 x0 x1 x2 x3 x4 x5) K = (g48_3 (fun y0 y1 y2 y3 y4 y5 y6 => K .normal (e202 y0 y1 y2 y3 y4 y5 y6)) x0 x1 x2 x3 x4 x5) := by
 kernel_rfl
theorem kp48_1 (x0 x1 x2 x3 x4 x5 x6) : keep [0, 2, 7, 8, 9, 10] (e202 x0 x1 x2 x3 x4 x5 x6) = (e201 x0 x1 x2 x3 x4 x5) := by kernel_rfl
theorem hb48_0 (x0 x1 x2 x3 x4 x5 x6) : boolOf? (ent (e202 x0 x1 x2 x3 x4 x5 x6) (.t 17)) = some x6 := by kernel_rfl
def g48_5 (S59 : V4 → V4 → Option V9) (S71 : Int → Int → V14 → Option V6) (k0 : Int → Int → V14 → V14 → V4 → Int → Option R) (x0 x1 : Int) (x2 x3 : V14) (x4 : V4) (x5 : Int) : Option R :=
(S71 x0 x5 x2).bind fun r1026 =>
(S59 x4 r1026).bind fun r1027 =>
k0 x0 x1 x2 x3 r1027.1 x5
theorem t48_5 (S59) (S71) (h59 : (ctr59 S59).holds cl) (h71 : (ctr71 S71).holds cl) (x0 x1 x2 x3 x4 x5) : exec cl N c48_5 (e201 x0 x1 x2 x3 x4 x5) K = (g48_5 S59 S71 (fun y0 y1 y2 y3 y4 y5 => K .normal (e201 y0 y1 y2 y3 y4 y5)) x0 x1 x2 x3 x4 x5) := by
 rw [← put_eq h59]
 rw [← put_eq h71]
 kernel_rfl
def g48_7 (k0 : Int → Int → V14 → V14 → V4 → Int → Option R) (x0 x1 : Int) (x2 x3 : V14) (x4 : V4) (x5 : Int) : Option R :=
k0 x0 x1 x2 x3 x4 (IntKind.i64.wrap (x5 + (1 : Int)))
theorem t48_7 (x0 x1 x2 x3 x4 x5) : exec cl N c48_7 (e201 x0 x1 x2 x3 x4 x5) K = (g48_7 (fun y0 y1 y2 y3 y4 y5 => K .normal (e201 y0 y1 y2 y3 y4 y5)) x0 x1 x2 x3 x4 x5) := by
 kernel_rfl
def g48_8 (S59 : V4 → V4 → Option V9) (S71 : Int → Int → V14 → Option V6) (k0 : Int → Int → V14 → V14 → V4 → Int → Option R) (k1 : Int → Int → V14 → V14 → V4 → Int → Option R) (x0 x1 : Int) (x2 x3 : V14) (x4 : V4) (x5 : Int) : Option R :=
(g48_3 (fun y0 y1 y2 y3 y4 y5 y6 => brB y6 ((g48_5 S59 S71 ((g48_7 k0))) y0 y1 y2 y3 y4 y5) (k1 y0 y1 y2 y3 y4 y5)) x0 x1 x2 x3 x4 x5)
theorem t48_8 (S59) (S71) (h59 : (ctr59 S59).holds cl) (h71 : (ctr71 S71).holds cl) (x0 x1 x2 x3 x4 x5) : exec cl N c48_8 (e201 x0 x1 x2 x3 x4 x5) K = (g48_8 S59 S71 (fun y0 y1 y2 y3 y4 y5 => K .normal (e201 y0 y1 y2 y3 y4 y5)) (fun y0 y1 y2 y3 y4 y5 => K (.exit 0) (e201 y0 y1 y2 y3 y4 y5)) x0 x1 x2 x3 x4 x5) := by
 simp only [c48_8, exec_seq, seqK_normal, seqK_exit, seqK_ret, t48_3, c48_4, exec_out, exec_cond', hb48_0, Option.bind_some, brB_true, brB_false, exec_skip, exec_exit, kp48_1, c48_6, exec_block, t48_5 S59 S71 h59 h71, blockK_normal, blockK_ret, blockK_eq, kp48_0, t48_7]
 rfl
def l48_9 {R : Type} (S59 : V4 → V4 → Option V9) (S71 : Int → Int → V14 → Option V6) (k0 : Int → Int → V14 → V14 → V4 → Int → Option R) : Nat → Int → Int → V14 → V14 → V4 → Int → Option R
 | 0, _, _, _, _, _, _ => none
 | m + 1, x0, x1, x2, x3, x4, x5 => (g48_8 S59 S71 (l48_9 S59 S71 k0 m) k0 x0 x1 x2 x3 x4 x5)
theorem lt48_9 (S59) (S71) (h59 : (ctr59 S59).holds cl) (h71 : (ctr71 S71).holds cl) : ∀ (m) (x0 x1 x2 x3 x4 x5), iter [0, 2, 7, 8, 9, 10] (fun env K => exec cl N c48_8 env K) K m (e201 x0 x1 x2 x3 x4 x5) = l48_9 S59 S71 (fun y0 y1 y2 y3 y4 y5 => K (.exit 0) (e201 y0 y1 y2 y3 y4 y5)) m x0 x1 x2 x3 x4 x5 := by
 intro m
 induction m with
 | zero => intros; rfl
 | succ m ih =>
   intro x0 x1 x2 x3 x4 x5
   simp only [iter_succ, t48_8 S59 S71 h59 h71, loopK_normal, loopK_exit, loopK_ret, kp48_0, ih]
   rfl
theorem kp48_2 (x0 x1 x2 x3 x4 x5) : keep [0, 7, 8, 9] (e201 x0 x1 x2 x3 x4 x5) = (e203 x0 x2 x3 x4) := by kernel_rfl
def g48_9 (N : Nat) (S59 : V4 → V4 → Option V9) (S71 : Int → Int → V14 → Option V6) (k0 : Int → V14 → V14 → V4 → Option R) (x0 x1 : Int) (x2 x3 : V14) (x4 : V4) (x5 : Int) : Option R :=
l48_9 S59 S71 (fun y0 y1 y2 y3 y4 y5 => k0 y0 y2 y3 y4) N x0 x1 x2 x3 x4 x5
theorem t48_9 (S59) (S71) (h59 : (ctr59 S59).holds cl) (h71 : (ctr71 S71).holds cl) (x0 x1 x2 x3 x4 x5) : exec cl N c48_9 (e201 x0 x1 x2 x3 x4 x5) K = (g48_9 N S59 S71 (fun y0 y1 y2 y3 => K (.exit 0) (e203 y0 y1 y2 y3)) x0 x1 x2 x3 x4 x5) := by
 simp only [c48_9, exec_out, exec_loop, kp48_0, lt48_9 S59 S71 h59 h71, kp48_2]
 rfl
theorem kp48_3 (x0 x1 x2 x3) : keep [0, 7, 8, 9] (e203 x0 x1 x2 x3) = (e203 x0 x1 x2 x3) := by kernel_rfl
def g48_13 (S72 : V4 → V4 → Option V17) (S80 : V4 → Int → Option V6) (k0 : V14 → Option R) (x0 : Int) (x1 x2 : V14) (x3 : V4) : Option R :=
(S80 x1.2.2.1 x0).bind fun r1031 =>
(S72 x3 r1031).bind fun r1032 =>
k0 r1032.1
theorem t48_13 (S72) (S80) (h72 : (ctr72 S72).holds cl) (h80 : (ctr80 S80).holds cl) (x0 x1 x2 x3) : exec cl N c48_13 (e203 x0 x1 x2 x3) K = (g48_13 S72 S80 (fun y0 => exec cl N .ret [(8, .loc U10 .no y0)] K) x0 x1 x2 x3) := by
 rw [← put_eq h72]
 rw [← put_eq h80]
 kernel_rfl
def g48_14b (N : Nat) (S53 : Int → Option V6) (S59 : V4 → V4 → Option V9) (S71 : Int → Int → V14 → Option V6) (S72 : V4 → V4 → Option V17) (S80 : V4 → Int → Option V6) (k0 : V14 → Option R) (x0 x1 x2 : Int) (x3 : V14) : Option R :=
(g48_14 S53 (g48_2 (g48_9 N S59 S71 ((g48_13 S72 S80 k0)))) x0 x1 x2 x3)
theorem t48_14b (S53) (S59) (S71) (S72) (S80) (h53 : (ctr53 S53).holds cl) (h59 : (ctr59 S59).holds cl) (h71 : (ctr71 S71).holds cl) (h72 : (ctr72 S72).holds cl) (h80 : (ctr80 S80).holds cl) (x0 x1 x2 x3) : exec cl N c48_14 (e199 x0 x1 x2 x3) K = (g48_14b N S53 S59 S71 S72 S80 (fun y0 => K .ret [(8, .loc U10 .no y0)]) x0 x1 x2 x3) := by
 simp only [exec_seq, seqK_normal, seqK_exit, seqK_ret, t48_14 S53 h53, t48_2, c48_10, exec_out, exec_block, t48_9 S59 S71 h59 h71, blockK_normal, blockK_ret, blockK_eq, kp48_3, t48_13 S72 S80 h72 h80, exec_ret]
 rfl
theorem rk48_0 (y0) : retK d48 .ret [(8, .loc U10 .no y0)] = some [.v U10 y0] := by kernel_rfl
def g48 (N : Nat) (S53 : Int → Option V6) (S59 : V4 → V4 → Option V9) (S71 : Int → Int → V14 → Option V6) (S72 : V4 → V4 → Option V17) (S80 : V4 → Int → Option V6) (x0 x1 x2 : Int) (x3 : V14) (k : V14 → Option R) : Option R :=
(g48_14b N S53 S59 S71 S72 S80 k x0 x1 x2 x3)
theorem gen48 (S53) (S59) (S71) (S72) (S80) (h53 : (ctr53 S53).holds cl) (h59 : (ctr59 S59).holds cl) (h71 : (ctr71 S71).holds cl) (h72 : (ctr72 S72).holds cl) (h80 : (ctr80 S80).holds cl) (x0 x1 x2 x3) (k : List E → Option R) : exec cl N c48 (e199 x0 x1 x2 x3) (fun e env => (retK d48 e env).bind k) = g48 N S53 S59 S71 S72 S80 x0 x1 x2 x3 (fun r0 => k [.v U10 r0]) := by
 simp only [c48, t48_14b S53 S59 S71 S72 S80 h53 h59 h71 h72 h80, rk48_0, Option.bind_some]
 rfl
def ctr48 (S : Int → Int → Int → V14 → Option V15) : Ctr := cv4 48 U1 U1 U1 U10 S fun b => [.v U10 b]
def S48 (N : Nat) (x0 : Int) (x1 : Int) (x2 : Int) (x3 : V14) : Option V15 := g48 N (S53 N) (S59 N) (S71 N) (S72 N) (S80 N) x0 x1 x2 x3 (fun (r0 : V14) => some (r0))
def g18_0 (k0 : Int → Int → V14 → V14 → Option R) (x0 x1 : Int) (x2 : V14) : Option R :=
k0 x0 x1 x2 (false, (([], ()), (([], ()), ())))
theorem t18_0 (x0 x1 x2) : exec cl N c18_0 (e122 x0 x1 x2) K = (g18_0 (fun y0 y1 y2 y3 => K .normal (e204 y0 y1 y2 y3)) x0 x1 x2) := by
 kernel_rfl
def g18_5 (S47 : V14 → Int → Int → Int → Int → Option (Int)) (k0 : Int → Int → V14 → V14 → Int → Bool → Option R) (x0 x1 : Int) (x2 x3 : V14) : Option R :=
(S47 x2 x0 (200 : Int) x1 x0).bind fun r1035 =>
k0 x0 x1 x2 x3 r1035 (r1035 != (0 : Int))
theorem t18_5 (S47) (h47 : (ctr47 S47).holds cl) (x0 x1 x2 x3) : exec cl N c18_5 (e204 x0 x1 x2 x3) K = (g18_5 S47 (fun y0 y1 y2 y3 y4 y5 => exec cl N c18_4 (e205 y0 y1 y2 y3 y4 y5) K) x0 x1 x2 x3) := by
 rw [← put_eq h47]
 kernel_rfl
def g18_3 (k0 : V14 → Int → Option R) (x0 x1 : Int) (x2 x3 : V14) (x4 : Int) (x5 : Bool) : Option R :=
k0 (false, ([], ()), ([], ()), ()) x4
theorem t18_3 (x0 x1 x2 x3 x4 x5) : exec cl N c18_3 (e205 x0 x1 x2 x3 x4 x5) K = (g18_3 (fun y0 y1 => K .normal (e125 y0 y1)) x0 x1 x2 x3 x4 x5) := by
 kernel_rfl
theorem kp18_0 (x0 x1) : keep [0, 1, 5, 6, 7] (e125 x0 x1) = (e206 x0 x1) := by kernel_rfl
theorem kp18_1 (x0 x1 x2 x3 x4 x5) : keep [0, 1, 5, 6, 7] (e205 x0 x1 x2 x3 x4 x5) = (e207 x0 x1 x2 x3) := by kernel_rfl
theorem hb18_0 (x0 x1 x2 x3 x4 x5) : boolOf? (ent (e205 x0 x1 x2 x3 x4 x5) (.t 15)) = some x5 := by kernel_rfl
def g18_6 (S48 : Int → Int → Int → V14 → Option V15) (k0 : V14 → Int → Option R) (x0 x1 : Int) (x2 x3 : V14) : Option R :=
(S48 x0 x1 x1 x2).bind fun r1038 =>
k0 r1038 (0 : Int)
theorem t18_6 (S48) (h48 : (ctr48 S48).holds cl) (x0 x1 x2 x3) : exec cl N c18_6 (e207 x0 x1 x2 x3) K = (g18_6 S48 (fun y0 y1 => K .normal (e125 y0 y1)) x0 x1 x2 x3) := by
 rw [← put_eq h48]
 kernel_rfl
def g18_7 (S47 : V14 → Int → Int → Int → Int → Option (Int)) (S48 : Int → Int → Int → V14 → Option V15) (k0 : V14 → Int → Option R) (k1 : V14 → Int → Option R) (x0 x1 : Int) (x2 : V14) : Option R :=
(g18_0 (g18_5 S47 (fun y0 y1 y2 y3 y4 y5 => brB y5 (g18_3 k0 y0 y1 y2 y3 y4 y5) ((g18_6 S48 k1) y0 y1 y2 y3))) x0 x1 x2)
theorem t18_7 (S47) (S48) (h47 : (ctr47 S47).holds cl) (h48 : (ctr48 S48).holds cl) (x0 x1 x2) : exec cl N c18_7 (e122 x0 x1 x2) K = (g18_7 S47 S48 (fun y0 y1 => K .ret (e206 y0 y1)) (fun y0 y1 => K .ret (e125 y0 y1)) x0 x1 x2) := by
 simp only [c18_7, exec_seq, seqK_normal, seqK_exit, seqK_ret, t18_0, t18_5 S47 h47, c18_4, exec_out, exec_cond', hb18_0, Option.bind_some, brB_true, brB_false, t18_3, exec_ret, exec_skip, kp18_0, kp18_1, t18_6 S48 h48]
 rfl
theorem rk18_0 (y0 y1) : retK d18 .ret (e206 y0 y1) = some [.v U10 y0, .v U1 y1] := by kernel_rfl
theorem rk18_1 (y0 y1) : retK d18 .ret (e125 y0 y1) = some [.v U10 y0, .v U1 y1] := by kernel_rfl
def g18 (S47 : V14 → Int → Int → Int → Int → Option (Int)) (S48 : Int → Int → Int → V14 → Option V15) (x0 x1 : Int) (x2 : V14) (k : V14 → Int → Option R) : Option R :=
(g18_7 S47 S48 k k x0 x1 x2)
theorem gen18 (S47) (S48) (h47 : (ctr47 S47).holds cl) (h48 : (ctr48 S48).holds cl) (x0 x1 x2) (k : List E → Option R) : exec cl N c18 (e122 x0 x1 x2) (fun e env => (retK d18 e env).bind k) = g18 S47 S48 x0 x1 x2 (fun r0 r1 => k [.v U10 r0, .v U1 r1]) := by
 simp only [c18, t18_7 S47 S48 h47 h48, rk18_0, rk18_1, Option.bind_some]
 rfl
def ctr18 (S : Int → Int → V14 → Option V17) : Ctr := cv3 18 U1 U1 U10 S fun b => [.v U10 b.1, .v U1 b.2]
def S18 (N : Nat) (x0 : Int) (x1 : Int) (x2 : V14) : Option V17 := g18 (S47 N) (S48 N) x0 x1 x2 (fun (r0 : V14) (r1 : Int) => some (r0, r1))
def g107_0 (k0 : V0 → V0 → Option R) (x0 x1 : V0) : Option R :=
k0 x0 x1
theorem t107_0 (x0 x1) : exec cl N c107_0 (e17 x0 x1) K = (g107_0 (fun y0 y1 => K .normal (e17 y0 y1)) x0 x1) := by
 kernel_rfl
def g107_1 (k0 : V0 → V0 → Bool → Option R) (x0 x1 : V0) : Option R :=
k0 x0 x1 (decide ((x0.length : Int) < (x1.length : Int)))
theorem t107_1 (x0 x1) : exec cl N c107_1 (e17 x0 x1) K = (g107_1 (fun y0 y1 y2 => K .normal (e208 y0 y1 y2)) x0 x1) := by
 kernel_rfl
def g107_2 (k0 : V0 → V0 → Option R) (x0 x1 : V0) (x2 : Bool) : Option R :=
k0 x1 x0
theorem t107_2 (x0 x1 x2) : exec cl N c107_2 (e208 x0 x1 x2) K = (g107_2 (fun y0 y1 => K .normal (e17 y0 y1)) x0 x1 x2) := by
 kernel_rfl
theorem kp107_0 (x0 x1) : keep [0, 1] (e17 x0 x1) = (e17 x0 x1) := by kernel_rfl
theorem kp107_1 (x0 x1 x2) : keep [0, 1] (e208 x0 x1 x2) = (e17 x0 x1) := by kernel_rfl
theorem hb107_0 (x0 x1 x2) : boolOf? (ent (e208 x0 x1 x2) (.t 13)) = some x2 := by kernel_rfl
def g107_4 (k0 : V0 → V0 → Option R) (x0 x1 : V0) : Option R :=
(g107_1 (fun y0 y1 y2 => brB y2 (g107_2 k0 y0 y1 y2) (k0 y0 y1)) x0 x1)
theorem t107_4 (x0 x1) : exec cl N c107_4 (e17 x0 x1) K = (g107_4 (fun y0 y1 => K .normal (e17 y0 y1)) x0 x1) := by
 simp only [c107_4, exec_seq, seqK_normal, seqK_exit, seqK_ret, t107_1, c107_3, exec_out, exec_cond', hb107_0, Option.bind_some, brB_true, brB_false, t107_2, exec_skip, kp107_0, kp107_1]
 rfl
def g107_30 (k0 : V0 → V0 → V0 → Int → Option R) (x0 x1 : V0) : Option R :=
let v1064 : Int := (IntKind.i64.wrap ((x0.length : Int) + (1 : Int)))
if 0 ≤ (0 : Int) ∧ (0 : Int) ≤ v1064 ∧ v1064 ≤ ((17592186044416 : Nat) : Int) then
k0 x0 x1 (List.replicate (0 : Int).toNat (0 : Int)) (0 : Int)
else none
theorem t107_30 (x0 x1) : exec cl N c107_30 (e17 x0 x1) K = (g107_30 (fun y0 y1 y2 y3 => exec cl N (.seq (.seq c107_7 c107_24) (.seq c107_28 (.seq c107_29 .ret))) (e142 y0 y1 y2 y3) K) x0 x1) := by
 kernel_rfl
def g107_7 (k0 : V0 → V0 → Int → V0 → Int → Int → Option R) (x0 x1 x2 : V0) (x3 : Int) : Option R :=
k0 x1 x2 x3 x0 (x0.length : Int) (0 : Int)
theorem t107_7 (x0 x1 x2 x3) : exec cl N c107_7 (e142 x0 x1 x2 x3) K = (g107_7 (fun y0 y1 y2 y3 y4 y5 => K .normal (e209 y0 y1 y2 y3 y4 y5)) x0 x1 x2 x3) := by
 kernel_rfl
theorem kp107_2 (x0 x1 x2 x3 x4 x5) : keep [1, 5, 6, 20, 21, 22] (e209 x0 x1 x2 x3 x4 x5) = (e209 x0 x1 x2 x3 x4 x5) := by kernel_rfl
def g107_8 (k0 : V0 → V0 → Int → V0 → Int → Int → Bool → Option R) (x0 x1 : V0) (x2 : Int) (x3 : V0) (x4 x5 : Int) : Option R :=
k0 x0 x1 x2 x3 x4 x5 (decide (x5 < x4))
theorem t107_8 (x0 x1 x2 x3 x4 x5) : exec cl N c107_8 (e209 x0 x1 x2 x3 x4 x5) K = (g107_8 (fun y0 y1 y2 y3 y4 y5 y6 => K .normal (e210 y0 y1 y2 y3 y4 y5 y6)) x0 x1 x2 x3 x4 x5) := by
 kernel_rfl
theorem kp107_3 (x0 x1 x2 x3 x4 x5 x6) : keep [1, 5, 6, 20, 21, 22] (e210 x0 x1 x2 x3 x4 x5 x6) = (e209 x0 x1 x2 x3 x4 x5) := by kernel_rfl
theorem hb107_1 (x0 x1 x2 x3 x4 x5 x6) : boolOf? (ent (e210 x0 x1 x2 x3 x4 x5 x6) (.t 23)) = some x6 := by kernel_rfl
def g107_19 (k0 : V0 → V0 → Int → Int → V0 → Int → Int → Option R) (x0 x1 : V0) (x2 : Int) (x3 : V0) (x4 x5 : Int) : Option R :=
if 0 ≤ x5 ∧ x5 < (x3.length : Int) then
k0 x0 x1 (IntKind.i64.wrap (x2 + (x3.getD x5.toNat (0 : Int)))) x5 x3 x4 x5
else none
theorem t107_19 (x0 x1 x2 x3 x4 x5) : exec cl N c107_19 (e209 x0 x1 x2 x3 x4 x5) K = (g107_19 (fun y0 y1 y2 y3 y4 y5 y6 => exec cl N (.seq c107_15 c107_18) (e211 y0 y1 y2 y3 y4 y5 y6) K) x0 x1 x2 x3 x4 x5) := by
 kernel_rfl
def g107_12 (k0 : V0 → V0 → Int → Int → V0 → Int → Int → Bool → Option R) (x0 x1 : V0) (x2 x3 : Int) (x4 : V0) (x5 x6 : Int) : Option R :=
k0 x0 x1 x2 x3 x4 x5 x6 (decide (x3 < (x0.length : Int)))
theorem t107_12 (x0 x1 x2 x3 x4 x5 x6) : exec cl N c107_12 (e211 x0 x1 x2 x3 x4 x5 x6) K = (g107_12 (fun y0 y1 y2 y3 y4 y5 y6 y7 => K .normal (e212 y0 y1 y2 y3 y4 y5 y6 y7)) x0 x1 x2 x3 x4 x5 x6) := by
 kernel_rfl
def g107_13 (k0 : V0 → V0 → Int → V0 → Int → Int → Option R) (x0 x1 : V0) (x2 x3 : Int) (x4 : V0) (x5 x6 : Int) (x7 : Bool) : Option R :=
if 0 ≤ x3 ∧ x3 < (x0.length : Int) then
k0 x0 x1 (IntKind.i64.wrap (x2 + (x0.getD x3.toNat (0 : Int)))) x4 x5 x6
else none
theorem t107_13 (x0 x1 x2 x3 x4 x5 x6 x7) : exec cl N c107_13 (e212 x0 x1 x2 x3 x4 x5 x6 x7) K = (g107_13 (fun y0 y1 y2 y3 y4 y5 => K .normal (e209 y0 y1 y2 y3 y4 y5)) x0 x1 x2 x3 x4 x5 x6 x7) := by
 kernel_rfl
theorem kp107_4 (x0 x1 x2 x3 x4 x5 x6 x7) : keep [1, 5, 6, 20, 21, 22] (e212 x0 x1 x2 x3 x4 x5 x6 x7) = (e209 x0 x1 x2 x4 x5 x6) := by kernel_rfl
theorem hb107_2 (x0 x1 x2 x3 x4 x5 x6 x7) : boolOf? (ent (e212 x0 x1 x2 x3 x4 x5 x6 x7) (.t 33)) = some x7 := by kernel_rfl
def g107_15 (k0 : V0 → V0 → Int → V0 → Int → Int → Option R) (x0 x1 : V0) (x2 x3 : Int) (x4 : V0) (x5 x6 : Int) : Option R :=
(g107_12 (fun y0 y1 y2 y3 y4 y5 y6 y7 => brB y7 (g107_13 k0 y0 y1 y2 y3 y4 y5 y6 y7) (k0 y0 y1 y2 y4 y5 y6)) x0 x1 x2 x3 x4 x5 x6)
theorem t107_15 (x0 x1 x2 x3 x4 x5 x6) : exec cl N c107_15 (e211 x0 x1 x2 x3 x4 x5 x6) K = (g107_15 (fun y0 y1 y2 y3 y4 y5 => K .normal (e209 y0 y1 y2 y3 y4 y5)) x0 x1 x2 x3 x4 x5 x6) := by
 simp only [c107_15, exec_seq, seqK_normal, seqK_exit, seqK_ret, t107_12, c107_14, exec_out, exec_cond', hb107_2, Option.bind_some, brB_true, brB_false, t107_13, exec_skip, kp107_2, kp107_4]
 rfl
def g107_18 (k0 : V0 → V0 → Int → V0 → Int → Int → Option R) (x0 x1 : V0) (x2 : Int) (x3 : V0) (x4 x5 : Int) : Option R :=
let v1070 : Int := (Int.tmod x2 (10000 : Int))
if x1.length + [v1070].length ≤ 17592186044416 then
k0 x0 (x1 ++ [v1070]) (IntKind.i64.wrap (Int.tdiv x2 (10000 : Int))) x3 x4 x5
else none
theorem t107_18 (x0 x1 x2 x3 x4 x5) : exec cl N c107_18 (e209 x0 x1 x2 x3 x4 x5) K = (g107_18 (fun y0 y1 y2 y3 y4 y5 => K .normal (e209 y0 y1 y2 y3 y4 y5)) x0 x1 x2 x3 x4 x5) := by
 kernel_rfl
def g107_21 (k0 : V0 → V0 → Int → V0 → Int → Int → Option R) (x0 x1 : V0) (x2 : Int) (x3 : V0) (x4 x5 : Int) : Option R :=
k0 x0 x1 x2 x3 x4 (IntKind.i64.wrap (x5 + (1 : Int)))
theorem t107_21 (x0 x1 x2 x3 x4 x5) : exec cl N c107_21 (e209 x0 x1 x2 x3 x4 x5) K = (g107_21 (fun y0 y1 y2 y3 y4 y5 => K .normal (e209 y0 y1 y2 y3 y4 y5)) x0 x1 x2 x3 x4 x5) := by
 kernel_rfl
def g107_22 (k0 : V0 → V0 → Int → V0 → Int → Int → Option R) (k1 : V0 → V0 → Int → V0 → Int → Int → Option R) (x0 x1 : V0) (x2 : Int) (x3 : V0) (x4 x5 : Int) : Option R :=
(g107_8 (fun y0 y1 y2 y3 y4 y5 y6 => brB y6 ((g107_19 (g107_15 (g107_18 ((g107_21 k0))))) y0 y1 y2 y3 y4 y5) (k1 y0 y1 y2 y3 y4 y5)) x0 x1 x2 x3 x4 x5)
theorem t107_22 (x0 x1 x2 x3 x4 x5) : exec cl N c107_22 (e209 x0 x1 x2 x3 x4 x5) K = (g107_22 (fun y0 y1 y2 y3 y4 y5 => K .normal (e209 y0 y1 y2 y3 y4 y5)) (fun y0 y1 y2 y3 y4 y5 => K (.exit 0) (e209 y0 y1 y2 y3 y4 y5)) x0 x1 x2 x3 x4 x5) := by
 simp only [c107_22, exec_seq, seqK_normal, seqK_exit, seqK_ret, t107_8, c107_9, exec_out, exec_cond', hb107_1, Option.bind_some, brB_true, brB_false, exec_skip, exec_exit, kp107_3, c107_20, exec_block, t107_19, t107_15, t107_18, blockK_normal, blockK_ret, blockK_eq, kp107_2, t107_21]
 rfl
def l107_23 {R : Type} (k0 : V0 → V0 → Int → V0 → Int → Int → Option R) : Nat → V0 → V0 → Int → V0 → Int → Int → Option R
 | 0, _, _, _, _, _, _ => none
 | m + 1, x0, x1, x2, x3, x4, x5 => (g107_22 (l107_23 k0 m) k0 x0 x1 x2 x3 x4 x5)
theorem lt107_23 : ∀ (m) (x0 x1 x2 x3 x4 x5), iter [1, 5, 6, 20, 21, 22] (fun env K => exec cl N c107_22 env K) K m (e209 x0 x1 x2 x3 x4 x5) = l107_23 (fun y0 y1 y2 y3 y4 y5 => K (.exit 0) (e209 y0 y1 y2 y3 y4 y5)) m x0 x1 x2 x3 x4 x5 := by
 intro m
 induction m with
 | zero => intros; rfl
 | succ m ih =>
   intro x0 x1 x2 x3 x4 x5
   simp only [iter_succ, t107_22, loopK_normal, loopK_exit, loopK_ret, kp107_2, ih]
   rfl
theorem kp107_5 (x0 x1 x2 x3 x4 x5) : keep [5, 6] (e209 x0 x1 x2 x3 x4 x5) = (e148 x1 x2) := by kernel_rfl
def g107_23 (N : Nat) (k0 : V0 → Int → Option R) (x0 x1 : V0) (x2 : Int) (x3 : V0) (x4 x5 : Int) : Option R :=
l107_23 (fun y0 y1 y2 y3 y4 y5 => k0 y1 y2) N x0 x1 x2 x3 x4 x5
theorem t107_23 (x0 x1 x2 x3 x4 x5) : exec cl N c107_23 (e209 x0 x1 x2 x3 x4 x5) K = (g107_23 N (fun y0 y1 => K (.exit 0) (e148 y0 y1)) x0 x1 x2 x3 x4 x5) := by
 simp only [c107_23, exec_out, exec_loop, kp107_2, lt107_23, kp107_5]
 rfl
theorem kp107_6 (x0 x1) : keep [5, 6] (e148 x0 x1) = (e148 x0 x1) := by kernel_rfl
def g107_25 (k0 : V0 → Int → Bool → Option R) (x0 : V0) (x1 : Int) : Option R :=
k0 x0 x1 (decide (x1 > (0 : Int)))
theorem t107_25 (x0 x1) : exec cl N c107_25 (e148 x0 x1) K = (g107_25 (fun y0 y1 y2 => K .normal (e213 y0 y1 y2)) x0 x1) := by
 kernel_rfl
def g107_26 (k0 : V0 → Option R) (x0 : V0) (x1 : Int) (x2 : Bool) : Option R :=
if x0.length + [x1].length ≤ 17592186044416 then
k0 (x0 ++ [x1])
else none
theorem t107_26 (x0 x1 x2) : exec cl N c107_26 (e213 x0 x1 x2) K = (g107_26 (fun y0 => K .normal (e25 y0)) x0 x1 x2) := by
 kernel_rfl
theorem kp107_7 (x0) : keep [5] (e25 x0) = (e25 x0) := by kernel_rfl
theorem kp107_8 (x0 x1 x2) : keep [5] (e213 x0 x1 x2) = (e25 x0) := by kernel_rfl
theorem hb107_3 (x0 x1 x2) : boolOf? (ent (e213 x0 x1 x2) (.t 49)) = some x2 := by kernel_rfl
def g107_28 (k0 : V0 → Option R) (x0 : V0) (x1 : Int) : Option R :=
(g107_25 (fun y0 y1 y2 => brB y2 (g107_26 k0 y0 y1 y2) (k0 y0)) x0 x1)
theorem t107_28 (x0 x1) : exec cl N c107_28 (e148 x0 x1) K = (g107_28 (fun y0 => K .normal (e25 y0)) x0 x1) := by
 simp only [c107_28, exec_seq, seqK_normal, seqK_exit, seqK_ret, t107_25, c107_27, exec_out, exec_cond', hb107_3, Option.bind_some, brB_true, brB_false, t107_26, exec_skip, kp107_7, kp107_8]
 rfl
def g107_29 (k0 : V0 → Option R) (x0 : V0) : Option R :=
k0 x0
theorem t107_29 (x0) : exec cl N c107_29 (e25 x0) K = (g107_29 (fun y0 => K .normal (e214 y0)) x0) := by
 kernel_rfl
def g107_31 (N : Nat) (k0 : V0 → Option R) (x0 x1 : V0) : Option R :=
(g107_0 (g107_4 (g107_30 (g107_7 (g107_23 N ((g107_28 (g107_29 k0))))))) x0 x1)
theorem t107_31 (x0 x1) : exec cl N c107_31 (e17 x0 x1) K = (g107_31 N (fun y0 => K .ret (e214 y0)) x0 x1) := by
 simp only [c107_31, exec_seq, seqK_normal, seqK_exit, seqK_ret, t107_0, t107_4, t107_30, t107_7, c107_24, exec_out, exec_block, t107_23, blockK_normal, blockK_ret, blockK_eq, kp107_6, t107_28, t107_29, exec_ret]
 rfl
theorem rk107_0 (y0) : retK d107 .ret (e214 y0) = some [.own true 3 U1 .no y0] := by kernel_rfl
def g107 (N : Nat) (x0 x1 : V0) (k : V0 → Option R) : Option R :=
(g107_31 N k x0 x1)
theorem gen107 (x0 x1) (k : List E → Option R) : exec cl N c107 (e17 x0 x1) (fun e env => (retK d107 e env).bind k) = g107 N x0 x1 (fun r0 => k [.own true 3 U1 .no r0]) := by
 simp only [c107, t107_31, rk107_0, Option.bind_some]
 rfl
def ctr107 (S : V0 → V0 → Option V1) : Ctr := cv2 107 U2 U2 S fun b => [.own true 3 U1 .no b]
def S107 (N : Nat) (x0 : V0) (x1 : V0) : Option V1 := g107 N x0 x1 (fun (r0 : V0) => some (r0))
def g82_0 (k0 : V4 → V4 → V4 → Option R) (x0 x1 : V4) : Option R :=
k0 x0 x1 ([], ())
theorem t82_0 (x0 x1) : exec cl N c82_0 (e52 x0 x1) K = (g82_0 (fun y0 y1 y2 => K .normal (e53 y0 y1 y2)) x0 x1) := by
 kernel_rfl
def g82_1 (S75 : V4 → Option (Bool)) (k0 : V4 → V4 → V4 → Bool → Option R) (x0 x1 x2 : V4) : Option R :=
(S75 x0).bind fun r1076 =>
brB (!r1076) (k0 x0 x1 x2 true) ((S75 x1).bind fun r1077 =>
k0 x0 x1 x2 (!r1077))
theorem t82_1 (S75) (h75 : (ctr75 S75).holds cl) (x0 x1 x2) : exec cl N c82_1 (e53 x0 x1 x2) K = (g82_1 S75 (fun y0 y1 y2 y3 => K .normal (e102 y0 y1 y2 y3)) x0 x1 x2) := by
 rw [← put_eq h75]
 kernel_rfl
def g82_2 (k0 : V4 → Int → Option R) (x0 x1 x2 : V4) (x3 : Bool) : Option R :=
k0 ([], ()) (1 : Int)
theorem t82_2 (x0 x1 x2 x3) : exec cl N c82_2 (e102 x0 x1 x2 x3) K = (g82_2 (fun y0 y1 => K .normal (e55 y0 y1)) x0 x1 x2 x3) := by
 kernel_rfl
theorem kp82_0 (x0 x1) : keep [2, 3, 4, 5] (e55 x0 x1) = (e56 x0 x1) := by kernel_rfl
theorem kp82_1 (x0 x1 x2 x3) : keep [2, 3, 4, 5] (e102 x0 x1 x2 x3) = (e57 x0 x1 x2) := by kernel_rfl
theorem hb82_0 (x0 x1 x2 x3) : boolOf? (ent (e102 x0 x1 x2 x3) (.t 13)) = some x3 := by kernel_rfl
def g82_4 (S106 : V0 → Option V9) (S107 : V0 → V0 → Option V1) (k0 : V4 → Int → Option R) (x0 x1 x2 : V4) : Option R :=
(S107 x0.1 x1.1).bind fun r1078 =>
(S106 r1078).bind fun r1079 =>
k0 r1079.1 r1079.2
theorem t82_4 (S106) (S107) (h106 : (ctr106 S106).holds cl) (h107 : (ctr107 S107).holds cl) (x0 x1 x2) : exec cl N c82_4 (e57 x0 x1 x2) K = (g82_4 S106 S107 (fun y0 y1 => K .normal (e61 y0 y1)) x0 x1 x2) := by
 rw [← put_eq h106]
 rw [← put_eq h107]
 kernel_rfl
def g82_5 (S75 : V4 → Option (Bool)) (S106 : V0 → Option V9) (S107 : V0 → V0 → Option V1) (k0 : V4 → Int → Option R) (k1 : V4 → Int → Option R) (x0 x1 : V4) : Option R :=
(g82_0 (g82_1 S75 (fun y0 y1 y2 y3 => brB y3 (g82_2 k0 y0 y1 y2 y3) ((g82_4 S106 S107 k1) y0 y1 y2))) x0 x1)
theorem t82_5 (S75) (S106) (S107) (h75 : (ctr75 S75).holds cl) (h106 : (ctr106 S106).holds cl) (h107 : (ctr107 S107).holds cl) (x0 x1) : exec cl N c82_5 (e52 x0 x1) K = (g82_5 S75 S106 S107 (fun y0 y1 => K .ret (e56 y0 y1)) (fun y0 y1 => K .ret (e61 y0 y1)) x0 x1) := by
 simp only [c82_5, exec_seq, seqK_normal, seqK_exit, seqK_ret, t82_0, t82_1 S75 h75, c82_3, exec_out, exec_cond', hb82_0, Option.bind_some, brB_true, brB_false, t82_2, exec_ret, exec_skip, kp82_0, kp82_1, t82_4 S106 S107 h106 h107]
 rfl
theorem rk82_0 (y0 y1) : retK d82 .ret (e56 y0 y1) = some [.v U4 y0, .v U1 y1] := by kernel_rfl
theorem rk82_1 (y0 y1) : retK d82 .ret (e61 y0 y1) = some [.v U4 y0, .v U1 y1] := by kernel_rfl
def g82 (S75 : V4 → Option (Bool)) (S106 : V0 → Option V9) (S107 : V0 → V0 → Option V1) (x0 x1 : V4) (k : V4 → Int → Option R) : Option R :=
(g82_5 S75 S106 S107 k k x0 x1)
theorem gen82 (S75) (S106) (S107) (h75 : (ctr75 S75).holds cl) (h106 : (ctr106 S106).holds cl) (h107 : (ctr107 S107).holds cl) (x0 x1) (k : List E → Option R) : exec cl N c82 (e52 x0 x1) (fun e env => (retK d82 e env).bind k) = g82 S75 S106 S107 x0 x1 (fun r0 r1 => k [.v U4 r0, .v U1 r1]) := by
 simp only [c82, t82_5 S75 S106 S107 h75 h106 h107, rk82_0, rk82_1, Option.bind_some]
 rfl
def ctr82 (S : V4 → V4 → Option V9) : Ctr := cv2 82 U4 U4 S fun b => [.v U4 b.1, .v U1 b.2]
def S82 (N : Nat) (x0 : V4) (x1 : V4) : Option V9 := g82 (S75 N) (S106 N) (S107 N) x0 x1 (fun (r0 : V4) (r1 : Int) => some (r0, r1))
def g50_3 (S82 : V4 → V4 → Option V9) (k0 : V4 → Option R) (x0 x1 : V4) : Option R :=
(S82 x0 x1).bind fun r1083 =>
k0 r1083.1
theorem t50_3 (S82) (h82 : (ctr82 S82).holds cl) (x0 x1) : exec cl N c50_3 (e52 x0 x1) K = (g50_3 S82 (fun y0 => exec cl N .ret [(4, .loc U4 .no y0)] K) x0 x1) := by
 rw [← put_eq h82]
 kernel_rfl
def g50_3b (S82 : V4 → V4 → Option V9) (k0 : V4 → Option R) (x0 x1 : V4) : Option R :=
(g50_3 S82 k0 x0 x1)
theorem t50_3b (S82) (h82 : (ctr82 S82).holds cl) (x0 x1) : exec cl N c50_3 (e52 x0 x1) K = (g50_3b S82 (fun y0 => K .ret [(4, .loc U4 .no y0)]) x0 x1) := by
 simp only [exec_seq, seqK_normal, seqK_exit, seqK_ret, t50_3 S82 h82, exec_ret]
 rfl
theorem rk50_0 (y0) : retK d50 .ret [(4, .loc U4 .no y0)] = some [.v U4 y0] := by kernel_rfl
def g50 (S82 : V4 → V4 → Option V9) (x0 x1 : V4) (k : V4 → Option R) : Option R :=
(g50_3b S82 k x0 x1)
theorem gen50 (S82) (h82 : (ctr82 S82).holds cl) (x0 x1) (k : List E → Option R) : exec cl N c50 (e52 x0 x1) (fun e env => (retK d50 e env).bind k) = g50 S82 x0 x1 (fun r0 => k [.v U4 r0]) := by
 simp only [c50, t50_3b S82 h82, rk50_0, Option.bind_some]
 rfl
def ctr50 (S : V4 → V4 → Option V6) : Ctr := cv2 50 U4 U4 S fun b => [.v U4 b]
def S50 (N : Nat) (x0 : V4) (x1 : V4) : Option V6 := g50 (S82 N) x0 x1 (fun (r0 : V4) => some (r0))
def g19_16 (S43 : Int → Int → Int → Int → V14 → Option V3) (k0 : Int → Int → V14 → Int → Int → Int → Option R) (x0 x1 : Int) (x2 : V14) : Option R :=
(S43 x0 x1 (200 : Int) x0 x2).bind fun r1088 =>
k0 x0 x1 (false, (([], ()), (([], ()), ()))) r1088.1 r1088.2.1 r1088.2.2
theorem t19_16 (S43) (h43 : (ctr43 S43).holds cl) (x0 x1 x2) : exec cl N c19_16 (e122 x0 x1 x2) K = (g19_16 S43 (fun y0 y1 y2 y3 y4 y5 => exec cl N (.seq (.seq c19_2 c19_4) (.seq c19_5 (.seq (.seq c19_6 c19_14) (.seq c19_15 .ret)))) (e123 y0 y1 y2 y3 y4 y5) K) x0 x1 x2) := by
 rw [← put_eq h43]
 kernel_rfl
def g19_2 (k0 : Int → Int → V14 → Int → Int → Int → Bool → Option R) (x0 x1 : Int) (x2 : V14) (x3 x4 x5 : Int) : Option R :=
k0 x0 x1 x2 x3 x4 x5 (x5 != (0 : Int))
theorem t19_2 (x0 x1 x2 x3 x4 x5) : exec cl N c19_2 (e123 x0 x1 x2 x3 x4 x5) K = (g19_2 (fun y0 y1 y2 y3 y4 y5 y6 => K .normal (e215 y0 y1 y2 y3 y4 y5 y6)) x0 x1 x2 x3 x4 x5) := by
 kernel_rfl
def g19_3 (k0 : V14 → Int → Option R) (x0 x1 : Int) (x2 : V14) (x3 x4 x5 : Int) (x6 : Bool) : Option R :=
k0 (false, ([], ()), ([], ()), ()) x5
theorem t19_3 (x0 x1 x2 x3 x4 x5 x6) : exec cl N c19_3 (e215 x0 x1 x2 x3 x4 x5 x6) K = (g19_3 (fun y0 y1 => K .normal (e125 y0 y1)) x0 x1 x2 x3 x4 x5 x6) := by
 kernel_rfl
theorem kp19_0 (x0 x1) : keep [0, 1, 6, 7, 8, 9] (e125 x0 x1) = (e126 x0 x1) := by kernel_rfl
theorem kp19_1 (x0 x1 x2 x3 x4 x5 x6) : keep [0, 1, 6, 7, 8, 9] (e215 x0 x1 x2 x3 x4 x5 x6) = (e127 x0 x1 x2 x3 x4) := by kernel_rfl
theorem hb19_0 (x0 x1 x2 x3 x4 x5 x6) : boolOf? (ent (e215 x0 x1 x2 x3 x4 x5 x6) (.t 23)) = some x6 := by kernel_rfl
def g19_5 (S49 : Int → Option V6) (k0 : Int → Int → V14 → Int → Int → V4 → Option R) (x0 x1 : Int) (x2 : V14) (x3 x4 : Int) : Option R :=
(S49 (0 : Int)).bind fun r1091 =>
k0 x0 x1 x2 x3 x4 r1091
theorem t19_5 (S49) (h49 : (ctr49 S49).holds cl) (x0 x1 x2 x3 x4) : exec cl N c19_5 (e127 x0 x1 x2 x3 x4) K = (g19_5 S49 (fun y0 y1 y2 y3 y4 y5 => K .normal (e216 y0 y1 y2 y3 y4 y5)) x0 x1 x2 x3 x4) := by
 rw [← put_eq h49]
 kernel_rfl
def g19_6 (k0 : Int → V14 → Int → Int → V4 → Int → Option R) (x0 x1 : Int) (x2 : V14) (x3 x4 : Int) (x5 : V4) : Option R :=
k0 x0 x2 x3 x4 x5 x1
theorem t19_6 (x0 x1 x2 x3 x4 x5) : exec cl N c19_6 (e216 x0 x1 x2 x3 x4 x5) K = (g19_6 (fun y0 y1 y2 y3 y4 y5 => K .normal (e217 y0 y1 y2 y3 y4 y5)) x0 x1 x2 x3 x4 x5) := by
 kernel_rfl
theorem kp19_2 (x0 x1 x2 x3 x4 x5) : keep [0, 6, 8, 9, 11, 12] (e217 x0 x1 x2 x3 x4 x5) = (e217 x0 x1 x2 x3 x4 x5) := by kernel_rfl
def g19_7 (k0 : Int → V14 → Int → Int → V4 → Int → Bool → Option R) (x0 : Int) (x1 : V14) (x2 x3 : Int) (x4 : V4) (x5 : Int) : Option R :=
k0 x0 x1 x2 x3 x4 x5 (decide (x5 ≤ x0))
theorem t19_7 (x0 x1 x2 x3 x4 x5) : exec cl N c19_7 (e217 x0 x1 x2 x3 x4 x5) K = (g19_7 (fun y0 y1 y2 y3 y4 y5 y6 => K .normal (e218 y0 y1 y2 y3 y4 y5 y6)) x0 x1 x2 x3 x4 x5) := by
 kernel_rfl
theorem kp19_3 (x0 x1 x2 x3 x4 x5 x6) : keep [0, 6, 8, 9, 11, 12] (e218 x0 x1 x2 x3 x4 x5 x6) = (e217 x0 x1 x2 x3 x4 x5) := by kernel_rfl
theorem hb19_1 (x0 x1 x2 x3 x4 x5 x6) : boolOf? (ent (e218 x0 x1 x2 x3 x4 x5 x6) (.t 30)) = some x6 := by kernel_rfl
def g19_9 (S45 : Int → Int → Int → Int → Option V6) (S50 : V4 → V4 → Option V6) (k0 : Int → V14 → Int → Int → V4 → Int → Option R) (x0 : Int) (x1 : V14) (x2 x3 : Int) (x4 : V4) (x5 : Int) : Option R :=
(S45 x0 x5 x2 x3).bind fun r1093 =>
(S50 x4 r1093).bind fun r1094 =>
k0 x0 x1 x2 x3 r1094 x5
theorem t19_9 (S45) (S50) (h45 : (ctr45 S45).holds cl) (h50 : (ctr50 S50).holds cl) (x0 x1 x2 x3 x4 x5) : exec cl N c19_9 (e217 x0 x1 x2 x3 x4 x5) K = (g19_9 S45 S50 (fun y0 y1 y2 y3 y4 y5 => K .normal (e217 y0 y1 y2 y3 y4 y5)) x0 x1 x2 x3 x4 x5) := by
 rw [← put_eq h45]
 rw [← put_eq h50]
 kernel_rfl
def g19_11 (k0 : Int → V14 → Int → Int → V4 → Int → Option R) (x0 : Int) (x1 : V14) (x2 x3 : Int) (x4 : V4) (x5 : Int) : Option R :=
k0 x0 x1 x2 x3 x4 (IntKind.i64.wrap (x5 + (1 : Int)))
theorem t19_11 (x0 x1 x2 x3 x4 x5) : exec cl N c19_11 (e217 x0 x1 x2 x3 x4 x5) K = (g19_11 (fun y0 y1 y2 y3 y4 y5 => K .normal (e217 y0 y1 y2 y3 y4 y5)) x0 x1 x2 x3 x4 x5) := by
 kernel_rfl
def g19_12 (S45 : Int → Int → Int → Int → Option V6) (S50 : V4 → V4 → Option V6) (k0 : Int → V14 → Int → Int → V4 → Int → Option R) (k1 : Int → V14 → Int → Int → V4 → Int → Option R) (x0 : Int) (x1 : V14) (x2 x3 : Int) (x4 : V4) (x5 : Int) : Option R :=
(g19_7 (fun y0 y1 y2 y3 y4 y5 y6 => brB y6 ((g19_9 S45 S50 ((g19_11 k0))) y0 y1 y2 y3 y4 y5) (k1 y0 y1 y2 y3 y4 y5)) x0 x1 x2 x3 x4 x5)
theorem t19_12 (S45) (S50) (h45 : (ctr45 S45).holds cl) (h50 : (ctr50 S50).holds cl) (x0 x1 x2 x3 x4 x5) : exec cl N c19_12 (e217 x0 x1 x2 x3 x4 x5) K = (g19_12 S45 S50 (fun y0 y1 y2 y3 y4 y5 => K .normal (e217 y0 y1 y2 y3 y4 y5)) (fun y0 y1 y2 y3 y4 y5 => K (.exit 0) (e217 y0 y1 y2 y3 y4 y5)) x0 x1 x2 x3 x4 x5) := by
 simp only [c19_12, exec_seq, seqK_normal, seqK_exit, seqK_ret, t19_7, c19_8, exec_out, exec_cond', hb19_1, Option.bind_some, brB_true, brB_false, exec_skip, exec_exit, kp19_3, c19_10, exec_block, t19_9 S45 S50 h45 h50, blockK_normal, blockK_ret, blockK_eq, kp19_2, t19_11]
 rfl
def l19_13 {R : Type} (S45 : Int → Int → Int → Int → Option V6) (S50 : V4 → V4 → Option V6) (k0 : Int → V14 → Int → Int → V4 → Int → Option R) : Nat → Int → V14 → Int → Int → V4 → Int → Option R
 | 0, _, _, _, _, _, _ => none
 | m + 1, x0, x1, x2, x3, x4, x5 => (g19_12 S45 S50 (l19_13 S45 S50 k0 m) k0 x0 x1 x2 x3 x4 x5)
theorem lt19_13 (S45) (S50) (h45 : (ctr45 S45).holds cl) (h50 : (ctr50 S50).holds cl) : ∀ (m) (x0 x1 x2 x3 x4 x5), iter [0, 6, 8, 9, 11, 12] (fun env K => exec cl N c19_12 env K) K m (e217 x0 x1 x2 x3 x4 x5) = l19_13 S45 S50 (fun y0 y1 y2 y3 y4 y5 => K (.exit 0) (e217 y0 y1 y2 y3 y4 y5)) m x0 x1 x2 x3 x4 x5 := by
 intro m
 induction m with
 | zero => intros; rfl
 | succ m ih =>
   intro x0 x1 x2 x3 x4 x5
   simp only [iter_succ, t19_12 S45 S50 h45 h50, loopK_normal, loopK_exit, loopK_ret, kp19_2, ih]
   rfl
theorem kp19_4 (x0 x1 x2 x3 x4 x5) : keep [0, 6, 9, 11] (e217 x0 x1 x2 x3 x4 x5) = (e219 x0 x1 x3 x4) := by kernel_rfl
def g19_13 (N : Nat) (S45 : Int → Int → Int → Int → Option V6) (S50 : V4 → V4 → Option V6) (k0 : Int → V14 → Int → V4 → Option R) (x0 : Int) (x1 : V14) (x2 x3 : Int) (x4 : V4) (x5 : Int) : Option R :=
l19_13 S45 S50 (fun y0 y1 y2 y3 y4 y5 => k0 y0 y1 y3 y4) N x0 x1 x2 x3 x4 x5
theorem t19_13 (S45) (S50) (h45 : (ctr45 S45).holds cl) (h50 : (ctr50 S50).holds cl) (x0 x1 x2 x3 x4 x5) : exec cl N c19_13 (e217 x0 x1 x2 x3 x4 x5) K = (g19_13 N S45 S50 (fun y0 y1 y2 y3 => K (.exit 0) (e219 y0 y1 y2 y3)) x0 x1 x2 x3 x4 x5) := by
 simp only [c19_13, exec_out, exec_loop, kp19_2, lt19_13 S45 S50 h45 h50, kp19_4]
 rfl
theorem kp19_5 (x0 x1 x2 x3) : keep [0, 6, 9, 11] (e219 x0 x1 x2 x3) = (e219 x0 x1 x2 x3) := by kernel_rfl
def g19_15 (S44 : V4 → V4 → Option V17) (S46 : Int → Int → Option V6) (k0 : V14 → Int → Option R) (x0 : Int) (x1 : V14) (x2 : Int) (x3 : V4) : Option R :=
(S46 x2 x0).bind fun r1096 =>
(S44 x3 r1096).bind fun r1097 =>
k0 r1097.1 r1097.2
theorem t19_15 (S44) (S46) (h44 : (ctr44 S44).holds cl) (h46 : (ctr46 S46).holds cl) (x0 x1 x2 x3) : exec cl N c19_15 (e219 x0 x1 x2 x3) K = (g19_15 S44 S46 (fun y0 y1 => K .normal (e125 y0 y1)) x0 x1 x2 x3) := by
 rw [← put_eq h44]
 rw [← put_eq h46]
 kernel_rfl
def g19_16b (N : Nat) (S43 : Int → Int → Int → Int → V14 → Option V3) (S44 : V4 → V4 → Option V17) (S45 : Int → Int → Int → Int → Option V6) (S46 : Int → Int → Option V6) (S49 : Int → Option V6) (S50 : V4 → V4 → Option V6) (k0 : V14 → Int → Option R) (k1 : V14 → Int → Option R) (x0 x1 : Int) (x2 : V14) : Option R :=
(g19_16 S43 (g19_2 (fun y0 y1 y2 y3 y4 y5 y6 => brB y6 (g19_3 k0 y0 y1 y2 y3 y4 y5 y6) ((g19_5 S49 (g19_6 (g19_13 N S45 S50 ((g19_15 S44 S46 k1))))) y0 y1 y2 y3 y4))) x0 x1 x2)
theorem t19_16b (S43) (S44) (S45) (S46) (S49) (S50) (h43 : (ctr43 S43).holds cl) (h44 : (ctr44 S44).holds cl) (h45 : (ctr45 S45).holds cl) (h46 : (ctr46 S46).holds cl) (h49 : (ctr49 S49).holds cl) (h50 : (ctr50 S50).holds cl) (x0 x1 x2) : exec cl N c19_16 (e122 x0 x1 x2) K = (g19_16b N S43 S44 S45 S46 S49 S50 (fun y0 y1 => K .ret (e126 y0 y1)) (fun y0 y1 => K .ret (e125 y0 y1)) x0 x1 x2) := by
 simp only [exec_seq, seqK_normal, seqK_exit, seqK_ret, t19_16 S43 h43, t19_2, c19_4, exec_out, exec_cond', hb19_0, Option.bind_some, brB_true, brB_false, t19_3, exec_ret, exec_skip, kp19_0, kp19_1, t19_5 S49 h49, t19_6, c19_14, exec_block, t19_13 S45 S50 h45 h50, blockK_normal, blockK_ret, blockK_eq, kp19_5, t19_15 S44 S46 h44 h46]
 rfl
theorem rk19_0 (y0 y1) : retK d19 .ret (e126 y0 y1) = some [.v U10 y0, .v U1 y1] := by kernel_rfl
theorem rk19_1 (y0 y1) : retK d19 .ret (e125 y0 y1) = some [.v U10 y0, .v U1 y1] := by kernel_rfl
def g19 (N : Nat) (S43 : Int → Int → Int → Int → V14 → Option V3) (S44 : V4 → V4 → Option V17) (S45 : Int → Int → Int → Int → Option V6) (S46 : Int → Int → Option V6) (S49 : Int → Option V6) (S50 : V4 → V4 → Option V6) (x0 x1 : Int) (x2 : V14) (k : V14 → Int → Option R) : Option R :=
(g19_16b N S43 S44 S45 S46 S49 S50 k k x0 x1 x2)
theorem gen19 (S43) (S44) (S45) (S46) (S49) (S50) (h43 : (ctr43 S43).holds cl) (h44 : (ctr44 S44).holds cl) (h45 : (ctr45 S45).holds cl) (h46 : (ctr46 S46).holds cl) (h49 : (ctr49 S49).holds cl) (h50 : (ctr50 S50).holds cl) (x0 x1 x2) (k : List E → Option R) : exec cl N c19 (e122 x0 x1 x2) (fun e env => (retK d19 e env).bind k) = g19 N S43 S44 S45 S46 S49 S50 x0 x1 x2 (fun r0 r1 => k [.v U10 r0, .v U1 r1]) := by
 simp only [c19, t19_16b S43 S44 S45 S46 S49 S50 h43 h44 h45 h46 h49 h50, rk19_0, rk19_1, Option.bind_some]
 rfl
def ctr19 (S : Int → Int → V14 → Option V17) : Ctr := cv3 19 U1 U1 U10 S fun b => [.v U10 b.1, .v U1 b.2]
def S19 (N : Nat) (x0 : Int) (x1 : Int) (x2 : V14) : Option V17 := g19 N (S43 N) (S44 N) (S45 N) (S46 N) (S49 N) (S50 N) x0 x1 x2 (fun (r0 : V14) (r1 : Int) => some (r0, r1))
def g20_0 (k0 : Int → Int → V14 → V14 → Option R) (x0 x1 : Int) (x2 : V14) : Option R :=
k0 x0 x1 x2 (false, (([], ()), (([], ()), ())))
theorem t20_0 (x0 x1 x2) : exec cl N c20_0 (e122 x0 x1 x2) K = (g20_0 (fun y0 y1 y2 y3 => K .normal (e204 y0 y1 y2 y3)) x0 x1 x2) := by
 kernel_rfl
def g20_5 (S47 : V14 → Int → Int → Int → Int → Option (Int)) (k0 : Int → Int → V14 → V14 → Int → Bool → Option R) (x0 x1 : Int) (x2 x3 : V14) : Option R :=
(S47 x2 x0 (200 : Int) x1 x0).bind fun r1108 =>
k0 x0 x1 x2 x3 r1108 (r1108 != (0 : Int))
theorem t20_5 (S47) (h47 : (ctr47 S47).holds cl) (x0 x1 x2 x3) : exec cl N c20_5 (e204 x0 x1 x2 x3) K = (g20_5 S47 (fun y0 y1 y2 y3 y4 y5 => exec cl N c20_4 (e205 y0 y1 y2 y3 y4 y5) K) x0 x1 x2 x3) := by
 rw [← put_eq h47]
 kernel_rfl
def g20_3 (k0 : V14 → Int → Option R) (x0 x1 : Int) (x2 x3 : V14) (x4 : Int) (x5 : Bool) : Option R :=
k0 (false, ([], ()), ([], ()), ()) x4
theorem t20_3 (x0 x1 x2 x3 x4 x5) : exec cl N c20_3 (e205 x0 x1 x2 x3 x4 x5) K = (g20_3 (fun y0 y1 => K .normal (e125 y0 y1)) x0 x1 x2 x3 x4 x5) := by
 kernel_rfl
theorem kp20_0 (x0 x1) : keep [0, 1, 5, 6, 7] (e125 x0 x1) = (e206 x0 x1) := by kernel_rfl
theorem kp20_1 (x0 x1 x2 x3 x4 x5) : keep [0, 1, 5, 6, 7] (e205 x0 x1 x2 x3 x4 x5) = (e207 x0 x1 x2 x3) := by kernel_rfl
theorem hb20_0 (x0 x1 x2 x3 x4 x5) : boolOf? (ent (e205 x0 x1 x2 x3 x4 x5) (.t 15)) = some x5 := by kernel_rfl
def g20_6 (S48 : Int → Int → Int → V14 → Option V15) (k0 : V14 → Int → Option R) (x0 x1 : Int) (x2 x3 : V14) : Option R :=
(S48 x0 x1 x0 x2).bind fun r1111 =>
k0 r1111 (0 : Int)
theorem t20_6 (S48) (h48 : (ctr48 S48).holds cl) (x0 x1 x2 x3) : exec cl N c20_6 (e207 x0 x1 x2 x3) K = (g20_6 S48 (fun y0 y1 => K .normal (e125 y0 y1)) x0 x1 x2 x3) := by
 rw [← put_eq h48]
 kernel_rfl
def g20_7 (S47 : V14 → Int → Int → Int → Int → Option (Int)) (S48 : Int → Int → Int → V14 → Option V15) (k0 : V14 → Int → Option R) (k1 : V14 → Int → Option R) (x0 x1 : Int) (x2 : V14) : Option R :=
(g20_0 (g20_5 S47 (fun y0 y1 y2 y3 y4 y5 => brB y5 (g20_3 k0 y0 y1 y2 y3 y4 y5) ((g20_6 S48 k1) y0 y1 y2 y3))) x0 x1 x2)
theorem t20_7 (S47) (S48) (h47 : (ctr47 S47).holds cl) (h48 : (ctr48 S48).holds cl) (x0 x1 x2) : exec cl N c20_7 (e122 x0 x1 x2) K = (g20_7 S47 S48 (fun y0 y1 => K .ret (e206 y0 y1)) (fun y0 y1 => K .ret (e125 y0 y1)) x0 x1 x2) := by
 simp only [c20_7, exec_seq, seqK_normal, seqK_exit, seqK_ret, t20_0, t20_5 S47 h47, c20_4, exec_out, exec_cond', hb20_0, Option.bind_some, brB_true, brB_false, t20_3, exec_ret, exec_skip, kp20_0, kp20_1, t20_6 S48 h48]
 rfl
theorem rk20_0 (y0 y1) : retK d20 .ret (e206 y0 y1) = some [.v U10 y0, .v U1 y1] := by kernel_rfl
theorem rk20_1 (y0 y1) : retK d20 .ret (e125 y0 y1) = some [.v U10 y0, .v U1 y1] := by kernel_rfl
def g20 (S47 : V14 → Int → Int → Int → Int → Option (Int)) (S48 : Int → Int → Int → V14 → Option V15) (x0 x1 : Int) (x2 : V14) (k : V14 → Int → Option R) : Option R :=
(g20_7 S47 S48 k k x0 x1 x2)
theorem gen20 (S47) (S48) (h47 : (ctr47 S47).holds cl) (h48 : (ctr48 S48).holds cl) (x0 x1 x2) (k : List E → Option R) : exec cl N c20 (e122 x0 x1 x2) (fun e env => (retK d20 e env).bind k) = g20 S47 S48 x0 x1 x2 (fun r0 r1 => k [.v U10 r0, .v U1 r1]) := by
 simp only [c20, t20_7 S47 S48 h47 h48, rk20_0, rk20_1, Option.bind_some]
 rfl
def ctr20 (S : Int → Int → V14 → Option V17) : Ctr := cv3 20 U1 U1 U10 S fun b => [.v U10 b.1, .v U1 b.2]
def S20 (N : Nat) (x0 : Int) (x1 : Int) (x2 : V14) : Option V17 := g20 (S47 N) (S48 N) x0 x1 x2 (fun (r0 : V14) (r1 : Int) => some (r0, r1))
def g21_2 (S51 : V4 → V4 → Option (Bool)) (k0 : Bool → Option R) (x0 x1 : V14) : Option R :=
brB (x0.1 == x1.1) ((S51 x0.2.1 x1.2.1).bind fun r1122 =>
brB r1122 ((S51 x0.2.2.1 x1.2.2.1).bind fun r1123 =>
k0 r1123) (k0 false)) (k0 false)
theorem t21_2 (S51) (h51 : (ctr51 S51).holds cl) (x0 x1) : exec cl N c21_2 (e185 x0 x1) K = (g21_2 S51 (fun y0 => exec cl N .ret [(4, .v .bool y0)] K) x0 x1) := by
 rw [← put_eq h51]
 kernel_rfl
def g21_2b (S51 : V4 → V4 → Option (Bool)) (k0 : Bool → Option R) (x0 x1 : V14) : Option R :=
(g21_2 S51 k0 x0 x1)
theorem t21_2b (S51) (h51 : (ctr51 S51).holds cl) (x0 x1) : exec cl N c21_2 (e185 x0 x1) K = (g21_2b S51 (fun y0 => K .ret [(4, .v .bool y0)]) x0 x1) := by
 simp only [exec_seq, seqK_normal, seqK_exit, seqK_ret, t21_2 S51 h51, exec_ret]
 rfl
theorem rk21_0 (y0) : retK d21 .ret [(4, .v .bool y0)] = some [.v .bool y0] := by kernel_rfl
def g21 (S51 : V4 → V4 → Option (Bool)) (x0 x1 : V14) (k : Bool → Option R) : Option R :=
(g21_2b S51 k x0 x1)
theorem gen21 (S51) (h51 : (ctr51 S51).holds cl) (x0 x1) (k : List E → Option R) : exec cl N c21 (e185 x0 x1) (fun e env => (retK d21 e env).bind k) = g21 S51 x0 x1 (fun r0 => k [.v .bool r0]) := by
 simp only [c21, t21_2b S51 h51, rk21_0, Option.bind_some]
 rfl
def ctr21 (S : V14 → V14 → Option (Bool)) : Ctr := cv2 21 U10 U10 S fun b => [.v .bool b]
def S21 (N : Nat) (x0 : V14) (x1 : V14) : Option (Bool) := g21 (S51 N) x0 x1 (fun (r0 : Bool) => some (r0))
def g4_0 (k0 : V5 → V14 → Option R) (x0 : V5) (x1 : V14) : Option R :=
k0 x0 x1
theorem t4_0 (x0 x1) : exec cl N c4_0 [(0, .v U8 x0), (1, .v U10 x1)] K = (g4_0 (fun y0 y1 => K .normal [(2, .loc U8 .no y0), (3, .loc U10 .no y1)]) x0 x1) := by
 kernel_rfl
def g4_1 (S11 : Option (Bool)) (S12 : V16 → Int → Option (Bool)) (S16 : Int → Option (Bool)) (k0 : V5 → V14 → Bool → Option R) (x0 : V5) (x1 : V14) : Option R :=
(S11).bind fun r1127 =>
brB (!r1127) (k0 x0 x1 true) ((S16 x0.1).bind fun r1128 =>
brB (!r1128) (k0 x0 x1 true) ((S12 [x1] (10 : Int)).bind fun r1129 =>
k0 x0 x1 (!r1129)))
theorem t4_1 (S11) (S12) (S16) (h11 : (ctr11 S11).holds cl) (h12 : (ctr12 S12).holds cl) (h16 : (ctr16 S16).holds cl) (x0 x1) : exec cl N c4_1 [(2, .loc U8 .no x0), (3, .loc U10 .no x1)] K = (g4_1 S11 S12 S16 (fun y0 y1 y2 => K .normal (e220 y0 y1 y2)) x0 x1) := by
 rw [← put_eq h11]
 rw [← put_eq h12]
 rw [← put_eq h16]
 kernel_rfl
def g4_2 (S11 : Option (Bool)) (k0 : Bool → Option R) (x0 : V5) (x1 : V14) (x2 : Bool) : Option R :=
(S11).bind fun r1130 =>
k0 r1130
theorem t4_2 (S11) (h11 : (ctr11 S11).holds cl) (x0 x1 x2) : exec cl N c4_2 (e220 x0 x1 x2) K = (g4_2 S11 (fun y0 => K .normal [(4, .v .bool y0)]) x0 x1 x2) := by
 rw [← put_eq h11]
 kernel_rfl
theorem kp4_0 (x0) : keep [2, 3, 4] [(4, .v .bool x0)] = (e221 x0) := by kernel_rfl
theorem kp4_1 (x0 x1 x2) : keep [2, 3, 4] (e220 x0 x1 x2) = [(2, .loc U8 .no x0), (3, .loc U10 .no x1), (4, .dead)] := by kernel_rfl
theorem hb4_0 (x0 x1 x2) : boolOf? (ent (e220 x0 x1 x2) (.t 26)) = some x2 := by kernel_rfl
def g4_9 (S17 : Int → Int → V14 → Option V17) (S18 : Int → Int → V14 → Option V17) (S19 : Int → Int → V14 → Option V17) (S20 : Int → Int → V14 → Option V17) (S21 : V14 → V14 → Option (Bool)) (k0 : Bool → Option R) (x0 : V5) (x1 : V14) : Option R :=
(S17 x0.1 x0.2.1 x1).bind fun r1141 =>
(S18 x0.1 x0.2.1 x1).bind fun r1142 =>
(S19 x0.1 x0.2.1 x1).bind fun r1143 =>
(S20 x0.1 x0.2.1 x1).bind fun r1144 =>
brB (r1141.2 == r1142.2) ((S21 r1141.1 r1142.1).bind fun r1146 =>
brB r1146 (brB (r1143.2 == r1144.2) ((S21 r1143.1 r1144.1).bind fun r1148 =>
k0 r1148) (k0 false)) (k0 false)) (k0 false)
theorem t4_9 (S17) (S18) (S19) (S20) (S21) (h17 : (ctr17 S17).holds cl) (h18 : (ctr18 S18).holds cl) (h19 : (ctr19 S19).holds cl) (h20 : (ctr20 S20).holds cl) (h21 : (ctr21 S21).holds cl) (x0 x1) : exec cl N c4_9 [(2, .loc U8 .no x0), (3, .loc U10 .no x1), (4, .dead)] K = (g4_9 S17 S18 S19 S20 S21 (fun y0 => exec cl N .ret [(4, .v .bool y0)] K) x0 x1) := by
 rw [← put_eq h17]
 rw [← put_eq h18]
 rw [← put_eq h19]
 rw [← put_eq h20]
 rw [← put_eq h21]
 kernel_rfl
def g4_10 (S11 : Option (Bool)) (S12 : V16 → Int → Option (Bool)) (S16 : Int → Option (Bool)) (S17 : Int → Int → V14 → Option V17) (S18 : Int → Int → V14 → Option V17) (S19 : Int → Int → V14 → Option V17) (S20 : Int → Int → V14 → Option V17) (S21 : V14 → V14 → Option (Bool)) (k0 : Bool → Option R) (k1 : Bool → Option R) (x0 : V5) (x1 : V14) : Option R :=
(g4_0 (g4_1 S11 S12 S16 (fun y0 y1 y2 => brB y2 (g4_2 S11 k0 y0 y1 y2) ((g4_9 S17 S18 S19 S20 S21 k1) y0 y1))) x0 x1)
theorem t4_10 (S11) (S12) (S16) (S17) (S18) (S19) (S20) (S21) (h11 : (ctr11 S11).holds cl) (h12 : (ctr12 S12).holds cl) (h16 : (ctr16 S16).holds cl) (h17 : (ctr17 S17).holds cl) (h18 : (ctr18 S18).holds cl) (h19 : (ctr19 S19).holds cl) (h20 : (ctr20 S20).holds cl) (h21 : (ctr21 S21).holds cl) (x0 x1) : exec cl N c4_10 [(0, .v U8 x0), (1, .v U10 x1)] K = (g4_10 S11 S12 S16 S17 S18 S19 S20 S21 (fun y0 => K .ret (e221 y0)) (fun y0 => K .ret [(4, .v .bool y0)]) x0 x1) := by
 simp only [c4_10, exec_seq, seqK_normal, seqK_exit, seqK_ret, t4_0, t4_1 S11 S12 S16 h11 h12 h16, c4_3, exec_out, exec_cond', hb4_0, Option.bind_some, brB_true, brB_false, t4_2 S11 h11, exec_ret, exec_skip, kp4_0, kp4_1, t4_9 S17 S18 S19 S20 S21 h17 h18 h19 h20 h21]
 rfl
theorem rk4_0 (y0) : retK d4 .ret (e221 y0) = some [.v .bool y0] := by kernel_rfl
theorem rk4_1 (y0) : retK d4 .ret [(4, .v .bool y0)] = some [.v .bool y0] := by kernel_rfl
def g4 (S11 : Option (Bool)) (S12 : V16 → Int → Option (Bool)) (S16 : Int → Option (Bool)) (S17 : Int → Int → V14 → Option V17) (S18 : Int → Int → V14 → Option V17) (S19 : Int → Int → V14 → Option V17) (S20 : Int → Int → V14 → Option V17) (S21 : V14 → V14 → Option (Bool)) (x0 : V5) (x1 : V14) (k : Bool → Option R) : Option R :=
(g4_10 S11 S12 S16 S17 S18 S19 S20 S21 k k x0 x1)
theorem gen4 (S11) (S12) (S16) (S17) (S18) (S19) (S20) (S21) (h11 : (ctr11 S11).holds cl) (h12 : (ctr12 S12).holds cl) (h16 : (ctr16 S16).holds cl) (h17 : (ctr17 S17).holds cl) (h18 : (ctr18 S18).holds cl) (h19 : (ctr19 S19).holds cl) (h20 : (ctr20 S20).holds cl) (h21 : (ctr21 S21).holds cl) (x0 x1) (k : List E → Option R) : exec cl N c4 [(0, .v U8 x0), (1, .v U10 x1)] (fun e env => (retK d4 e env).bind k) = g4 S11 S12 S16 S17 S18 S19 S20 S21 x0 x1 (fun r0 => k [.v .bool r0]) := by
 simp only [c4, t4_10 S11 S12 S16 S17 S18 S19 S20 S21 h11 h12 h16 h17 h18 h19 h20 h21, rk4_0, rk4_1, Option.bind_some]
 rfl
def ctr4 (S : V5 → V14 → Option (Bool)) : Ctr := cv2 4 U8 U10 S fun b => [.v .bool b]
def S4 (N : Nat) (x0 : V5) (x1 : V14) : Option (Bool) := g4 (S11 N) (S12 N) (S16 N) (S17 N) (S18 N) (S19 N) (S20 N) (S21 N) x0 x1 (fun (r0 : Bool) => some (r0))
end Go.Fw.L51
