/- Printed by an own program for this claim: the machine's code of functions, or their typed forms with their equations; no conditions. -/
import Derived.Test.YtnobiophckdjfaaFwMr51b
import Derived.Test.YtnobiophckdjfaaFwB4
set_option linter.unusedVariables false
set_option linter.unusedSimpArgs false
namespace Go.Fw.L51
open Go Go.Fw
set_option maxRecDepth 100000
set_option linter.unusedVariables false
set_option linter.unusedSimpArgs false
variable {N : Nat} {cl : Cal} {R : Type} {K : KE R}
def g93_0 (k0 : Int → Int → V3 → Option R) (x0 x1 : Int) : Option R :=
k0 x0 x1 ([], ())
theorem t93_0 (x0 x1) : exec cl N c93_0 (e92 x0 x1) K = (g93_0 (fun y0 y1 y2 => K .normal (e93 y0 y1 y2)) x0 x1) := by
 kernel_rfl
def g93_1 (k0 : Int → Int → V3 → Bool → Option R) (x0 x1 : Int) (x2 : V3) : Option R :=
brB (decide (x0 < (0 : Int))) (k0 x0 x1 x2 true) (brB (decide (x0 > (400 : Int))) (k0 x0 x1 x2 true) (brB (decide (x1 < (0 : Int))) (k0 x0 x1 x2 true) (k0 x0 x1 x2 (decide (x1 > x0)))))
theorem t93_1 (x0 x1 x2) : exec cl N c93_1 (e93 x0 x1 x2) K = (g93_1 (fun y0 y1 y2 y3 => K .normal (e94 y0 y1 y2 y3)) x0 x1 x2) := by
 kernel_rfl
def g93_2 (k0 : V3 → Int → Option R) (x0 x1 : Int) (x2 : V3) (x3 : Bool) : Option R :=
k0 ([], ()) (6 : Int)
theorem t93_2 (x0 x1 x2 x3) : exec cl N c93_2 (e94 x0 x1 x2 x3) K = (g93_2 (fun y0 y1 => K .normal (e55 y0 y1)) x0 x1 x2 x3) := by
 kernel_rfl
theorem kp93_0 (x0 x1) : keep [0, 1, 4, 5] (e55 x0 x1) = (e95 x0 x1) := by kernel_rfl
theorem kp93_1 (x0 x1 x2 x3) : keep [0, 1, 4, 5] (e94 x0 x1 x2 x3) = (e96 x0 x1 x2) := by kernel_rfl
theorem hb93_0 (x0 x1 x2 x3) : boolOf? (ent (e94 x0 x1 x2 x3) (.t 22)) = some x3 := by kernel_rfl
def g93_4 (k0 : Int → Int → V3 → V0 → Option R) (x0 x1 : Int) (x2 : V3) : Option R :=
k0 x0 x1 x2 [(1 : Int)]
theorem t93_4 (x0 x1 x2) : exec cl N c93_4 (e96 x0 x1 x2) K = (g93_4 (fun y0 y1 y2 y3 => K .normal (e97 y0 y1 y2 y3)) x0 x1 x2) := by
 kernel_rfl
def g93_5 (k0 : Int → Int → V3 → V0 → Int → Option R) (x0 x1 : Int) (x2 : V3) (x3 : V0) : Option R :=
k0 x0 x1 x2 x3 (1 : Int)
theorem t93_5 (x0 x1 x2 x3) : exec cl N c93_5 (e97 x0 x1 x2 x3) K = (g93_5 (fun y0 y1 y2 y3 y4 => K .normal (e98 y0 y1 y2 y3 y4)) x0 x1 x2 x3) := by
 kernel_rfl
theorem kp93_2 (x0 x1 x2 x3 x4) : keep [0, 1, 4, 6, 7] (e98 x0 x1 x2 x3 x4) = (e98 x0 x1 x2 x3 x4) := by kernel_rfl
def g93_6 (k0 : Int → Int → V3 → V0 → Int → Bool → Option R) (x0 x1 : Int) (x2 : V3) (x3 : V0) (x4 : Int) : Option R :=
k0 x0 x1 x2 x3 x4 (decide (x4 ≤ x1))
theorem t93_6 (x0 x1 x2 x3 x4) : exec cl N c93_6 (e98 x0 x1 x2 x3 x4) K = (g93_6 (fun y0 y1 y2 y3 y4 y5 => K .normal (e204 y0 y1 y2 y3 y4 y5)) x0 x1 x2 x3 x4) := by
 kernel_rfl
theorem kp93_3 (x0 x1 x2 x3 x4 x5) : keep [0, 1, 4, 6, 7] (e204 x0 x1 x2 x3 x4 x5) = (e98 x0 x1 x2 x3 x4) := by kernel_rfl
theorem hb93_1 (x0 x1 x2 x3 x4 x5) : boolOf? (ent (e204 x0 x1 x2 x3 x4 x5) (.t 27)) = some x5 := by kernel_rfl
def g93_8 (S88 : V0 → V0 → Option V1) (S110 : V0 → V0 → Option V5) (k0 : Int → Int → V3 → V0 → Int → Option R) (x0 x1 : Int) (x2 : V3) (x3 : V0) (x4 : Int) : Option R :=
(S88 x3 [(IntKind.i64.wrap ((IntKind.i64.wrap (x0 - x1)) + x4))]).bind fun r940 =>
(S110 r940 [x4]).bind fun r941 =>
k0 x0 x1 x2 r941.1 x4
theorem t93_8 (S88) (S110) (h88 : (ctr88 S88).holds cl) (h110 : (ctr110 S110).holds cl) (x0 x1 x2 x3 x4) : exec cl N c93_8 (e98 x0 x1 x2 x3 x4) K = (g93_8 S88 S110 (fun y0 y1 y2 y3 y4 => K .normal (e98 y0 y1 y2 y3 y4)) x0 x1 x2 x3 x4) := by
 rw [← put_eq h88]
 rw [← put_eq h110]
 kernel_rfl
def g93_10 (k0 : Int → Int → V3 → V0 → Int → Option R) (x0 x1 : Int) (x2 : V3) (x3 : V0) (x4 : Int) : Option R :=
k0 x0 x1 x2 x3 (IntKind.i64.wrap (x4 + (1 : Int)))
theorem t93_10 (x0 x1 x2 x3 x4) : exec cl N c93_10 (e98 x0 x1 x2 x3 x4) K = (g93_10 (fun y0 y1 y2 y3 y4 => K .normal (e98 y0 y1 y2 y3 y4)) x0 x1 x2 x3 x4) := by
 kernel_rfl
def g93_11 (S88 : V0 → V0 → Option V1) (S110 : V0 → V0 → Option V5) (k0 : Int → Int → V3 → V0 → Int → Option R) (k1 : Int → Int → V3 → V0 → Int → Option R) (x0 x1 : Int) (x2 : V3) (x3 : V0) (x4 : Int) : Option R :=
(g93_6 (fun y0 y1 y2 y3 y4 y5 => brB y5 ((g93_8 S88 S110 ((g93_10 k0))) y0 y1 y2 y3 y4) (k1 y0 y1 y2 y3 y4)) x0 x1 x2 x3 x4)
theorem t93_11 (S88) (S110) (h88 : (ctr88 S88).holds cl) (h110 : (ctr110 S110).holds cl) (x0 x1 x2 x3 x4) : exec cl N c93_11 (e98 x0 x1 x2 x3 x4) K = (g93_11 S88 S110 (fun y0 y1 y2 y3 y4 => K .normal (e98 y0 y1 y2 y3 y4)) (fun y0 y1 y2 y3 y4 => K (.exit 0) (e98 y0 y1 y2 y3 y4)) x0 x1 x2 x3 x4) := by
 simp only [c93_11, exec_seq, seqK_normal, seqK_exit, seqK_ret, t93_6, c93_7, exec_out, exec_cond', hb93_1, Option.bind_some, brB_true, brB_false, exec_skip, exec_exit, kp93_3, c93_9, exec_block, t93_8 S88 S110 h88 h110, blockK_normal, blockK_ret, blockK_eq, kp93_2, t93_10]
 rfl
def l93_12 {R : Type} (S88 : V0 → V0 → Option V1) (S110 : V0 → V0 → Option V5) (k0 : Int → Int → V3 → V0 → Int → Option R) : Nat → Int → Int → V3 → V0 → Int → Option R
 | 0, _, _, _, _, _ => none
 | m + 1, x0, x1, x2, x3, x4 => (g93_11 S88 S110 (l93_12 S88 S110 k0 m) k0 x0 x1 x2 x3 x4)
theorem lt93_12 (S88) (S110) (h88 : (ctr88 S88).holds cl) (h110 : (ctr110 S110).holds cl) : ∀ (m) (x0 x1 x2 x3 x4), iter [0, 1, 4, 6, 7] (fun env K => exec cl N c93_11 env K) K m (e98 x0 x1 x2 x3 x4) = l93_12 S88 S110 (fun y0 y1 y2 y3 y4 => K (.exit 0) (e98 y0 y1 y2 y3 y4)) m x0 x1 x2 x3 x4 := by
 intro m
 induction m with
 | zero => intros; rfl
 | succ m ih =>
   intro x0 x1 x2 x3 x4
   simp only [iter_succ, t93_11 S88 S110 h88 h110, loopK_normal, loopK_exit, loopK_ret, kp93_2, ih]
   rfl
theorem kp93_4 (x0 x1 x2 x3 x4) : keep [4, 6] (e98 x0 x1 x2 x3 x4) = (e60 x2 x3) := by kernel_rfl
def g93_12 (N : Nat) (S88 : V0 → V0 → Option V1) (S110 : V0 → V0 → Option V5) (k0 : V3 → V0 → Option R) (x0 x1 : Int) (x2 : V3) (x3 : V0) (x4 : Int) : Option R :=
l93_12 S88 S110 (fun y0 y1 y2 y3 y4 => k0 y2 y3) N x0 x1 x2 x3 x4
theorem t93_12 (S88) (S110) (h88 : (ctr88 S88).holds cl) (h110 : (ctr110 S110).holds cl) (x0 x1 x2 x3 x4) : exec cl N c93_12 (e98 x0 x1 x2 x3 x4) K = (g93_12 N S88 S110 (fun y0 y1 => K (.exit 0) (e60 y0 y1)) x0 x1 x2 x3 x4) := by
 simp only [c93_12, exec_out, exec_loop, kp93_2, lt93_12 S88 S110 h88 h110, kp93_4]
 rfl
theorem kp93_5 (x0 x1) : keep [4, 6] (e60 x0 x1) = (e60 x0 x1) := by kernel_rfl
def g93_14 (k0 : V3 → Int → Option R) (x0 : V3) (x1 : V0) : Option R :=
k0 (x1, ()) (0 : Int)
theorem t93_14 (x0 x1) : exec cl N c93_14 (e60 x0 x1) K = (g93_14 (fun y0 y1 => K .normal (e61 y0 y1)) x0 x1) := by
 kernel_rfl
def g93_15 (N : Nat) (S88 : V0 → V0 → Option V1) (S110 : V0 → V0 → Option V5) (k0 : V3 → Int → Option R) (k1 : V3 → Int → Option R) (x0 x1 : Int) : Option R :=
(g93_0 (g93_1 (fun y0 y1 y2 y3 => brB y3 (g93_2 k0 y0 y1 y2 y3) ((g93_4 (g93_5 (g93_12 N S88 S110 ((g93_14 k1))))) y0 y1 y2))) x0 x1)
theorem t93_15 (S88) (S110) (h88 : (ctr88 S88).holds cl) (h110 : (ctr110 S110).holds cl) (x0 x1) : exec cl N c93_15 (e92 x0 x1) K = (g93_15 N S88 S110 (fun y0 y1 => K .ret (e95 y0 y1)) (fun y0 y1 => K .ret (e61 y0 y1)) x0 x1) := by
 simp only [c93_15, exec_seq, seqK_normal, seqK_exit, seqK_ret, t93_0, t93_1, c93_3, exec_out, exec_cond', hb93_0, Option.bind_some, brB_true, brB_false, t93_2, exec_ret, exec_skip, kp93_0, kp93_1, t93_4, t93_5, c93_13, exec_block, t93_12 S88 S110 h88 h110, blockK_normal, blockK_ret, blockK_eq, kp93_5, t93_14]
 rfl
theorem rk93_0 (y0 y1) : retK d93 .ret (e95 y0 y1) = some [.v U4 y0, .v U1 y1] := by kernel_rfl
theorem rk93_1 (y0 y1) : retK d93 .ret (e61 y0 y1) = some [.v U4 y0, .v U1 y1] := by kernel_rfl
def g93 (N : Nat) (S88 : V0 → V0 → Option V1) (S110 : V0 → V0 → Option V5) (x0 x1 : Int) (k : V3 → Int → Option R) : Option R :=
(g93_15 N S88 S110 k k x0 x1)
theorem gen93 (S88) (S110) (h88 : (ctr88 S88).holds cl) (h110 : (ctr110 S110).holds cl) (x0 x1) (k : List E → Option R) : exec cl N c93 (e92 x0 x1) (fun e env => (retK d93 e env).bind k) = g93 N S88 S110 x0 x1 (fun r0 r1 => k [.v U4 r0, .v U1 r1]) := by
 simp only [c93, t93_15 S88 S110 h88 h110, rk93_0, rk93_1, Option.bind_some]
 rfl
def ctr93 (S : Int → Int → Option V7) : Ctr := cv2 93 U1 U1 S fun b => [.v U4 b.1, .v U1 b.2]
def S93 (N : Nat) (x0 : Int) (x1 : Int) : Option V7 := g93 N (S88 N) (S110 N) x0 x1 (fun (r0 : V3) (r1 : Int) => some (r0, r1))
def g87_0 (k0 : V0 → V3 → Option R) (x0 : V0) : Option R :=
k0 x0 ([], ())
theorem t87_0 (x0) : exec cl N c87_0 [(0, .v U2 x0)] K = (g87_0 (fun y0 y1 => K .normal (e49 y0 y1)) x0) := by
 kernel_rfl
def g87_1 (k0 : V0 → V3 → Bool → Option R) (x0 : V0) (x1 : V3) : Option R :=
k0 x0 x1 (decide ((x0.length : Int) > (200 : Int)))
theorem t87_1 (x0 x1) : exec cl N c87_1 (e49 x0 x1) K = (g87_1 (fun y0 y1 y2 => K .normal (e90 y0 y1 y2)) x0 x1) := by
 kernel_rfl
def g87_2 (k0 : V3 → Int → Option R) (x0 : V0) (x1 : V3) (x2 : Bool) : Option R :=
k0 ([], ()) (3 : Int)
theorem t87_2 (x0 x1 x2) : exec cl N c87_2 (e90 x0 x1 x2) K = (g87_2 (fun y0 y1 => K .normal (e64 y0 y1)) x0 x1 x2) := by
 kernel_rfl
theorem kp87_0 (x0 x1) : keep [0, 2, 3] (e64 x0 x1) = (e65 x0 x1) := by kernel_rfl
theorem kp87_1 (x0 x1 x2) : keep [0, 2, 3] (e90 x0 x1 x2) = (e91 x0 x1) := by kernel_rfl
theorem hb87_0 (x0 x1 x2) : boolOf? (ent (e90 x0 x1 x2) (.t 6)) = some x2 := by kernel_rfl
def g87_4 (k0 : V3 → Int → Option R) (x0 : V0) (x1 : V3) : Option R :=
k0 (x0, ()) (0 : Int)
theorem t87_4 (x0 x1) : exec cl N c87_4 (e91 x0 x1) K = (g87_4 (fun y0 y1 => K .normal (e70 y0 y1)) x0 x1) := by
 kernel_rfl
def g87_5 (k0 : V3 → Int → Option R) (k1 : V3 → Int → Option R) (x0 : V0) : Option R :=
(g87_0 (g87_1 (fun y0 y1 y2 => brB y2 (g87_2 k0 y0 y1 y2) ((g87_4 k1) y0 y1))) x0)
theorem t87_5 (x0) : exec cl N c87_5 [(0, .v U2 x0)] K = (g87_5 (fun y0 y1 => K .ret (e65 y0 y1)) (fun y0 y1 => K .ret (e70 y0 y1)) x0) := by
 simp only [c87_5, exec_seq, seqK_normal, seqK_exit, seqK_ret, t87_0, t87_1, c87_3, exec_out, exec_cond', hb87_0, Option.bind_some, brB_true, brB_false, t87_2, exec_ret, exec_skip, kp87_0, kp87_1, t87_4]
 rfl
theorem rk87_0 (y0 y1) : retK d87 .ret (e65 y0 y1) = some [.v U4 y0, .v U1 y1] := by kernel_rfl
theorem rk87_1 (y0 y1) : retK d87 .ret (e70 y0 y1) = some [.v U4 y0, .v U1 y1] := by kernel_rfl
def g87 (x0 : V0) (k : V3 → Int → Option R) : Option R :=
(g87_5 k k x0)
theorem gen87 (x0) (k : List E → Option R) : exec cl N c87 [(0, .v U2 x0)] (fun e env => (retK d87 e env).bind k) = g87 x0 (fun r0 r1 => k [.v U4 r0, .v U1 r1]) := by
 simp only [c87, t87_5, rk87_0, rk87_1, Option.bind_some]
 rfl
def ctr87 (S : V0 → Option V7) : Ctr := cv1 87 U2 S fun b => [.v U4 b.1, .v U1 b.2]
def S87 (N : Nat) (x0 : V0) : Option V7 := g87 x0 (fun (r0 : V3) (r1 : Int) => some (r0, r1))
def g58_0 (k0 : V3 → V3 → V3 → Option R) (x0 x1 : V3) : Option R :=
k0 x0 x1 ([], ())
theorem t58_0 (x0 x1) : exec cl N c58_0 (e52 x0 x1) K = (g58_0 (fun y0 y1 y2 => K .normal (e53 y0 y1 y2)) x0 x1) := by
 kernel_rfl
def g58_1 (S86 : V3 → Option (Bool)) (k0 : V3 → V3 → V3 → Bool → Option R) (x0 x1 x2 : V3) : Option R :=
(S86 x0).bind fun r954 =>
brB (!r954) (k0 x0 x1 x2 true) ((S86 x1).bind fun r955 =>
k0 x0 x1 x2 (!r955))
theorem t58_1 (S86) (h86 : (ctr86 S86).holds cl) (x0 x1 x2) : exec cl N c58_1 (e53 x0 x1 x2) K = (g58_1 S86 (fun y0 y1 y2 y3 => K .normal (e102 y0 y1 y2 y3)) x0 x1 x2) := by
 rw [← put_eq h86]
 kernel_rfl
def g58_2 (k0 : V3 → Int → Option R) (x0 x1 x2 : V3) (x3 : Bool) : Option R :=
k0 ([], ()) (1 : Int)
theorem t58_2 (x0 x1 x2 x3) : exec cl N c58_2 (e102 x0 x1 x2 x3) K = (g58_2 (fun y0 y1 => K .normal (e55 y0 y1)) x0 x1 x2 x3) := by
 kernel_rfl
theorem kp58_0 (x0 x1) : keep [2, 3, 4, 5] (e55 x0 x1) = (e56 x0 x1) := by kernel_rfl
theorem kp58_1 (x0 x1 x2 x3) : keep [2, 3, 4, 5] (e102 x0 x1 x2 x3) = (e57 x0 x1 x2) := by kernel_rfl
theorem hb58_0 (x0 x1 x2 x3) : boolOf? (ent (e102 x0 x1 x2 x3) (.t 13)) = some x3 := by kernel_rfl
def g58_4 (S87 : V0 → Option V7) (S88 : V0 → V0 → Option V1) (k0 : V3 → Int → Option R) (x0 x1 x2 : V3) : Option R :=
(S88 x0.1 x1.1).bind fun r956 =>
(S87 r956).bind fun r957 =>
k0 r957.1 r957.2
theorem t58_4 (S87) (S88) (h87 : (ctr87 S87).holds cl) (h88 : (ctr88 S88).holds cl) (x0 x1 x2) : exec cl N c58_4 (e57 x0 x1 x2) K = (g58_4 S87 S88 (fun y0 y1 => K .normal (e61 y0 y1)) x0 x1 x2) := by
 rw [← put_eq h87]
 rw [← put_eq h88]
 kernel_rfl
def g58_5 (S86 : V3 → Option (Bool)) (S87 : V0 → Option V7) (S88 : V0 → V0 → Option V1) (k0 : V3 → Int → Option R) (k1 : V3 → Int → Option R) (x0 x1 : V3) : Option R :=
(g58_0 (g58_1 S86 (fun y0 y1 y2 y3 => brB y3 (g58_2 k0 y0 y1 y2 y3) ((g58_4 S87 S88 k1) y0 y1 y2))) x0 x1)
theorem t58_5 (S86) (S87) (S88) (h86 : (ctr86 S86).holds cl) (h87 : (ctr87 S87).holds cl) (h88 : (ctr88 S88).holds cl) (x0 x1) : exec cl N c58_5 (e52 x0 x1) K = (g58_5 S86 S87 S88 (fun y0 y1 => K .ret (e56 y0 y1)) (fun y0 y1 => K .ret (e61 y0 y1)) x0 x1) := by
 simp only [c58_5, exec_seq, seqK_normal, seqK_exit, seqK_ret, t58_0, t58_1 S86 h86, c58_3, exec_out, exec_cond', hb58_0, Option.bind_some, brB_true, brB_false, t58_2, exec_ret, exec_skip, kp58_0, kp58_1, t58_4 S87 S88 h87 h88]
 rfl
theorem rk58_0 (y0 y1) : retK d58 .ret (e56 y0 y1) = some [.v U4 y0, .v U1 y1] := by kernel_rfl
theorem rk58_1 (y0 y1) : retK d58 .ret (e61 y0 y1) = some [.v U4 y0, .v U1 y1] := by kernel_rfl
def g58 (S86 : V3 → Option (Bool)) (S87 : V0 → Option V7) (S88 : V0 → V0 → Option V1) (x0 x1 : V3) (k : V3 → Int → Option R) : Option R :=
(g58_5 S86 S87 S88 k k x0 x1)
theorem gen58 (S86) (S87) (S88) (h86 : (ctr86 S86).holds cl) (h87 : (ctr87 S87).holds cl) (h88 : (ctr88 S88).holds cl) (x0 x1) (k : List E → Option R) : exec cl N c58 (e52 x0 x1) (fun e env => (retK d58 e env).bind k) = g58 S86 S87 S88 x0 x1 (fun r0 r1 => k [.v U4 r0, .v U1 r1]) := by
 simp only [c58, t58_5 S86 S87 S88 h86 h87 h88, rk58_0, rk58_1, Option.bind_some]
 rfl
def ctr58 (S : V3 → V3 → Option V7) : Ctr := cv2 58 U4 U4 S fun b => [.v U4 b.1, .v U1 b.2]
def S58 (N : Nat) (x0 : V3) (x1 : V3) : Option V7 := g58 (S86 N) (S87 N) (S88 N) x0 x1 (fun (r0 : V3) (r1 : Int) => some (r0, r1))
def g80_12 (S53 : Int → Option V4) (k0 : Int → V3 → V3 → V3 → Option R) (x0 : V3) (x1 : Int) : Option R :=
(S53 (1 : Int)).bind fun r960 =>
k0 x1 x0 ([], ()) r960
theorem t80_12 (S53) (h53 : (ctr53 S53).holds cl) (x0 x1) : exec cl N c80_12 [(0, .v U4 x0), (1, .v U1 x1)] K = (g80_12 S53 (fun y0 y1 y2 y3 => exec cl N (.seq (.seq c80_2 c80_10) (.seq c80_11 .ret)) (e205 y0 y1 y2 y3) K) x0 x1) := by
 rw [← put_eq h53]
 kernel_rfl
def g80_2 (k0 : Int → V3 → V3 → V3 → Int → Option R) (x0 : Int) (x1 x2 x3 : V3) : Option R :=
k0 x0 x1 x2 x3 (0 : Int)
theorem t80_2 (x0 x1 x2 x3) : exec cl N c80_2 (e205 x0 x1 x2 x3) K = (g80_2 (fun y0 y1 y2 y3 y4 => K .normal (e206 y0 y1 y2 y3 y4)) x0 x1 x2 x3) := by
 kernel_rfl
theorem kp80_0 (x0 x1 x2 x3 x4) : keep [1, 2, 4, 5, 6] (e206 x0 x1 x2 x3 x4) = (e206 x0 x1 x2 x3 x4) := by kernel_rfl
def g80_3 (k0 : Int → V3 → V3 → V3 → Int → Bool → Option R) (x0 : Int) (x1 x2 x3 : V3) (x4 : Int) : Option R :=
k0 x0 x1 x2 x3 x4 (decide (x4 < x0))
theorem t80_3 (x0 x1 x2 x3 x4) : exec cl N c80_3 (e206 x0 x1 x2 x3 x4) K = (g80_3 (fun y0 y1 y2 y3 y4 y5 => K .normal (e207 y0 y1 y2 y3 y4 y5)) x0 x1 x2 x3 x4) := by
 kernel_rfl
theorem kp80_1 (x0 x1 x2 x3 x4 x5) : keep [1, 2, 4, 5, 6] (e207 x0 x1 x2 x3 x4 x5) = (e206 x0 x1 x2 x3 x4) := by kernel_rfl
theorem hb80_0 (x0 x1 x2 x3 x4 x5) : boolOf? (ent (e207 x0 x1 x2 x3 x4 x5) (.t 10)) = some x5 := by kernel_rfl
def g80_5 (S58 : V3 → V3 → Option V7) (k0 : Int → V3 → V3 → V3 → Int → Option R) (x0 : Int) (x1 x2 x3 : V3) (x4 : Int) : Option R :=
(S58 x3 x1).bind fun r962 =>
k0 x0 x1 x2 r962.1 x4
theorem t80_5 (S58) (h58 : (ctr58 S58).holds cl) (x0 x1 x2 x3 x4) : exec cl N c80_5 (e206 x0 x1 x2 x3 x4) K = (g80_5 S58 (fun y0 y1 y2 y3 y4 => K .normal (e206 y0 y1 y2 y3 y4)) x0 x1 x2 x3 x4) := by
 rw [← put_eq h58]
 kernel_rfl
def g80_7 (k0 : Int → V3 → V3 → V3 → Int → Option R) (x0 : Int) (x1 x2 x3 : V3) (x4 : Int) : Option R :=
k0 x0 x1 x2 x3 (IntKind.i64.wrap (x4 + (1 : Int)))
theorem t80_7 (x0 x1 x2 x3 x4) : exec cl N c80_7 (e206 x0 x1 x2 x3 x4) K = (g80_7 (fun y0 y1 y2 y3 y4 => K .normal (e206 y0 y1 y2 y3 y4)) x0 x1 x2 x3 x4) := by
 kernel_rfl
def g80_8 (S58 : V3 → V3 → Option V7) (k0 : Int → V3 → V3 → V3 → Int → Option R) (k1 : Int → V3 → V3 → V3 → Int → Option R) (x0 : Int) (x1 x2 x3 : V3) (x4 : Int) : Option R :=
(g80_3 (fun y0 y1 y2 y3 y4 y5 => brB y5 ((g80_5 S58 ((g80_7 k0))) y0 y1 y2 y3 y4) (k1 y0 y1 y2 y3 y4)) x0 x1 x2 x3 x4)
theorem t80_8 (S58) (h58 : (ctr58 S58).holds cl) (x0 x1 x2 x3 x4) : exec cl N c80_8 (e206 x0 x1 x2 x3 x4) K = (g80_8 S58 (fun y0 y1 y2 y3 y4 => K .normal (e206 y0 y1 y2 y3 y4)) (fun y0 y1 y2 y3 y4 => K (.exit 0) (e206 y0 y1 y2 y3 y4)) x0 x1 x2 x3 x4) := by
 simp only [c80_8, exec_seq, seqK_normal, seqK_exit, seqK_ret, t80_3, c80_4, exec_out, exec_cond', hb80_0, Option.bind_some, brB_true, brB_false, exec_skip, exec_exit, kp80_1, c80_6, exec_block, t80_5 S58 h58, blockK_normal, blockK_ret, blockK_eq, kp80_0, t80_7]
 rfl
def l80_9 {R : Type} (S58 : V3 → V3 → Option V7) (k0 : Int → V3 → V3 → V3 → Int → Option R) : Nat → Int → V3 → V3 → V3 → Int → Option R
 | 0, _, _, _, _, _ => none
 | m + 1, x0, x1, x2, x3, x4 => (g80_8 S58 (l80_9 S58 k0 m) k0 x0 x1 x2 x3 x4)
theorem lt80_9 (S58) (h58 : (ctr58 S58).holds cl) : ∀ (m) (x0 x1 x2 x3 x4), iter [1, 2, 4, 5, 6] (fun env K => exec cl N c80_8 env K) K m (e206 x0 x1 x2 x3 x4) = l80_9 S58 (fun y0 y1 y2 y3 y4 => K (.exit 0) (e206 y0 y1 y2 y3 y4)) m x0 x1 x2 x3 x4 := by
 intro m
 induction m with
 | zero => intros; rfl
 | succ m ih =>
   intro x0 x1 x2 x3 x4
   simp only [iter_succ, t80_8 S58 h58, loopK_normal, loopK_exit, loopK_ret, kp80_0, ih]
   rfl
theorem kp80_2 (x0 x1 x2 x3 x4) : keep [4, 5] (e206 x0 x1 x2 x3 x4) = (e106 x2 x3) := by kernel_rfl
def g80_9 (N : Nat) (S58 : V3 → V3 → Option V7) (k0 : V3 → V3 → Option R) (x0 : Int) (x1 x2 x3 : V3) (x4 : Int) : Option R :=
l80_9 S58 (fun y0 y1 y2 y3 y4 => k0 y2 y3) N x0 x1 x2 x3 x4
theorem t80_9 (S58) (h58 : (ctr58 S58).holds cl) (x0 x1 x2 x3 x4) : exec cl N c80_9 (e206 x0 x1 x2 x3 x4) K = (g80_9 N S58 (fun y0 y1 => K (.exit 0) (e106 y0 y1)) x0 x1 x2 x3 x4) := by
 simp only [c80_9, exec_out, exec_loop, kp80_0, lt80_9 S58 h58, kp80_2]
 rfl
theorem kp80_3 (x0 x1) : keep [4, 5] (e106 x0 x1) = (e106 x0 x1) := by kernel_rfl
def g80_11 (k0 : V3 → Option R) (x0 x1 : V3) : Option R :=
k0 x1
theorem t80_11 (x0 x1) : exec cl N c80_11 (e106 x0 x1) K = (g80_11 (fun y0 => K .normal [(4, .loc U4 .no y0)]) x0 x1) := by
 kernel_rfl
def g80_12b (N : Nat) (S53 : Int → Option V4) (S58 : V3 → V3 → Option V7) (k0 : V3 → Option R) (x0 : V3) (x1 : Int) : Option R :=
(g80_12 S53 (g80_2 (g80_9 N S58 ((g80_11 k0)))) x0 x1)
theorem t80_12b (S53) (S58) (h53 : (ctr53 S53).holds cl) (h58 : (ctr58 S58).holds cl) (x0 x1) : exec cl N c80_12 [(0, .v U4 x0), (1, .v U1 x1)] K = (g80_12b N S53 S58 (fun y0 => K .ret [(4, .loc U4 .no y0)]) x0 x1) := by
 simp only [exec_seq, seqK_normal, seqK_exit, seqK_ret, t80_12 S53 h53, t80_2, c80_10, exec_out, exec_block, t80_9 S58 h58, blockK_normal, blockK_ret, blockK_eq, kp80_3, t80_11, exec_ret]
 rfl
theorem rk80_0 (y0) : retK d80 .ret [(4, .loc U4 .no y0)] = some [.v U4 y0] := by kernel_rfl
def g80 (N : Nat) (S53 : Int → Option V4) (S58 : V3 → V3 → Option V7) (x0 : V3) (x1 : Int) (k : V3 → Option R) : Option R :=
(g80_12b N S53 S58 k x0 x1)
theorem gen80 (S53) (S58) (h53 : (ctr53 S53).holds cl) (h58 : (ctr58 S58).holds cl) (x0 x1) (k : List E → Option R) : exec cl N c80 [(0, .v U4 x0), (1, .v U1 x1)] (fun e env => (retK d80 e env).bind k) = g80 N S53 S58 x0 x1 (fun r0 => k [.v U4 r0]) := by
 simp only [c80, t80_12b S53 S58 h53 h58, rk80_0, Option.bind_some]
 rfl
def ctr80 (S : V3 → Int → Option V4) : Ctr := cv2 80 U4 U1 S fun b => [.v U4 b]
def S80 (N : Nat) (x0 : V3) (x1 : Int) : Option V4 := g80 N (S53 N) (S58 N) x0 x1 (fun (r0 : V3) => some (r0))
def g71_6 (S58 : V3 → V3 → Option V7) (S61 : V3 → V3 → Option V7) (S80 : V3 → Int → Option V4) (S93 : Int → Int → Option V7) (k0 : V3 → Option R) (x0 x1 : Int) (x2 : V12) : Option R :=
(S61 x2.2.2.1 x2.2.1).bind fun r994 =>
(S93 x0 x1).bind fun r995 =>
(S80 x2.2.1 x1).bind fun r996 =>
(S58 r995.1 r996).bind fun r997 =>
(S80 r994.1 (IntKind.i64.wrap (x0 - x1))).bind fun r999 =>
(S58 r997.1 r999).bind fun r1000 =>
k0 r1000.1
theorem t71_6 (S58) (S61) (S80) (S93) (h58 : (ctr58 S58).holds cl) (h61 : (ctr61 S61).holds cl) (h80 : (ctr80 S80).holds cl) (h93 : (ctr93 S93).holds cl) (x0 x1 x2) : exec cl N c71_6 (e208 x0 x1 x2) K = (g71_6 S58 S61 S80 S93 (fun y0 => exec cl N .ret [(6, .loc U4 .no y0)] K) x0 x1 x2) := by
 rw [← put_eq h58]
 rw [← put_eq h61]
 rw [← put_eq h80]
 rw [← put_eq h93]
 kernel_rfl
def g71_6b (S58 : V3 → V3 → Option V7) (S61 : V3 → V3 → Option V7) (S80 : V3 → Int → Option V4) (S93 : Int → Int → Option V7) (k0 : V3 → Option R) (x0 x1 : Int) (x2 : V12) : Option R :=
(g71_6 S58 S61 S80 S93 k0 x0 x1 x2)
theorem t71_6b (S58) (S61) (S80) (S93) (h58 : (ctr58 S58).holds cl) (h61 : (ctr61 S61).holds cl) (h80 : (ctr80 S80).holds cl) (h93 : (ctr93 S93).holds cl) (x0 x1 x2) : exec cl N c71_6 (e208 x0 x1 x2) K = (g71_6b S58 S61 S80 S93 (fun y0 => K .ret [(6, .loc U4 .no y0)]) x0 x1 x2) := by
 simp only [exec_seq, seqK_normal, seqK_exit, seqK_ret, t71_6 S58 S61 S80 S93 h58 h61 h80 h93, exec_ret]
 rfl
theorem rk71_0 (y0) : retK d71 .ret [(6, .loc U4 .no y0)] = some [.v U4 y0] := by kernel_rfl
def g71 (S58 : V3 → V3 → Option V7) (S61 : V3 → V3 → Option V7) (S80 : V3 → Int → Option V4) (S93 : Int → Int → Option V7) (x0 x1 : Int) (x2 : V12) (k : V3 → Option R) : Option R :=
(g71_6b S58 S61 S80 S93 k x0 x1 x2)
theorem gen71 (S58) (S61) (S80) (S93) (h58 : (ctr58 S58).holds cl) (h61 : (ctr61 S61).holds cl) (h80 : (ctr80 S80).holds cl) (h93 : (ctr93 S93).holds cl) (x0 x1 x2) (k : List E → Option R) : exec cl N c71 (e208 x0 x1 x2) (fun e env => (retK d71 e env).bind k) = g71 S58 S61 S80 S93 x0 x1 x2 (fun r0 => k [.v U4 r0]) := by
 simp only [c71, t71_6b S58 S61 S80 S93 h58 h61 h80 h93, rk71_0, Option.bind_some]
 rfl
def ctr71 (S : Int → Int → V12 → Option V4) : Ctr := cv3 71 U1 U1 U9 S fun b => [.v U4 b]
def S71 (N : Nat) (x0 : Int) (x1 : Int) (x2 : V12) : Option V4 := g71 (S58 N) (S61 N) (S80 N) (S93 N) x0 x1 x2 (fun (r0 : V3) => some (r0))
def g59_0 (k0 : V3 → V3 → V3 → Option R) (x0 x1 : V3) : Option R :=
k0 x0 x1 ([], ())
theorem t59_0 (x0 x1) : exec cl N c59_0 (e52 x0 x1) K = (g59_0 (fun y0 y1 y2 => K .normal (e53 y0 y1 y2)) x0 x1) := by
 kernel_rfl
def g59_1 (S86 : V3 → Option (Bool)) (k0 : V3 → V3 → V3 → Bool → Option R) (x0 x1 x2 : V3) : Option R :=
(S86 x0).bind fun r1006 =>
brB (!r1006) (k0 x0 x1 x2 true) ((S86 x1).bind fun r1007 =>
k0 x0 x1 x2 (!r1007))
theorem t59_1 (S86) (h86 : (ctr86 S86).holds cl) (x0 x1 x2) : exec cl N c59_1 (e53 x0 x1 x2) K = (g59_1 S86 (fun y0 y1 y2 y3 => K .normal (e102 y0 y1 y2 y3)) x0 x1 x2) := by
 rw [← put_eq h86]
 kernel_rfl
def g59_2 (k0 : V3 → Int → Option R) (x0 x1 x2 : V3) (x3 : Bool) : Option R :=
k0 ([], ()) (1 : Int)
theorem t59_2 (x0 x1 x2 x3) : exec cl N c59_2 (e102 x0 x1 x2 x3) K = (g59_2 (fun y0 y1 => K .normal (e55 y0 y1)) x0 x1 x2 x3) := by
 kernel_rfl
theorem kp59_0 (x0 x1) : keep [2, 3, 4, 5] (e55 x0 x1) = (e56 x0 x1) := by kernel_rfl
theorem kp59_1 (x0 x1 x2 x3) : keep [2, 3, 4, 5] (e102 x0 x1 x2 x3) = (e57 x0 x1 x2) := by kernel_rfl
theorem hb59_0 (x0 x1 x2 x3) : boolOf? (ent (e102 x0 x1 x2 x3) (.t 13)) = some x3 := by kernel_rfl
def g59_4 (S87 : V0 → Option V7) (S89 : V0 → V0 → Option V1) (k0 : V3 → Int → Option R) (x0 x1 x2 : V3) : Option R :=
(S89 x0.1 x1.1).bind fun r1008 =>
(S87 r1008).bind fun r1009 =>
k0 r1009.1 r1009.2
theorem t59_4 (S87) (S89) (h87 : (ctr87 S87).holds cl) (h89 : (ctr89 S89).holds cl) (x0 x1 x2) : exec cl N c59_4 (e57 x0 x1 x2) K = (g59_4 S87 S89 (fun y0 y1 => K .normal (e61 y0 y1)) x0 x1 x2) := by
 rw [← put_eq h87]
 rw [← put_eq h89]
 kernel_rfl
def g59_5 (S86 : V3 → Option (Bool)) (S87 : V0 → Option V7) (S89 : V0 → V0 → Option V1) (k0 : V3 → Int → Option R) (k1 : V3 → Int → Option R) (x0 x1 : V3) : Option R :=
(g59_0 (g59_1 S86 (fun y0 y1 y2 y3 => brB y3 (g59_2 k0 y0 y1 y2 y3) ((g59_4 S87 S89 k1) y0 y1 y2))) x0 x1)
theorem t59_5 (S86) (S87) (S89) (h86 : (ctr86 S86).holds cl) (h87 : (ctr87 S87).holds cl) (h89 : (ctr89 S89).holds cl) (x0 x1) : exec cl N c59_5 (e52 x0 x1) K = (g59_5 S86 S87 S89 (fun y0 y1 => K .ret (e56 y0 y1)) (fun y0 y1 => K .ret (e61 y0 y1)) x0 x1) := by
 simp only [c59_5, exec_seq, seqK_normal, seqK_exit, seqK_ret, t59_0, t59_1 S86 h86, c59_3, exec_out, exec_cond', hb59_0, Option.bind_some, brB_true, brB_false, t59_2, exec_ret, exec_skip, kp59_0, kp59_1, t59_4 S87 S89 h87 h89]
 rfl
theorem rk59_0 (y0 y1) : retK d59 .ret (e56 y0 y1) = some [.v U4 y0, .v U1 y1] := by kernel_rfl
theorem rk59_1 (y0 y1) : retK d59 .ret (e61 y0 y1) = some [.v U4 y0, .v U1 y1] := by kernel_rfl
def g59 (S86 : V3 → Option (Bool)) (S87 : V0 → Option V7) (S89 : V0 → V0 → Option V1) (x0 x1 : V3) (k : V3 → Int → Option R) : Option R :=
(g59_5 S86 S87 S89 k k x0 x1)
theorem gen59 (S86) (S87) (S89) (h86 : (ctr86 S86).holds cl) (h87 : (ctr87 S87).holds cl) (h89 : (ctr89 S89).holds cl) (x0 x1) (k : List E → Option R) : exec cl N c59 (e52 x0 x1) (fun e env => (retK d59 e env).bind k) = g59 S86 S87 S89 x0 x1 (fun r0 r1 => k [.v U4 r0, .v U1 r1]) := by
 simp only [c59, t59_5 S86 S87 S89 h86 h87 h89, rk59_0, rk59_1, Option.bind_some]
 rfl
def ctr59 (S : V3 → V3 → Option V7) : Ctr := cv2 59 U4 U4 S fun b => [.v U4 b.1, .v U1 b.2]
def S59 (N : Nat) (x0 : V3) (x1 : V3) : Option V7 := g59 (S86 N) (S87 N) (S89 N) x0 x1 (fun (r0 : V3) (r1 : Int) => some (r0, r1))
def g72_0 (k0 : V3 → V3 → V12 → Option R) (x0 x1 : V3) : Option R :=
k0 x0 x1 (false, (([], ()), (([], ()), ())))
theorem t72_0 (x0 x1) : exec cl N c72_0 (e52 x0 x1) K = (g72_0 (fun y0 y1 y2 => K .normal (e116 y0 y1 y2)) x0 x1) := by
 kernel_rfl
def g72_1 (S86 : V3 → Option (Bool)) (k0 : V3 → V3 → V12 → Bool → Option R) (x0 x1 : V3) (x2 : V12) : Option R :=
(S86 x0).bind fun r1019 =>
brB (!r1019) (k0 x0 x1 x2 true) ((S86 x1).bind fun r1020 =>
k0 x0 x1 x2 (!r1020))
theorem t72_1 (S86) (h86 : (ctr86 S86).holds cl) (x0 x1 x2) : exec cl N c72_1 (e116 x0 x1 x2) K = (g72_1 S86 (fun y0 y1 y2 y3 => K .normal (e117 y0 y1 y2 y3)) x0 x1 x2) := by
 rw [← put_eq h86]
 kernel_rfl
def g72_2 (k0 : V12 → Int → Option R) (x0 x1 : V3) (x2 : V12) (x3 : Bool) : Option R :=
k0 (false, ([], ()), ([], ()), ()) (1 : Int)
theorem t72_2 (x0 x1 x2 x3) : exec cl N c72_2 (e117 x0 x1 x2 x3) K = (g72_2 (fun y0 y1 => K .normal (e118 y0 y1)) x0 x1 x2 x3) := by
 kernel_rfl
theorem kp72_0 (x0 x1) : keep [2, 3, 4, 5] (e118 x0 x1) = (e119 x0 x1) := by kernel_rfl
theorem kp72_1 (x0 x1 x2 x3) : keep [2, 3, 4, 5] (e117 x0 x1 x2 x3) = (e120 x0 x1 x2) := by kernel_rfl
theorem hb72_0 (x0 x1 x2 x3) : boolOf? (ent (e117 x0 x1 x2 x3) (.t 13)) = some x3 := by kernel_rfl
def g72_4 (S56 : V3 → Option (Bool)) (k0 : V3 → V3 → V12 → Bool → Option R) (x0 x1 : V3) (x2 : V12) : Option R :=
(S56 x1).bind fun r1022 =>
k0 x0 x1 x2 r1022
theorem t72_4 (S56) (h56 : (ctr56 S56).holds cl) (x0 x1 x2) : exec cl N c72_4 (e120 x0 x1 x2) K = (g72_4 S56 (fun y0 y1 y2 y3 => K .normal (e121 y0 y1 y2 y3)) x0 x1 x2) := by
 rw [← put_eq h56]
 kernel_rfl
def g72_5 (k0 : V12 → Int → Option R) (x0 x1 : V3) (x2 : V12) (x3 : Bool) : Option R :=
k0 (false, ([], ()), ([], ()), ()) (6 : Int)
theorem t72_5 (x0 x1 x2 x3) : exec cl N c72_5 (e121 x0 x1 x2 x3) K = (g72_5 (fun y0 y1 => K .normal (e118 y0 y1)) x0 x1 x2 x3) := by
 kernel_rfl
theorem kp72_2 (x0 x1 x2 x3) : keep [2, 3, 4, 5] (e121 x0 x1 x2 x3) = (e120 x0 x1 x2) := by kernel_rfl
theorem hb72_1 (x0 x1 x2 x3) : boolOf? (ent (e121 x0 x1 x2 x3) (.t 16)) = some x3 := by kernel_rfl
def g72_7 (S52 : Bool → V3 → V3 → Option V13) (k0 : V12 → Int → Option R) (x0 x1 : V3) (x2 : V12) : Option R :=
(S52 false x0 x1).bind fun r1024 =>
k0 r1024 (0 : Int)
theorem t72_7 (S52) (h52 : (ctr52 S52).holds cl) (x0 x1 x2) : exec cl N c72_7 (e120 x0 x1 x2) K = (g72_7 S52 (fun y0 y1 => K .normal (e118 y0 y1)) x0 x1 x2) := by
 rw [← put_eq h52]
 kernel_rfl
def g72_8 (S52 : Bool → V3 → V3 → Option V13) (S56 : V3 → Option (Bool)) (S86 : V3 → Option (Bool)) (k0 : V12 → Int → Option R) (k1 : V12 → Int → Option R) (x0 x1 : V3) : Option R :=
(g72_0 (g72_1 S86 (fun y0 y1 y2 y3 => brB y3 (g72_2 k0 y0 y1 y2 y3) ((g72_4 S56 (fun y0 y1 y2 y3 => brB y3 (g72_5 k0 y0 y1 y2 y3) ((g72_7 S52 k1) y0 y1 y2))) y0 y1 y2))) x0 x1)
theorem t72_8 (S52) (S56) (S86) (h52 : (ctr52 S52).holds cl) (h56 : (ctr56 S56).holds cl) (h86 : (ctr86 S86).holds cl) (x0 x1) : exec cl N c72_8 (e52 x0 x1) K = (g72_8 S52 S56 S86 (fun y0 y1 => K .ret (e119 y0 y1)) (fun y0 y1 => K .ret (e118 y0 y1)) x0 x1) := by
 simp only [c72_8, exec_seq, seqK_normal, seqK_exit, seqK_ret, t72_0, t72_1 S86 h86, c72_3, exec_out, exec_cond', hb72_0, Option.bind_some, brB_true, brB_false, t72_2, exec_ret, exec_skip, kp72_0, kp72_1, t72_4 S56 h56, c72_6, hb72_1, t72_5, kp72_2, t72_7 S52 h52]
 rfl
theorem rk72_0 (y0 y1) : retK d72 .ret (e119 y0 y1) = some [.v U9 y0, .v U1 y1] := by kernel_rfl
theorem rk72_1 (y0 y1) : retK d72 .ret (e118 y0 y1) = some [.v U9 y0, .v U1 y1] := by kernel_rfl
def g72 (S52 : Bool → V3 → V3 → Option V13) (S56 : V3 → Option (Bool)) (S86 : V3 → Option (Bool)) (x0 x1 : V3) (k : V12 → Int → Option R) : Option R :=
(g72_8 S52 S56 S86 k k x0 x1)
theorem gen72 (S52) (S56) (S86) (h52 : (ctr52 S52).holds cl) (h56 : (ctr56 S56).holds cl) (h86 : (ctr86 S86).holds cl) (x0 x1) (k : List E → Option R) : exec cl N c72 (e52 x0 x1) (fun e env => (retK d72 e env).bind k) = g72 S52 S56 S86 x0 x1 (fun r0 r1 => k [.v U9 r0, .v U1 r1]) := by
 simp only [c72, t72_8 S52 S56 S86 h52 h56 h86, rk72_0, rk72_1, Option.bind_some]
 rfl
def ctr72 (S : V3 → V3 → Option V15) : Ctr := cv2 72 U4 U4 S fun b => [.v U9 b.1, .v U1 b.2]
def S72 (N : Nat) (x0 : V3) (x1 : V3) : Option V15 := g72 (S52 N) (S56 N) (S86 N) x0 x1 (fun (r0 : V12) (r1 : Int) => some (r0, r1))
def g48_14 (S53 : Int → Option V4) (k0 : Int → Int → Int → V12 → V12 → V3 → Option R) (x0 x1 x2 : Int) (x3 : V12) : Option R :=
(S53 (0 : Int)).bind fun r1028 =>
k0 x0 x1 x2 x3 (false, (([], ()), (([], ()), ()))) r1028
theorem t48_14 (S53) (h53 : (ctr53 S53).holds cl) (x0 x1 x2 x3) : exec cl N c48_14 (e209 x0 x1 x2 x3) K = (g48_14 S53 (fun y0 y1 y2 y3 y4 y5 => exec cl N (.seq (.seq c48_2 c48_10) c48_13) (e210 y0 y1 y2 y3 y4 y5) K) x0 x1 x2 x3) := by
 rw [← put_eq h53]
 kernel_rfl
def g48_2 (k0 : Int → Int → V12 → V12 → V3 → Int → Option R) (x0 x1 x2 : Int) (x3 x4 : V12) (x5 : V3) : Option R :=
k0 x0 x2 x3 x4 x5 x1
theorem t48_2 (x0 x1 x2 x3 x4 x5) : exec cl N c48_2 (e210 x0 x1 x2 x3 x4 x5) K = (g48_2 (fun y0 y1 y2 y3 y4 y5 => K .normal (e211 y0 y1 y2 y3 y4 y5)) x0 x1 x2 x3 x4 x5) := by
 kernel_rfl
theorem kp48_0 (x0 x1 x2 x3 x4 x5) : keep [0, 2, 7, 8, 9, 10] (e211 x0 x1 x2 x3 x4 x5) = (e211 x0 x1 x2 x3 x4 x5) := by kernel_rfl
def g48_3 (k0 : Int → Int → V12 → V12 → V3 → Int → Bool → Option R) (x0 x1 : Int) (x2 x3 : V12) (x4 : V3) (x5 : Int) : Option R :=
k0 x0 x1 x2 x3 x4 x5 (decide (x5 ≤ x1))
theorem t48_3 (x0 x1 x2 x3 x4 x5) : exec cl N c48_3 (e211 x0 x1 x2 x3 x4 x5) K = (g48_3 (fun y0 y1 y2 y3 y4 y5 y6 => K .normal (e212 y0 y1 y2 y3 y4 y5 y6)) x0 x1 x2 x3 x4 x5) := by
 kernel_rfl
theorem kp48_1 (x0 x1 x2 x3 x4 x5 x6) : keep [0, 2, 7, 8, 9, 10] (e212 x0 x1 x2 x3 x4 x5 x6) = (e211 x0 x1 x2 x3 x4 x5) := by kernel_rfl
theorem hb48_0 (x0 x1 x2 x3 x4 x5 x6) : boolOf? (ent (e212 x0 x1 x2 x3 x4 x5 x6) (.t 17)) = some x6 := by kernel_rfl
def g48_5 (S59 : V3 → V3 → Option V7) (S71 : Int → Int → V12 → Option V4) (k0 : Int → Int → V12 → V12 → V3 → Int → Option R) (x0 x1 : Int) (x2 x3 : V12) (x4 : V3) (x5 : Int) : Option R :=
(S71 x0 x5 x2).bind fun r1030 =>
(S59 x4 r1030).bind fun r1031 =>
k0 x0 x1 x2 x3 r1031.1 x5
theorem t48_5 (S59) (S71) (h59 : (ctr59 S59).holds cl) (h71 : (ctr71 S71).holds cl) (x0 x1 x2 x3 x4 x5) : exec cl N c48_5 (e211 x0 x1 x2 x3 x4 x5) K = (g48_5 S59 S71 (fun y0 y1 y2 y3 y4 y5 => K .normal (e211 y0 y1 y2 y3 y4 y5)) x0 x1 x2 x3 x4 x5) := by
 rw [← put_eq h59]
 rw [← put_eq h71]
 kernel_rfl
def g48_7 (k0 : Int → Int → V12 → V12 → V3 → Int → Option R) (x0 x1 : Int) (x2 x3 : V12) (x4 : V3) (x5 : Int) : Option R :=
k0 x0 x1 x2 x3 x4 (IntKind.i64.wrap (x5 + (1 : Int)))
theorem t48_7 (x0 x1 x2 x3 x4 x5) : exec cl N c48_7 (e211 x0 x1 x2 x3 x4 x5) K = (g48_7 (fun y0 y1 y2 y3 y4 y5 => K .normal (e211 y0 y1 y2 y3 y4 y5)) x0 x1 x2 x3 x4 x5) := by
 kernel_rfl
def g48_8 (S59 : V3 → V3 → Option V7) (S71 : Int → Int → V12 → Option V4) (k0 : Int → Int → V12 → V12 → V3 → Int → Option R) (k1 : Int → Int → V12 → V12 → V3 → Int → Option R) (x0 x1 : Int) (x2 x3 : V12) (x4 : V3) (x5 : Int) : Option R :=
(g48_3 (fun y0 y1 y2 y3 y4 y5 y6 => brB y6 ((g48_5 S59 S71 ((g48_7 k0))) y0 y1 y2 y3 y4 y5) (k1 y0 y1 y2 y3 y4 y5)) x0 x1 x2 x3 x4 x5)
theorem t48_8 (S59) (S71) (h59 : (ctr59 S59).holds cl) (h71 : (ctr71 S71).holds cl) (x0 x1 x2 x3 x4 x5) : exec cl N c48_8 (e211 x0 x1 x2 x3 x4 x5) K = (g48_8 S59 S71 (fun y0 y1 y2 y3 y4 y5 => K .normal (e211 y0 y1 y2 y3 y4 y5)) (fun y0 y1 y2 y3 y4 y5 => K (.exit 0) (e211 y0 y1 y2 y3 y4 y5)) x0 x1 x2 x3 x4 x5) := by
 simp only [c48_8, exec_seq, seqK_normal, seqK_exit, seqK_ret, t48_3, c48_4, exec_out, exec_cond', hb48_0, Option.bind_some, brB_true, brB_false, exec_skip, exec_exit, kp48_1, c48_6, exec_block, t48_5 S59 S71 h59 h71, blockK_normal, blockK_ret, blockK_eq, kp48_0, t48_7]
 rfl
def l48_9 {R : Type} (S59 : V3 → V3 → Option V7) (S71 : Int → Int → V12 → Option V4) (k0 : Int → Int → V12 → V12 → V3 → Int → Option R) : Nat → Int → Int → V12 → V12 → V3 → Int → Option R
 | 0, _, _, _, _, _, _ => none
 | m + 1, x0, x1, x2, x3, x4, x5 => (g48_8 S59 S71 (l48_9 S59 S71 k0 m) k0 x0 x1 x2 x3 x4 x5)
theorem lt48_9 (S59) (S71) (h59 : (ctr59 S59).holds cl) (h71 : (ctr71 S71).holds cl) : ∀ (m) (x0 x1 x2 x3 x4 x5), iter [0, 2, 7, 8, 9, 10] (fun env K => exec cl N c48_8 env K) K m (e211 x0 x1 x2 x3 x4 x5) = l48_9 S59 S71 (fun y0 y1 y2 y3 y4 y5 => K (.exit 0) (e211 y0 y1 y2 y3 y4 y5)) m x0 x1 x2 x3 x4 x5 := by
 intro m
 induction m with
 | zero => intros; rfl
 | succ m ih =>
   intro x0 x1 x2 x3 x4 x5
   simp only [iter_succ, t48_8 S59 S71 h59 h71, loopK_normal, loopK_exit, loopK_ret, kp48_0, ih]
   rfl
theorem kp48_2 (x0 x1 x2 x3 x4 x5) : keep [0, 7, 8, 9] (e211 x0 x1 x2 x3 x4 x5) = (e213 x0 x2 x3 x4) := by kernel_rfl
def g48_9 (N : Nat) (S59 : V3 → V3 → Option V7) (S71 : Int → Int → V12 → Option V4) (k0 : Int → V12 → V12 → V3 → Option R) (x0 x1 : Int) (x2 x3 : V12) (x4 : V3) (x5 : Int) : Option R :=
l48_9 S59 S71 (fun y0 y1 y2 y3 y4 y5 => k0 y0 y2 y3 y4) N x0 x1 x2 x3 x4 x5
theorem t48_9 (S59) (S71) (h59 : (ctr59 S59).holds cl) (h71 : (ctr71 S71).holds cl) (x0 x1 x2 x3 x4 x5) : exec cl N c48_9 (e211 x0 x1 x2 x3 x4 x5) K = (g48_9 N S59 S71 (fun y0 y1 y2 y3 => K (.exit 0) (e213 y0 y1 y2 y3)) x0 x1 x2 x3 x4 x5) := by
 simp only [c48_9, exec_out, exec_loop, kp48_0, lt48_9 S59 S71 h59 h71, kp48_2]
 rfl
theorem kp48_3 (x0 x1 x2 x3) : keep [0, 7, 8, 9] (e213 x0 x1 x2 x3) = (e213 x0 x1 x2 x3) := by kernel_rfl
def g48_13 (S72 : V3 → V3 → Option V15) (S80 : V3 → Int → Option V4) (k0 : V12 → Option R) (x0 : Int) (x1 x2 : V12) (x3 : V3) : Option R :=
(S80 x1.2.2.1 x0).bind fun r1035 =>
(S72 x3 r1035).bind fun r1036 =>
k0 r1036.1
theorem t48_13 (S72) (S80) (h72 : (ctr72 S72).holds cl) (h80 : (ctr80 S80).holds cl) (x0 x1 x2 x3) : exec cl N c48_13 (e213 x0 x1 x2 x3) K = (g48_13 S72 S80 (fun y0 => exec cl N .ret [(8, .loc U9 .no y0)] K) x0 x1 x2 x3) := by
 rw [← put_eq h72]
 rw [← put_eq h80]
 kernel_rfl
def g48_14b (N : Nat) (S53 : Int → Option V4) (S59 : V3 → V3 → Option V7) (S71 : Int → Int → V12 → Option V4) (S72 : V3 → V3 → Option V15) (S80 : V3 → Int → Option V4) (k0 : V12 → Option R) (x0 x1 x2 : Int) (x3 : V12) : Option R :=
(g48_14 S53 (g48_2 (g48_9 N S59 S71 ((g48_13 S72 S80 k0)))) x0 x1 x2 x3)
theorem t48_14b (S53) (S59) (S71) (S72) (S80) (h53 : (ctr53 S53).holds cl) (h59 : (ctr59 S59).holds cl) (h71 : (ctr71 S71).holds cl) (h72 : (ctr72 S72).holds cl) (h80 : (ctr80 S80).holds cl) (x0 x1 x2 x3) : exec cl N c48_14 (e209 x0 x1 x2 x3) K = (g48_14b N S53 S59 S71 S72 S80 (fun y0 => K .ret [(8, .loc U9 .no y0)]) x0 x1 x2 x3) := by
 simp only [exec_seq, seqK_normal, seqK_exit, seqK_ret, t48_14 S53 h53, t48_2, c48_10, exec_out, exec_block, t48_9 S59 S71 h59 h71, blockK_normal, blockK_ret, blockK_eq, kp48_3, t48_13 S72 S80 h72 h80, exec_ret]
 rfl
theorem rk48_0 (y0) : retK d48 .ret [(8, .loc U9 .no y0)] = some [.v U9 y0] := by kernel_rfl
def g48 (N : Nat) (S53 : Int → Option V4) (S59 : V3 → V3 → Option V7) (S71 : Int → Int → V12 → Option V4) (S72 : V3 → V3 → Option V15) (S80 : V3 → Int → Option V4) (x0 x1 x2 : Int) (x3 : V12) (k : V12 → Option R) : Option R :=
(g48_14b N S53 S59 S71 S72 S80 k x0 x1 x2 x3)
theorem gen48 (S53) (S59) (S71) (S72) (S80) (h53 : (ctr53 S53).holds cl) (h59 : (ctr59 S59).holds cl) (h71 : (ctr71 S71).holds cl) (h72 : (ctr72 S72).holds cl) (h80 : (ctr80 S80).holds cl) (x0 x1 x2 x3) (k : List E → Option R) : exec cl N c48 (e209 x0 x1 x2 x3) (fun e env => (retK d48 e env).bind k) = g48 N S53 S59 S71 S72 S80 x0 x1 x2 x3 (fun r0 => k [.v U9 r0]) := by
 simp only [c48, t48_14b S53 S59 S71 S72 S80 h53 h59 h71 h72 h80, rk48_0, Option.bind_some]
 rfl
def ctr48 (S : Int → Int → Int → V12 → Option V13) : Ctr := cv4 48 U1 U1 U1 U9 S fun b => [.v U9 b]
def S48 (N : Nat) (x0 : Int) (x1 : Int) (x2 : Int) (x3 : V12) : Option V13 := g48 N (S53 N) (S59 N) (S71 N) (S72 N) (S80 N) x0 x1 x2 x3 (fun (r0 : V12) => some (r0))
def g14_0 (k0 : Int → V12 → Option R) (x0 : Int) (x1 : V12) : Option R :=
k0 x0 x1
theorem t14_0 (x0 x1) : exec cl N c14_0 (e122 x0 x1) K = (g14_0 (fun y0 y1 => K .normal (e214 y0 y1)) x0 x1) := by
 kernel_rfl
def g14_5 (S47 : V12 → Int → Int → Int → Int → Option (Int)) (k0 : Int → V12 → Int → Bool → Option R) (x0 : Int) (x1 : V12) : Option R :=
(S47 x1 x0 (60 : Int) (0 : Int) (0 : Int)).bind fun r1040 =>
k0 x0 x1 r1040 (r1040 != (0 : Int))
theorem t14_5 (S47) (h47 : (ctr47 S47).holds cl) (x0 x1) : exec cl N c14_5 (e214 x0 x1) K = (g14_5 S47 (fun y0 y1 y2 y3 => exec cl N c14_4 (e215 y0 y1 y2 y3) K) x0 x1) := by
 rw [← put_eq h47]
 kernel_rfl
def g14_3 (k0 : V14 → Int → Option R) (x0 : Int) (x1 : V12) (x2 : Int) (x3 : Bool) : Option R :=
k0 [] x2
theorem t14_3 (x0 x1 x2 x3) : exec cl N c14_3 (e215 x0 x1 x2 x3) K = (g14_3 (fun y0 y1 => K .normal (e124 y0 y1)) x0 x1 x2 x3) := by
 kernel_rfl
theorem kp14_0 (x0 x1) : keep [0, 3, 4, 5] (e124 x0 x1) = (e216 x0 x1) := by kernel_rfl
theorem kp14_1 (x0 x1 x2 x3) : keep [0, 3, 4, 5] (e215 x0 x1 x2 x3) = [(0, .v U1 x0), (3, .loc U9 .no x1), (4, .dead), (5, .dead)] := by kernel_rfl
theorem hb14_0 (x0 x1 x2 x3) : boolOf? (ent (e215 x0 x1 x2 x3) (.t 13)) = some x3 := by kernel_rfl
def g14_6 (k0 : Int → V12 → V14 → Option R) (x0 : Int) (x1 : V12) : Option R :=
k0 x0 x1 []
theorem t14_6 (x0 x1) : exec cl N c14_6 [(0, .v U1 x0), (3, .loc U9 .no x1), (4, .dead), (5, .dead)] K = (g14_6 (fun y0 y1 y2 => K .normal [(0, .v U1 y0), (3, .loc U9 .no y1), (7, .own true 26 U9 .no y2)]) x0 x1) := by
 kernel_rfl
def g14_7 (k0 : Int → V12 → V14 → Int → Option R) (x0 : Int) (x1 : V12) (x2 : V14) : Option R :=
k0 x0 x1 x2 (0 : Int)
theorem t14_7 (x0 x1 x2) : exec cl N c14_7 [(0, .v U1 x0), (3, .loc U9 .no x1), (7, .own true 26 U9 .no x2)] K = (g14_7 (fun y0 y1 y2 y3 => K .normal (e217 y0 y1 y2 y3)) x0 x1 x2) := by
 kernel_rfl
theorem kp14_2 (x0 x1 x2 x3) : keep [0, 3, 7, 8] (e217 x0 x1 x2 x3) = (e217 x0 x1 x2 x3) := by kernel_rfl
def g14_8 (k0 : Int → V12 → V14 → Int → Bool → Option R) (x0 : Int) (x1 : V12) (x2 : V14) (x3 : Int) : Option R :=
k0 x0 x1 x2 x3 (decide (x3 ≤ x0))
theorem t14_8 (x0 x1 x2 x3) : exec cl N c14_8 (e217 x0 x1 x2 x3) K = (g14_8 (fun y0 y1 y2 y3 y4 => K .normal (e218 y0 y1 y2 y3 y4)) x0 x1 x2 x3) := by
 kernel_rfl
theorem kp14_3 (x0 x1 x2 x3 x4) : keep [0, 3, 7, 8] (e218 x0 x1 x2 x3 x4) = (e217 x0 x1 x2 x3) := by kernel_rfl
theorem hb14_1 (x0 x1 x2 x3 x4) : boolOf? (ent (e218 x0 x1 x2 x3 x4) (.t 17)) = some x4 := by kernel_rfl
def g14_10 (S48 : Int → Int → Int → V12 → Option V13) (k0 : Int → V12 → V14 → Int → Option R) (x0 : Int) (x1 : V12) (x2 : V14) (x3 : Int) : Option R :=
(S48 x0 x3 x3 x1).bind fun r1043 =>
if x2.length + [r1043].length ≤ 2513169434916 then
k0 x0 x1 (x2 ++ [r1043]) x3
else none
theorem t14_10 (S48) (h48 : (ctr48 S48).holds cl) (x0 x1 x2 x3) : exec cl N c14_10 (e217 x0 x1 x2 x3) K = (g14_10 S48 (fun y0 y1 y2 y3 => K .normal (e217 y0 y1 y2 y3)) x0 x1 x2 x3) := by
 rw [← put_eq h48]
 kernel_rfl
def g14_12 (k0 : Int → V12 → V14 → Int → Option R) (x0 : Int) (x1 : V12) (x2 : V14) (x3 : Int) : Option R :=
k0 x0 x1 x2 (IntKind.i64.wrap (x3 + (1 : Int)))
theorem t14_12 (x0 x1 x2 x3) : exec cl N c14_12 (e217 x0 x1 x2 x3) K = (g14_12 (fun y0 y1 y2 y3 => K .normal (e217 y0 y1 y2 y3)) x0 x1 x2 x3) := by
 kernel_rfl
def g14_13 (S48 : Int → Int → Int → V12 → Option V13) (k0 : Int → V12 → V14 → Int → Option R) (k1 : Int → V12 → V14 → Int → Option R) (x0 : Int) (x1 : V12) (x2 : V14) (x3 : Int) : Option R :=
(g14_8 (fun y0 y1 y2 y3 y4 => brB y4 ((g14_10 S48 ((g14_12 k0))) y0 y1 y2 y3) (k1 y0 y1 y2 y3)) x0 x1 x2 x3)
theorem t14_13 (S48) (h48 : (ctr48 S48).holds cl) (x0 x1 x2 x3) : exec cl N c14_13 (e217 x0 x1 x2 x3) K = (g14_13 S48 (fun y0 y1 y2 y3 => K .normal (e217 y0 y1 y2 y3)) (fun y0 y1 y2 y3 => K (.exit 0) (e217 y0 y1 y2 y3)) x0 x1 x2 x3) := by
 simp only [c14_13, exec_seq, seqK_normal, seqK_exit, seqK_ret, t14_8, c14_9, exec_out, exec_cond', hb14_1, Option.bind_some, brB_true, brB_false, exec_skip, exec_exit, kp14_3, c14_11, exec_block, t14_10 S48 h48, blockK_normal, blockK_ret, blockK_eq, kp14_2, t14_12]
 rfl
def l14_14 {R : Type} (S48 : Int → Int → Int → V12 → Option V13) (k0 : Int → V12 → V14 → Int → Option R) : Nat → Int → V12 → V14 → Int → Option R
 | 0, _, _, _, _ => none
 | m + 1, x0, x1, x2, x3 => (g14_13 S48 (l14_14 S48 k0 m) k0 x0 x1 x2 x3)
theorem lt14_14 (S48) (h48 : (ctr48 S48).holds cl) : ∀ (m) (x0 x1 x2 x3), iter [0, 3, 7, 8] (fun env K => exec cl N c14_13 env K) K m (e217 x0 x1 x2 x3) = l14_14 S48 (fun y0 y1 y2 y3 => K (.exit 0) (e217 y0 y1 y2 y3)) m x0 x1 x2 x3 := by
 intro m
 induction m with
 | zero => intros; rfl
 | succ m ih =>
   intro x0 x1 x2 x3
   simp only [iter_succ, t14_13 S48 h48, loopK_normal, loopK_exit, loopK_ret, kp14_2, ih]
   rfl
theorem kp14_4 (x0 x1 x2 x3) : keep [7] (e217 x0 x1 x2 x3) = (e219 x2) := by kernel_rfl
def g14_14 (N : Nat) (S48 : Int → Int → Int → V12 → Option V13) (k0 : V14 → Option R) (x0 : Int) (x1 : V12) (x2 : V14) (x3 : Int) : Option R :=
l14_14 S48 (fun y0 y1 y2 y3 => k0 y2) N x0 x1 x2 x3
theorem t14_14 (S48) (h48 : (ctr48 S48).holds cl) (x0 x1 x2 x3) : exec cl N c14_14 (e217 x0 x1 x2 x3) K = (g14_14 N S48 (fun y0 => K (.exit 0) (e219 y0)) x0 x1 x2 x3) := by
 simp only [c14_14, exec_out, exec_loop, kp14_2, lt14_14 S48 h48, kp14_4]
 rfl
theorem kp14_5 (x0) : keep [7] (e219 x0) = (e219 x0) := by kernel_rfl
def g14_16 (k0 : Int → V14 → Option R) (x0 : V14) : Option R :=
k0 (0 : Int) x0
theorem t14_16 (x0) : exec cl N c14_16 (e219 x0) K = (g14_16 (fun y0 y1 => K .normal (e220 y0 y1)) x0) := by
 kernel_rfl
def g14_17 (N : Nat) (S47 : V12 → Int → Int → Int → Int → Option (Int)) (S48 : Int → Int → Int → V12 → Option V13) (k0 : V14 → Int → Option R) (k1 : Int → V14 → Option R) (x0 : Int) (x1 : V12) : Option R :=
(g14_0 (g14_5 S47 (fun y0 y1 y2 y3 => brB y3 (g14_3 k0 y0 y1 y2 y3) ((g14_6 (g14_7 (g14_14 N S48 ((g14_16 k1))))) y0 y1))) x0 x1)
theorem t14_17 (S47) (S48) (h47 : (ctr47 S47).holds cl) (h48 : (ctr48 S48).holds cl) (x0 x1) : exec cl N c14_17 (e122 x0 x1) K = (g14_17 N S47 S48 (fun y0 y1 => K .ret (e216 y0 y1)) (fun y0 y1 => K .ret (e220 y0 y1)) x0 x1) := by
 simp only [c14_17, exec_seq, seqK_normal, seqK_exit, seqK_ret, t14_0, t14_5 S47 h47, c14_4, exec_out, exec_cond', hb14_0, Option.bind_some, brB_true, brB_false, t14_3, exec_ret, exec_skip, kp14_0, kp14_1, t14_6, t14_7, c14_15, exec_block, t14_14 S48 h48, blockK_normal, blockK_ret, blockK_eq, kp14_5, t14_16]
 rfl
theorem rk14_0 (y0 y1) : retK d14 .ret (e216 y0 y1) = some [.own true 26 U9 .no y0, .v U1 y1] := by kernel_rfl
theorem rk14_1 (y0 y1) : retK d14 .ret (e220 y0 y1) = some [.own true 26 U9 .no y1, .v U1 y0] := by kernel_rfl
def g14 (N : Nat) (S47 : V12 → Int → Int → Int → Int → Option (Int)) (S48 : Int → Int → Int → V12 → Option V13) (x0 : Int) (x1 : V12) (k : V14 → Int → Option R) : Option R :=
(g14_17 N S47 S48 k (fun y0 y1 => k y1 y0) x0 x1)
theorem gen14 (S47) (S48) (h47 : (ctr47 S47).holds cl) (h48 : (ctr48 S48).holds cl) (x0 x1) (k : List E → Option R) : exec cl N c14 (e122 x0 x1) (fun e env => (retK d14 e env).bind k) = g14 N S47 S48 x0 x1 (fun r0 r1 => k [.own true 26 U9 .no r0, .v U1 r1]) := by
 simp only [c14, t14_17 S47 S48 h47 h48, rk14_0, rk14_1, Option.bind_some]
 rfl
def ctr14 (S : Int → V12 → Option V16) : Ctr := cv2 14 U1 U9 S fun b => [.own true 26 U9 .no b.1, .v U1 b.2]
def S14 (N : Nat) (x0 : Int) (x1 : V12) : Option V16 := g14 N (S47 N) (S48 N) x0 x1 (fun (r0 : V14) (r1 : Int) => some (r0, r1))
def g21_2 (S51 : V3 → V3 → Option (Bool)) (k0 : Bool → Option R) (x0 x1 : V12) : Option R :=
brB (x0.1 == x1.1) ((S51 x0.2.1 x1.2.1).bind fun r1055 =>
brB r1055 ((S51 x0.2.2.1 x1.2.2.1).bind fun r1056 =>
k0 r1056) (k0 false)) (k0 false)
theorem t21_2 (S51) (h51 : (ctr51 S51).holds cl) (x0 x1) : exec cl N c21_2 (e194 x0 x1) K = (g21_2 S51 (fun y0 => exec cl N .ret [(4, .v .bool y0)] K) x0 x1) := by
 rw [← put_eq h51]
 kernel_rfl
def g21_2b (S51 : V3 → V3 → Option (Bool)) (k0 : Bool → Option R) (x0 x1 : V12) : Option R :=
(g21_2 S51 k0 x0 x1)
theorem t21_2b (S51) (h51 : (ctr51 S51).holds cl) (x0 x1) : exec cl N c21_2 (e194 x0 x1) K = (g21_2b S51 (fun y0 => K .ret [(4, .v .bool y0)]) x0 x1) := by
 simp only [exec_seq, seqK_normal, seqK_exit, seqK_ret, t21_2 S51 h51, exec_ret]
 rfl
theorem rk21_0 (y0) : retK d21 .ret [(4, .v .bool y0)] = some [.v .bool y0] := by kernel_rfl
def g21 (S51 : V3 → V3 → Option (Bool)) (x0 x1 : V12) (k : Bool → Option R) : Option R :=
(g21_2b S51 k x0 x1)
theorem gen21 (S51) (h51 : (ctr51 S51).holds cl) (x0 x1) (k : List E → Option R) : exec cl N c21 (e194 x0 x1) (fun e env => (retK d21 e env).bind k) = g21 S51 x0 x1 (fun r0 => k [.v .bool r0]) := by
 simp only [c21, t21_2b S51 h51, rk21_0, Option.bind_some]
 rfl
def ctr21 (S : V12 → V12 → Option (Bool)) : Ctr := cv2 21 U9 U9 S fun b => [.v .bool b]
def S21 (N : Nat) (x0 : V12) (x1 : V12) : Option (Bool) := g21 (S51 N) x0 x1 (fun (r0 : Bool) => some (r0))
def g15_0 (k0 : V14 → V14 → Option R) (x0 x1 : V14) : Option R :=
k0 x0 x1
theorem t15_0 (x0 x1) : exec cl N c15_0 (e221 x0 x1) K = (g15_0 (fun y0 y1 => K .normal (e221 y0 y1)) x0 x1) := by
 kernel_rfl
def g15_1 (k0 : V14 → V14 → Bool → Option R) (x0 x1 : V14) : Option R :=
k0 x0 x1 ((x0.length : Int) != (x1.length : Int))
theorem t15_1 (x0 x1) : exec cl N c15_1 (e221 x0 x1) K = (g15_1 (fun y0 y1 y2 => K .normal (e222 y0 y1 y2)) x0 x1) := by
 kernel_rfl
def g15_2 (k0 : Bool → Option R) (x0 x1 : V14) (x2 : Bool) : Option R :=
k0 false
theorem t15_2 (x0 x1 x2) : exec cl N c15_2 (e222 x0 x1 x2) K = (g15_2 (fun y0 => K .normal [(4, .v .bool y0)]) x0 x1 x2) := by
 kernel_rfl
theorem kp15_0 (x0) : keep [0, 1, 4] [(4, .v .bool x0)] = (e223 x0) := by kernel_rfl
theorem kp15_1 (x0 x1 x2) : keep [0, 1, 4] (e222 x0 x1 x2) = [(0, .v U10 x0), (1, .v U10 x1), (4, .dead)] := by kernel_rfl
theorem hb15_0 (x0 x1 x2) : boolOf? (ent (e222 x0 x1 x2) (.t 10)) = some x2 := by kernel_rfl
def g15_4 (k0 : V14 → V14 → Int → Option R) (x0 x1 : V14) : Option R :=
k0 x0 x1 (0 : Int)
theorem t15_4 (x0 x1) : exec cl N c15_4 [(0, .v U10 x0), (1, .v U10 x1), (4, .dead)] K = (g15_4 (fun y0 y1 y2 => K .normal (e224 y0 y1 y2)) x0 x1) := by
 kernel_rfl
theorem kp15_2 (x0 x1 x2) : keep [0, 1, 5] (e224 x0 x1 x2) = (e224 x0 x1 x2) := by kernel_rfl
def g15_5 (k0 : V14 → V14 → Int → Bool → Option R) (x0 x1 : V14) (x2 : Int) : Option R :=
k0 x0 x1 x2 (decide (x2 < (x0.length : Int)))
theorem t15_5 (x0 x1 x2) : exec cl N c15_5 (e224 x0 x1 x2) K = (g15_5 (fun y0 y1 y2 y3 => K .normal (e225 y0 y1 y2 y3)) x0 x1 x2) := by
 kernel_rfl
theorem kp15_3 (x0 x1 x2 x3) : keep [0, 1, 5] (e225 x0 x1 x2 x3) = (e224 x0 x1 x2) := by kernel_rfl
theorem hb15_1 (x0 x1 x2 x3) : boolOf? (ent (e225 x0 x1 x2 x3) (.t 14)) = some x3 := by kernel_rfl
def g15_7 (S21 : V12 → V12 → Option (Bool)) (k0 : V14 → V14 → Int → Bool → Option R) (x0 x1 : V14) (x2 : Int) : Option R :=
if 0 ≤ x2 ∧ x2 < (x0.length : Int) then
if 0 ≤ x2 ∧ x2 < (x1.length : Int) then
(S21 (x0.getD x2.toNat (false, (([], ()), (([], ()), ())))) (x1.getD x2.toNat (false, (([], ()), (([], ()), ()))))).bind fun r1061 =>
k0 x0 x1 x2 (!r1061)
else none
else none
theorem t15_7 (S21) (h21 : (ctr21 S21).holds cl) (x0 x1 x2) : exec cl N c15_7 (e224 x0 x1 x2) K = (g15_7 S21 (fun y0 y1 y2 y3 => K .normal (e226 y0 y1 y2 y3)) x0 x1 x2) := by
 rw [← put_eq h21]
 kernel_rfl
def g15_8 (k0 : Bool → Option R) (x0 x1 : V14) (x2 : Int) (x3 : Bool) : Option R :=
k0 false
theorem t15_8 (x0 x1 x2 x3) : exec cl N c15_8 (e226 x0 x1 x2 x3) K = (g15_8 (fun y0 => K .normal [(4, .v .bool y0)]) x0 x1 x2 x3) := by
 kernel_rfl
theorem kp15_4 (x0) : keep [0, 1, 4, 5] [(4, .v .bool x0)] = (e7 x0) := by kernel_rfl
theorem kp15_5 (x0 x1 x2 x3) : keep [0, 1, 4, 5] (e226 x0 x1 x2 x3) = (e227 x0 x1 x2) := by kernel_rfl
theorem hb15_2 (x0 x1 x2 x3) : boolOf? (ent (e226 x0 x1 x2 x3) (.t 26)) = some x3 := by kernel_rfl
theorem kp15_6 (x0) : keep [0, 1, 4, 5] (e7 x0) = (e7 x0) := by kernel_rfl
theorem kp15_7 (x0 x1 x2) : keep [0, 1, 4, 5] (e227 x0 x1 x2) = (e227 x0 x1 x2) := by kernel_rfl
def g15_11 (k0 : V14 → V14 → Int → Option R) (x0 x1 : V14) (x2 : Int) : Option R :=
k0 x0 x1 (IntKind.i64.wrap (x2 + (1 : Int)))
theorem t15_11 (x0 x1 x2) : exec cl N c15_11 (e227 x0 x1 x2) K = (g15_11 (fun y0 y1 y2 => K .normal (e224 y0 y1 y2)) x0 x1 x2) := by
 kernel_rfl
def g15_12 (S21 : V12 → V12 → Option (Bool)) (k0 : Bool → Option R) (k1 : V14 → V14 → Int → Option R) (k2 : V14 → V14 → Int → Option R) (x0 x1 : V14) (x2 : Int) : Option R :=
(g15_5 (fun y0 y1 y2 y3 => brB y3 ((g15_7 S21 (fun y0 y1 y2 y3 => brB y3 (g15_8 k0 y0 y1 y2 y3) (((g15_11 k1)) y0 y1 y2))) y0 y1 y2) (k2 y0 y1 y2)) x0 x1 x2)
theorem t15_12 (S21) (h21 : (ctr21 S21).holds cl) (x0 x1 x2) : exec cl N c15_12 (e224 x0 x1 x2) K = (g15_12 S21 (fun y0 => K .ret (e7 y0)) (fun y0 y1 y2 => K .normal (e224 y0 y1 y2)) (fun y0 y1 y2 => K (.exit 0) (e224 y0 y1 y2)) x0 x1 x2) := by
 simp only [c15_12, exec_seq, seqK_normal, seqK_exit, seqK_ret, t15_5, c15_6, exec_out, exec_cond', hb15_1, Option.bind_some, brB_true, brB_false, exec_skip, exec_exit, kp15_3, c15_10, exec_block, t15_7 S21 h21, c15_9, hb15_2, t15_8, exec_ret, kp15_4, kp15_5, blockK_normal, blockK_ret, blockK_eq, kp15_6, kp15_7, t15_11]
 rfl
def l15_13 {R : Type} (S21 : V12 → V12 → Option (Bool)) (k0 : Bool → Option R) (k1 : V14 → V14 → Int → Option R) : Nat → V14 → V14 → Int → Option R
 | 0, _, _, _ => none
 | m + 1, x0, x1, x2 => (g15_12 S21 k0 (l15_13 S21 k0 k1 m) k1 x0 x1 x2)
theorem lt15_13 (S21) (h21 : (ctr21 S21).holds cl) : ∀ (m) (x0 x1 x2), iter [0, 1, 5] (fun env K => exec cl N c15_12 env K) K m (e224 x0 x1 x2) = l15_13 S21 (fun y0 => K .ret (e7 y0)) (fun y0 y1 y2 => K (.exit 0) (e224 y0 y1 y2)) m x0 x1 x2 := by
 intro m
 induction m with
 | zero => intros; rfl
 | succ m ih =>
   intro x0 x1 x2
   simp only [iter_succ, t15_12 S21 h21, loopK_normal, loopK_exit, loopK_ret, kp15_2, ih]
   rfl
theorem kp15_8 (x0) : keep [4] (e7 x0) = [(4, .v .bool x0)] := by kernel_rfl
theorem kp15_9 (x0 x1 x2) : keep [4] (e224 x0 x1 x2) = [(4, .dead)] := by kernel_rfl
def g15_13 (N : Nat) (S21 : V12 → V12 → Option (Bool)) (k0 : Bool → Option R) (k1 : Option R) (x0 x1 : V14) (x2 : Int) : Option R :=
l15_13 S21 k0 (fun y0 y1 y2 => k1) N x0 x1 x2
theorem t15_13 (S21) (h21 : (ctr21 S21).holds cl) (x0 x1 x2) : exec cl N c15_13 (e224 x0 x1 x2) K = (g15_13 N S21 (fun y0 => K .ret [(4, .v .bool y0)]) (K (.exit 0) [(4, .dead)]) x0 x1 x2) := by
 simp only [c15_13, exec_out, exec_loop, kp15_2, lt15_13 S21 h21, kp15_8, kp15_9]
 rfl
theorem kp15_10 (x0) : keep [4] [(4, .v .bool x0)] = [(4, .v .bool x0)] := by kernel_rfl
theorem kp15_11 : keep [4] [(4, .dead)] = [(4, .dead)] := by kernel_rfl
def g15_15 (k0 : Bool → Option R) : Option R :=
k0 true
theorem t15_15 : exec cl N c15_15 [(4, .dead)] K = (g15_15 (fun y0 => K .normal [(4, .v .bool y0)])) := by
 kernel_rfl
def g15_16 (N : Nat) (S21 : V12 → V12 → Option (Bool)) (k0 : Bool → Option R) (k1 : Bool → Option R) (x0 x1 : V14) : Option R :=
(g15_0 (g15_1 (fun y0 y1 y2 => brB y2 (g15_2 k0 y0 y1 y2) ((g15_4 (g15_13 N S21 k1 (g15_15 k1))) y0 y1))) x0 x1)
theorem t15_16 (S21) (h21 : (ctr21 S21).holds cl) (x0 x1) : exec cl N c15_16 (e221 x0 x1) K = (g15_16 N S21 (fun y0 => K .ret (e223 y0)) (fun y0 => K .ret [(4, .v .bool y0)]) x0 x1) := by
 simp only [c15_16, exec_seq, seqK_normal, seqK_exit, seqK_ret, t15_0, t15_1, c15_3, exec_out, exec_cond', hb15_0, Option.bind_some, brB_true, brB_false, t15_2, exec_ret, exec_skip, kp15_0, kp15_1, t15_4, c15_14, exec_block, t15_13 S21 h21, blockK_normal, blockK_ret, blockK_eq, kp15_10, kp15_11, t15_15]
 rfl
theorem rk15_0 (y0) : retK d15 .ret (e223 y0) = some [.v .bool y0] := by kernel_rfl
theorem rk15_1 (y0) : retK d15 .ret [(4, .v .bool y0)] = some [.v .bool y0] := by kernel_rfl
def g15 (N : Nat) (S21 : V12 → V12 → Option (Bool)) (x0 x1 : V14) (k : Bool → Option R) : Option R :=
(g15_16 N S21 k k x0 x1)
theorem gen15 (S21) (h21 : (ctr21 S21).holds cl) (x0 x1) (k : List E → Option R) : exec cl N c15 (e221 x0 x1) (fun e env => (retK d15 e env).bind k) = g15 N S21 x0 x1 (fun r0 => k [.v .bool r0]) := by
 simp only [c15, t15_16 S21 h21, rk15_0, rk15_1, Option.bind_some]
 rfl
def ctr15 (S : V14 → V14 → Option (Bool)) : Ctr := cv2 15 U10 U10 S fun b => [.v .bool b]
def S15 (N : Nat) (x0 : V14) (x1 : V14) : Option (Bool) := g15 N (S21 N) x0 x1 (fun (r0 : Bool) => some (r0))
def g3_0 (k0 : Int → V12 → Option R) (x0 : Int) (x1 : V12) : Option R :=
k0 x0 x1
theorem t3_0 (x0 x1) : exec cl N c3_0 (e122 x0 x1) K = (g3_0 (fun y0 y1 => K .normal (e214 y0 y1)) x0 x1) := by
 kernel_rfl
def g3_1 (S11 : Option (Bool)) (S12 : V14 → Int → Option (Bool)) (k0 : Int → V12 → Bool → Option R) (x0 : Int) (x1 : V12) : Option R :=
(S11).bind fun r1064 =>
brB (!r1064) (k0 x0 x1 true) (brB (decide (x0 > (16 : Int))) (brB (decide (x0 ≤ (60 : Int))) (k0 x0 x1 true) ((S12 [x1] (10 : Int)).bind fun r1067 =>
k0 x0 x1 (!r1067))) ((S12 [x1] (10 : Int)).bind fun r1068 =>
k0 x0 x1 (!r1068)))
theorem t3_1 (S11) (S12) (h11 : (ctr11 S11).holds cl) (h12 : (ctr12 S12).holds cl) (x0 x1) : exec cl N c3_1 (e214 x0 x1) K = (g3_1 S11 S12 (fun y0 y1 y2 => K .normal (e228 y0 y1 y2)) x0 x1) := by
 rw [← put_eq h11]
 rw [← put_eq h12]
 kernel_rfl
def g3_2 (S11 : Option (Bool)) (k0 : Bool → Option R) (x0 : Int) (x1 : V12) (x2 : Bool) : Option R :=
(S11).bind fun r1069 =>
k0 r1069
theorem t3_2 (S11) (h11 : (ctr11 S11).holds cl) (x0 x1 x2) : exec cl N c3_2 (e228 x0 x1 x2) K = (g3_2 S11 (fun y0 => K .normal [(4, .v .bool y0)]) x0 x1 x2) := by
 rw [← put_eq h11]
 kernel_rfl
theorem kp3_0 (x0) : keep [0, 3, 4] [(4, .v .bool x0)] = (e229 x0) := by kernel_rfl
theorem kp3_1 (x0 x1 x2) : keep [0, 3, 4] (e228 x0 x1 x2) = [(0, .v U1 x0), (3, .loc U9 .no x1), (4, .dead)] := by kernel_rfl
theorem hb3_0 (x0 x1 x2) : boolOf? (ent (e228 x0 x1 x2) (.t 24)) = some x2 := by kernel_rfl
def g3_7 (S13 : Int → V12 → Option V16) (S14 : Int → V12 → Option V16) (S15 : V14 → V14 → Option (Bool)) (k0 : Bool → Option R) (x0 : Int) (x1 : V12) : Option R :=
(S13 x0 x1).bind fun r1073 =>
(S14 x0 x1).bind fun r1074 =>
brB (r1073.2 == r1074.2) ((S15 r1073.1 r1074.1).bind fun r1076 =>
k0 r1076) (k0 false)
theorem t3_7 (S13) (S14) (S15) (h13 : (ctr13 S13).holds cl) (h14 : (ctr14 S14).holds cl) (h15 : (ctr15 S15).holds cl) (x0 x1) : exec cl N c3_7 [(0, .v U1 x0), (3, .loc U9 .no x1), (4, .dead)] K = (g3_7 S13 S14 S15 (fun y0 => exec cl N .ret [(4, .v .bool y0)] K) x0 x1) := by
 rw [← put_eq h13]
 rw [← put_eq h14]
 rw [← put_eq h15]
 kernel_rfl
def g3_8 (S11 : Option (Bool)) (S12 : V14 → Int → Option (Bool)) (S13 : Int → V12 → Option V16) (S14 : Int → V12 → Option V16) (S15 : V14 → V14 → Option (Bool)) (k0 : Bool → Option R) (k1 : Bool → Option R) (x0 : Int) (x1 : V12) : Option R :=
(g3_0 (g3_1 S11 S12 (fun y0 y1 y2 => brB y2 (g3_2 S11 k0 y0 y1 y2) ((g3_7 S13 S14 S15 k1) y0 y1))) x0 x1)
theorem t3_8 (S11) (S12) (S13) (S14) (S15) (h11 : (ctr11 S11).holds cl) (h12 : (ctr12 S12).holds cl) (h13 : (ctr13 S13).holds cl) (h14 : (ctr14 S14).holds cl) (h15 : (ctr15 S15).holds cl) (x0 x1) : exec cl N c3_8 (e122 x0 x1) K = (g3_8 S11 S12 S13 S14 S15 (fun y0 => K .ret (e229 y0)) (fun y0 => K .ret [(4, .v .bool y0)]) x0 x1) := by
 simp only [c3_8, exec_seq, seqK_normal, seqK_exit, seqK_ret, t3_0, t3_1 S11 S12 h11 h12, c3_3, exec_out, exec_cond', hb3_0, Option.bind_some, brB_true, brB_false, t3_2 S11 h11, exec_ret, exec_skip, kp3_0, kp3_1, t3_7 S13 S14 S15 h13 h14 h15]
 rfl
theorem rk3_0 (y0) : retK d3 .ret (e229 y0) = some [.v .bool y0] := by kernel_rfl
theorem rk3_1 (y0) : retK d3 .ret [(4, .v .bool y0)] = some [.v .bool y0] := by kernel_rfl
def g3 (S11 : Option (Bool)) (S12 : V14 → Int → Option (Bool)) (S13 : Int → V12 → Option V16) (S14 : Int → V12 → Option V16) (S15 : V14 → V14 → Option (Bool)) (x0 : Int) (x1 : V12) (k : Bool → Option R) : Option R :=
(g3_8 S11 S12 S13 S14 S15 k k x0 x1)
theorem gen3 (S11) (S12) (S13) (S14) (S15) (h11 : (ctr11 S11).holds cl) (h12 : (ctr12 S12).holds cl) (h13 : (ctr13 S13).holds cl) (h14 : (ctr14 S14).holds cl) (h15 : (ctr15 S15).holds cl) (x0 x1) (k : List E → Option R) : exec cl N c3 (e122 x0 x1) (fun e env => (retK d3 e env).bind k) = g3 S11 S12 S13 S14 S15 x0 x1 (fun r0 => k [.v .bool r0]) := by
 simp only [c3, t3_8 S11 S12 S13 S14 S15 h11 h12 h13 h14 h15, rk3_0, rk3_1, Option.bind_some]
 rfl
def ctr3 (S : Int → V12 → Option (Bool)) : Ctr := cv2 3 U1 U9 S fun b => [.v .bool b]
def S3 (N : Nat) (x0 : Int) (x1 : V12) : Option (Bool) := g3 (S11 N) (S12 N) (S13 N) (S14 N) (S15 N) x0 x1 (fun (r0 : Bool) => some (r0))
end Go.Fw.L51
