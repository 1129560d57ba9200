/- Printed by an own program for this claim: the machine's code of functions, or their typed forms with their equations; no conditions. -/
import Derived.Test.YtbdlccajpcomjaaFwMe17a
import Derived.Test.YtbdlccajpcomjaaFwB4
set_option linter.unusedVariables false
set_option linter.unusedSimpArgs false
namespace Go.Fw.L19
open Go Go.Fw
set_option maxRecDepth 100000
set_option linter.unusedVariables false
set_option linter.unusedSimpArgs false
variable {N : Nat} {cl : Cal} {R : Type} {K : KE R}
def g20_0 (k0 : V14 → V14 → V14 → Option R) (x0 x1 : V14) : Option R :=
k0 x0 x1 ([], ([], ()))
theorem t20_0 (x0 x1) : exec cl N c20_0 (e84 x0 x1) K = (g20_0 (fun y0 y1 y2 => K .normal (e85 y0 y1 y2)) x0 x1) := by
 kernel_rfl
def g20_5 (S9 : V14 → Option (Int)) (k0 : V14 → V14 → V14 → Int → Bool → Option R) (x0 x1 x2 : V14) : Option R :=
(S9 x0).bind fun r428 =>
k0 x0 x1 x2 r428 (r428 != (0 : Int))
theorem t20_5 (S9) (h9 : (ctr9 S9).holds cl) (x0 x1 x2) : exec cl N c20_5 (e85 x0 x1 x2) K = (g20_5 S9 (fun y0 y1 y2 y3 y4 => exec cl N c20_4 (e86 y0 y1 y2 y3 y4) K) x0 x1 x2) := by
 rw [← put_eq h9]
 kernel_rfl
def g20_3 (k0 : V14 → Int → Option R) (x0 x1 x2 : V14) (x3 : Int) (x4 : Bool) : Option R :=
k0 ([], [], ()) x3
theorem t20_3 (x0 x1 x2 x3 x4) : exec cl N c20_3 (e86 x0 x1 x2 x3 x4) K = (g20_3 (fun y0 y1 => K .normal (e87 y0 y1)) x0 x1 x2 x3 x4) := by
 kernel_rfl
theorem kp20_0 (x0 x1) : keep [2, 3, 4, 5] (e87 x0 x1) = (e88 x0 x1) := by kernel_rfl
theorem kp20_1 (x0 x1 x2 x3 x4) : keep [2, 3, 4, 5] (e86 x0 x1 x2 x3 x4) = (e89 x0 x1 x2) := by kernel_rfl
theorem hb20_0 (x0 x1 x2 x3 x4) : boolOf? (ent (e86 x0 x1 x2 x3 x4) (.t 11)) = some x4 := by kernel_rfl
def g20_10 (S9 : V14 → Option (Int)) (k0 : V14 → V14 → V14 → Int → Bool → Option R) (x0 x1 x2 : V14) : Option R :=
(S9 x1).bind fun r431 =>
k0 x0 x1 x2 r431 (r431 != (0 : Int))
theorem t20_10 (S9) (h9 : (ctr9 S9).holds cl) (x0 x1 x2) : exec cl N c20_10 (e89 x0 x1 x2) K = (g20_10 S9 (fun y0 y1 y2 y3 y4 => exec cl N c20_9 (e90 y0 y1 y2 y3 y4) K) x0 x1 x2) := by
 rw [← put_eq h9]
 kernel_rfl
def g20_8 (k0 : V14 → Int → Option R) (x0 x1 x2 : V14) (x3 : Int) (x4 : Bool) : Option R :=
k0 ([], [], ()) x3
theorem t20_8 (x0 x1 x2 x3 x4) : exec cl N c20_8 (e90 x0 x1 x2 x3 x4) K = (g20_8 (fun y0 y1 => K .normal (e87 y0 y1)) x0 x1 x2 x3 x4) := by
 kernel_rfl
theorem kp20_2 (x0 x1 x2 x3 x4) : keep [2, 3, 4, 5] (e90 x0 x1 x2 x3 x4) = (e89 x0 x1 x2) := by kernel_rfl
theorem hb20_1 (x0 x1 x2 x3 x4) : boolOf? (ent (e90 x0 x1 x2 x3 x4) (.t 17)) = some x4 := by kernel_rfl
def g20_11 (k0 : V14 → V14 → V14 → Bool → Option R) (x0 x1 x2 : V14) : Option R :=
k0 x0 x1 x2 (decide ((IntKind.i64.wrap ((x0.2.1.length : Int) + (x1.2.1.length : Int))) > (30 : Int)))
theorem t20_11 (x0 x1 x2) : exec cl N c20_11 (e89 x0 x1 x2) K = (g20_11 (fun y0 y1 y2 y3 => K .normal (e91 y0 y1 y2 y3)) x0 x1 x2) := by
 kernel_rfl
def g20_12 (k0 : V14 → Int → Option R) (x0 x1 x2 : V14) (x3 : Bool) : Option R :=
k0 ([], [], ()) (3 : Int)
theorem t20_12 (x0 x1 x2 x3) : exec cl N c20_12 (e91 x0 x1 x2 x3) K = (g20_12 (fun y0 y1 => K .normal (e87 y0 y1)) x0 x1 x2 x3) := by
 kernel_rfl
theorem kp20_3 (x0 x1 x2 x3) : keep [2, 3, 4, 5] (e91 x0 x1 x2 x3) = (e89 x0 x1 x2) := by kernel_rfl
theorem hb20_2 (x0 x1 x2 x3) : boolOf? (ent (e91 x0 x1 x2 x3) (.t 27)) = some x3 := by kernel_rfl
def g20_14 (k0 : V14 → Int → Option R) (x0 x1 x2 : V14) : Option R :=
if ([] : List V10).length + x0.2.1.length ≤ 3518437208883 then
if (([] : List V10) ++ x0.2.1).length + x1.2.1.length ≤ 3518437208883 then
k0 (x0.1, ((([] : List V10) ++ x0.2.1) ++ x1.2.1), ()) (0 : Int)
else none
else none
theorem t20_14 (x0 x1 x2) : exec cl N c20_14 (e89 x0 x1 x2) K = (g20_14 (fun y0 y1 => K .normal (e92 y0 y1)) x0 x1 x2) := by
 kernel_rfl
def g20_15 (S9 : V14 → Option (Int)) (k0 : V14 → Int → Option R) (k1 : V14 → Int → Option R) (x0 x1 : V14) : Option R :=
(g20_0 (g20_5 S9 (fun y0 y1 y2 y3 y4 => brB y4 (g20_3 k0 y0 y1 y2 y3 y4) ((g20_10 S9 (fun y0 y1 y2 y3 y4 => brB y4 (g20_8 k0 y0 y1 y2 y3 y4) ((g20_11 (fun y0 y1 y2 y3 => brB y3 (g20_12 k0 y0 y1 y2 y3) ((g20_14 k1) y0 y1 y2))) y0 y1 y2))) y0 y1 y2))) x0 x1)
theorem t20_15 (S9) (h9 : (ctr9 S9).holds cl) (x0 x1) : exec cl N c20_15 (e84 x0 x1) K = (g20_15 S9 (fun y0 y1 => K .ret (e88 y0 y1)) (fun y0 y1 => K .ret (e92 y0 y1)) x0 x1) := by
 simp only [c20_15, exec_seq, seqK_normal, seqK_exit, seqK_ret, t20_0, t20_5 S9 h9, c20_4, exec_out, exec_cond', hb20_0, Option.bind_some, brB_true, brB_false, t20_3, exec_ret, exec_skip, kp20_0, kp20_1, t20_10 S9 h9, c20_9, hb20_1, t20_8, kp20_2, t20_11, c20_13, hb20_2, t20_12, kp20_3, t20_14]
 rfl
theorem rk20_0 (y0 y1) : retK d20 .ret (e88 y0 y1) = some [.v U17 y0, .v U2 y1] := by kernel_rfl
theorem rk20_1 (y0 y1) : retK d20 .ret (e92 y0 y1) = some [.v U17 y0, .v U2 y1] := by kernel_rfl
def g20 (S9 : V14 → Option (Int)) (x0 x1 : V14) (k : V14 → Int → Option R) : Option R :=
(g20_15 S9 k k x0 x1)
theorem gen20 (S9) (h9 : (ctr9 S9).holds cl) (x0 x1) (k : List E → Option R) : exec cl N c20 (e84 x0 x1) (fun e env => (retK d20 e env).bind k) = g20 S9 x0 x1 (fun r0 r1 => k [.v U17 r0, .v U2 r1]) := by
 simp only [c20, t20_15 S9 h9, rk20_0, rk20_1, Option.bind_some]
 rfl
def ctr20 (S : V14 → V14 → Option V16) : Ctr := cv2 20 U17 U17 S fun b => [.v U17 b.1, .v U2 b.2]
def S20 (N : Nat) (x0 : V14) (x1 : V14) : Option V16 := g20 (S9 N) x0 x1 (fun (r0 : V14) (r1 : Int) => some (r0, r1))
def g41_0 (k0 : V4 → V4 → Option R) (x0 x1 : V4) : Option R :=
k0 x0 x1
theorem t41_0 (x0 x1) : exec cl N c41_0 (e127 x0 x1) K = (g41_0 (fun y0 y1 => K .normal (e127 y0 y1)) x0 x1) := by
 kernel_rfl
def g41_1 (k0 : V4 → V4 → Bool → Option R) (x0 x1 : V4) : Option R :=
k0 x0 x1 ((x0.length : Int) != (x1.length : Int))
theorem t41_1 (x0 x1) : exec cl N c41_1 (e127 x0 x1) K = (g41_1 (fun y0 y1 y2 => K .normal (e128 y0 y1 y2)) x0 x1) := by
 kernel_rfl
def g41_2 (k0 : Bool → Option R) (x0 x1 : V4) (x2 : Bool) : Option R :=
k0 false
theorem t41_2 (x0 x1 x2) : exec cl N c41_2 (e128 x0 x1 x2) K = (g41_2 (fun y0 => K .normal [(4, .v .bool y0)]) x0 x1 x2) := by
 kernel_rfl
theorem kp41_0 (x0) : keep [0, 1, 4] [(4, .v .bool x0)] = (e129 x0) := by kernel_rfl
theorem kp41_1 (x0 x1 x2) : keep [0, 1, 4] (e128 x0 x1 x2) = [(0, .v U0 x0), (1, .v U0 x1), (4, .dead)] := by kernel_rfl
theorem hb41_0 (x0 x1 x2) : boolOf? (ent (e128 x0 x1 x2) (.t 10)) = some x2 := by kernel_rfl
def g41_4 (k0 : V4 → V4 → Int → Option R) (x0 x1 : V4) : Option R :=
k0 x0 x1 (0 : Int)
theorem t41_4 (x0 x1) : exec cl N c41_4 [(0, .v U0 x0), (1, .v U0 x1), (4, .dead)] K = (g41_4 (fun y0 y1 y2 => K .normal (e130 y0 y1 y2)) x0 x1) := by
 kernel_rfl
theorem kp41_2 (x0 x1 x2) : keep [0, 1, 5] (e130 x0 x1 x2) = (e130 x0 x1 x2) := by kernel_rfl
def g41_5 (k0 : V4 → V4 → Int → Bool → Option R) (x0 x1 : V4) (x2 : Int) : Option R :=
k0 x0 x1 x2 (decide (x2 < (x0.length : Int)))
theorem t41_5 (x0 x1 x2) : exec cl N c41_5 (e130 x0 x1 x2) K = (g41_5 (fun y0 y1 y2 y3 => K .normal (e131 y0 y1 y2 y3)) x0 x1 x2) := by
 kernel_rfl
theorem kp41_3 (x0 x1 x2 x3) : keep [0, 1, 5] (e131 x0 x1 x2 x3) = (e130 x0 x1 x2) := by kernel_rfl
theorem hb41_1 (x0 x1 x2 x3) : boolOf? (ent (e131 x0 x1 x2 x3) (.t 14)) = some x3 := by kernel_rfl
def g41_7 (k0 : V4 → V4 → Int → Bool → Option R) (x0 x1 : V4) (x2 : Int) : Option R :=
if 0 ≤ x2 ∧ x2 < (x0.length : Int) then
if 0 ≤ x2 ∧ x2 < (x1.length : Int) then
k0 x0 x1 x2 ((x0.getD x2.toNat []) != (x1.getD x2.toNat []))
else none
else none
theorem t41_7 (x0 x1 x2) : exec cl N c41_7 (e130 x0 x1 x2) K = (g41_7 (fun y0 y1 y2 y3 => K .normal (e132 y0 y1 y2 y3)) x0 x1 x2) := by
 kernel_rfl
def g41_8 (k0 : Bool → Option R) (x0 x1 : V4) (x2 : Int) (x3 : Bool) : Option R :=
k0 false
theorem t41_8 (x0 x1 x2 x3) : exec cl N c41_8 (e132 x0 x1 x2 x3) K = (g41_8 (fun y0 => K .normal [(4, .v .bool y0)]) x0 x1 x2 x3) := by
 kernel_rfl
theorem kp41_4 (x0) : keep [0, 1, 4, 5] [(4, .v .bool x0)] = (e112 x0) := by kernel_rfl
theorem kp41_5 (x0 x1 x2 x3) : keep [0, 1, 4, 5] (e132 x0 x1 x2 x3) = (e133 x0 x1 x2) := by kernel_rfl
theorem hb41_2 (x0 x1 x2 x3) : boolOf? (ent (e132 x0 x1 x2 x3) (.t 25)) = some x3 := by kernel_rfl
theorem kp41_6 (x0) : keep [0, 1, 4, 5] (e112 x0) = (e112 x0) := by kernel_rfl
theorem kp41_7 (x0 x1 x2) : keep [0, 1, 4, 5] (e133 x0 x1 x2) = (e133 x0 x1 x2) := by kernel_rfl
def g41_11 (k0 : V4 → V4 → Int → Option R) (x0 x1 : V4) (x2 : Int) : Option R :=
k0 x0 x1 (IntKind.i64.wrap (x2 + (1 : Int)))
theorem t41_11 (x0 x1 x2) : exec cl N c41_11 (e133 x0 x1 x2) K = (g41_11 (fun y0 y1 y2 => K .normal (e130 y0 y1 y2)) x0 x1 x2) := by
 kernel_rfl
def g41_12 (k0 : Bool → Option R) (k1 : V4 → V4 → Int → Option R) (k2 : V4 → V4 → Int → Option R) (x0 x1 : V4) (x2 : Int) : Option R :=
(g41_5 (fun y0 y1 y2 y3 => brB y3 ((g41_7 (fun y0 y1 y2 y3 => brB y3 (g41_8 k0 y0 y1 y2 y3) (((g41_11 k1)) y0 y1 y2))) y0 y1 y2) (k2 y0 y1 y2)) x0 x1 x2)
theorem t41_12 (x0 x1 x2) : exec cl N c41_12 (e130 x0 x1 x2) K = (g41_12 (fun y0 => K .ret (e112 y0)) (fun y0 y1 y2 => K .normal (e130 y0 y1 y2)) (fun y0 y1 y2 => K (.exit 0) (e130 y0 y1 y2)) x0 x1 x2) := by
 simp only [c41_12, exec_seq, seqK_normal, seqK_exit, seqK_ret, t41_5, c41_6, exec_out, exec_cond', hb41_1, Option.bind_some, brB_true, brB_false, exec_skip, exec_exit, kp41_3, c41_10, exec_block, t41_7, c41_9, hb41_2, t41_8, exec_ret, kp41_4, kp41_5, blockK_normal, blockK_ret, blockK_eq, kp41_6, kp41_7, t41_11]
 rfl
def l41_13 {R : Type} (k0 : Bool → Option R) (k1 : V4 → V4 → Int → Option R) : Nat → V4 → V4 → Int → Option R
 | 0, _, _, _ => none
 | m + 1, x0, x1, x2 => (g41_12 k0 (l41_13 k0 k1 m) k1 x0 x1 x2)
theorem lt41_13 : ∀ (m) (x0 x1 x2), iter [0, 1, 5] (fun env K => exec cl N c41_12 env K) K m (e130 x0 x1 x2) = l41_13 (fun y0 => K .ret (e112 y0)) (fun y0 y1 y2 => K (.exit 0) (e130 y0 y1 y2)) m x0 x1 x2 := by
 intro m
 induction m with
 | zero => intros; rfl
 | succ m ih =>
   intro x0 x1 x2
   simp only [iter_succ, t41_12, loopK_normal, loopK_exit, loopK_ret, kp41_2, ih]
   rfl
theorem kp41_8 (x0) : keep [4] (e112 x0) = [(4, .v .bool x0)] := by kernel_rfl
theorem kp41_9 (x0 x1 x2) : keep [4] (e130 x0 x1 x2) = [(4, .dead)] := by kernel_rfl
def g41_13 (N : Nat) (k0 : Bool → Option R) (k1 : Option R) (x0 x1 : V4) (x2 : Int) : Option R :=
l41_13 k0 (fun y0 y1 y2 => k1) N x0 x1 x2
theorem t41_13 (x0 x1 x2) : exec cl N c41_13 (e130 x0 x1 x2) K = (g41_13 N (fun y0 => K .ret [(4, .v .bool y0)]) (K (.exit 0) [(4, .dead)]) x0 x1 x2) := by
 simp only [c41_13, exec_out, exec_loop, kp41_2, lt41_13, kp41_8, kp41_9]
 rfl
theorem kp41_10 (x0) : keep [4] [(4, .v .bool x0)] = [(4, .v .bool x0)] := by kernel_rfl
theorem kp41_11 : keep [4] [(4, .dead)] = [(4, .dead)] := by kernel_rfl
def g41_15 (k0 : Bool → Option R) : Option R :=
k0 true
theorem t41_15 : exec cl N c41_15 [(4, .dead)] K = (g41_15 (fun y0 => K .normal [(4, .v .bool y0)])) := by
 kernel_rfl
def g41_16 (N : Nat) (k0 : Bool → Option R) (k1 : Bool → Option R) (x0 x1 : V4) : Option R :=
(g41_0 (g41_1 (fun y0 y1 y2 => brB y2 (g41_2 k0 y0 y1 y2) ((g41_4 (g41_13 N k1 (g41_15 k1))) y0 y1))) x0 x1)
theorem t41_16 (x0 x1) : exec cl N c41_16 (e127 x0 x1) K = (g41_16 N (fun y0 => K .ret (e129 y0)) (fun y0 => K .ret [(4, .v .bool y0)]) x0 x1) := by
 simp only [c41_16, exec_seq, seqK_normal, seqK_exit, seqK_ret, t41_0, t41_1, c41_3, exec_out, exec_cond', hb41_0, Option.bind_some, brB_true, brB_false, t41_2, exec_ret, exec_skip, kp41_0, kp41_1, t41_4, c41_14, exec_block, t41_13, blockK_normal, blockK_ret, blockK_eq, kp41_10, kp41_11, t41_15]
 rfl
theorem rk41_0 (y0) : retK d41 .ret (e129 y0) = some [.v .bool y0] := by kernel_rfl
theorem rk41_1 (y0) : retK d41 .ret [(4, .v .bool y0)] = some [.v .bool y0] := by kernel_rfl
def g41 (N : Nat) (x0 x1 : V4) (k : Bool → Option R) : Option R :=
(g41_16 N k k x0 x1)
theorem gen41 (x0 x1) (k : List E → Option R) : exec cl N c41 (e127 x0 x1) (fun e env => (retK d41 e env).bind k) = g41 N x0 x1 (fun r0 => k [.v .bool r0]) := by
 simp only [c41, t41_16, rk41_0, rk41_1, Option.bind_some]
 rfl
def ctr41 (S : V4 → V4 → Option (Bool)) : Ctr := cv2 41 U0 U0 S fun b => [.v .bool b]
def S41 (N : Nat) (x0 : V4) (x1 : V4) : Option (Bool) := g41 N x0 x1 (fun (r0 : Bool) => some (r0))
def g14_0 (k0 : V14 → V14 → Option R) (x0 x1 : V14) : Option R :=
k0 x0 x1
theorem t14_0 (x0 x1) : exec cl N c14_0 (e84 x0 x1) K = (g14_0 (fun y0 y1 => K .normal [(2, .loc U17 .no y0), (3, .loc U17 .no y1)]) x0 x1) := by
 kernel_rfl
def g14_1 (k0 : V14 → V14 → Bool → Option R) (x0 x1 : V14) : Option R :=
brB (x0.1 != x1.1) (k0 x0 x1 true) (k0 x0 x1 ((x0.2.1.length : Int) != (x1.2.1.length : Int)))
theorem t14_1 (x0 x1) : exec cl N c14_1 [(2, .loc U17 .no x0), (3, .loc U17 .no x1)] K = (g14_1 (fun y0 y1 y2 => K .normal (e134 y0 y1 y2)) x0 x1) := by
 kernel_rfl
def g14_2 (k0 : Bool → Option R) (x0 x1 : V14) (x2 : Bool) : Option R :=
k0 false
theorem t14_2 (x0 x1 x2) : exec cl N c14_2 (e134 x0 x1 x2) K = (g14_2 (fun y0 => K .normal [(4, .v .bool y0)]) x0 x1 x2) := by
 kernel_rfl
theorem kp14_0 (x0) : keep [2, 3, 4] [(4, .v .bool x0)] = (e135 x0) := by kernel_rfl
theorem kp14_1 (x0 x1 x2) : keep [2, 3, 4] (e134 x0 x1 x2) = [(2, .loc U17 .no x0), (3, .loc U17 .no x1), (4, .dead)] := by kernel_rfl
theorem hb14_0 (x0 x1 x2) : boolOf? (ent (e134 x0 x1 x2) (.t 21)) = some x2 := by kernel_rfl
def g14_4 (k0 : V14 → V14 → Int → Option R) (x0 x1 : V14) : Option R :=
k0 x0 x1 (0 : Int)
theorem t14_4 (x0 x1) : exec cl N c14_4 [(2, .loc U17 .no x0), (3, .loc U17 .no x1), (4, .dead)] K = (g14_4 (fun y0 y1 y2 => K .normal (e136 y0 y1 y2)) x0 x1) := by
 kernel_rfl
theorem kp14_2 (x0 x1 x2) : keep [2, 3, 5] (e136 x0 x1 x2) = (e136 x0 x1 x2) := by kernel_rfl
def g14_5 (k0 : V14 → V14 → Int → Bool → Option R) (x0 x1 : V14) (x2 : Int) : Option R :=
k0 x0 x1 x2 (decide (x2 < (x0.2.1.length : Int)))
theorem t14_5 (x0 x1 x2) : exec cl N c14_5 (e136 x0 x1 x2) K = (g14_5 (fun y0 y1 y2 y3 => K .normal (e137 y0 y1 y2 y3)) x0 x1 x2) := by
 kernel_rfl
theorem kp14_3 (x0 x1 x2 x3) : keep [2, 3, 5] (e137 x0 x1 x2 x3) = (e136 x0 x1 x2) := by kernel_rfl
theorem hb14_1 (x0 x1 x2 x3) : boolOf? (ent (e137 x0 x1 x2 x3) (.t 26)) = some x3 := by kernel_rfl
def g14_11 (S41 : V4 → V4 → Option (Bool)) (k0 : V14 → V14 → Int → Bool → Option R) (x0 x1 : V14) (x2 : Int) : Option R :=
if 0 ≤ x2 ∧ x2 < (x0.2.1.length : Int) then
if 0 ≤ x2 ∧ x2 < (x1.2.1.length : Int) then
brB ((x0.2.1.getD x2.toNat ((0 : Int), ((0 : Int), ([], ())))).1 != (x1.2.1.getD x2.toNat ((0 : Int), ((0 : Int), ([], ())))).1) (k0 x0 x1 x2 true) (brB ((x0.2.1.getD x2.toNat ((0 : Int), ((0 : Int), ([], ())))).2.1 != (x1.2.1.getD x2.toNat ((0 : Int), ((0 : Int), ([], ())))).2.1) (k0 x0 x1 x2 true) ((S41 ((x0.2.1.getD x2.toNat ((0 : Int), ((0 : Int), ([], ())))).2.2.1) ((x1.2.1.getD x2.toNat ((0 : Int), ((0 : Int), ([], ())))).2.2.1)).bind fun r457 =>
k0 x0 x1 x2 (!r457)))
else none
else none
theorem t14_11 (S41) (h41 : (ctr41 S41).holds cl) (x0 x1 x2) : exec cl N c14_11 (e136 x0 x1 x2) K = (g14_11 S41 (fun y0 y1 y2 y3 => exec cl N c14_10 (e138 y0 y1 y2 y3) K) x0 x1 x2) := by
 rw [← put_eq h41]
 kernel_rfl
def g14_9 (k0 : Bool → Option R) (x0 x1 : V14) (x2 : Int) (x3 : Bool) : Option R :=
k0 false
theorem t14_9 (x0 x1 x2 x3) : exec cl N c14_9 (e138 x0 x1 x2 x3) K = (g14_9 (fun y0 => K .normal [(4, .v .bool y0)]) x0 x1 x2 x3) := by
 kernel_rfl
theorem kp14_4 (x0) : keep [2, 3, 4, 5] [(4, .v .bool x0)] = (e139 x0) := by kernel_rfl
theorem kp14_5 (x0 x1 x2 x3) : keep [2, 3, 4, 5] (e138 x0 x1 x2 x3) = (e140 x0 x1 x2) := by kernel_rfl
theorem hb14_2 (x0 x1 x2 x3) : boolOf? (ent (e138 x0 x1 x2 x3) (.t 58)) = some x3 := by kernel_rfl
theorem kp14_6 (x0) : keep [2, 3, 4, 5] (e139 x0) = (e139 x0) := by kernel_rfl
theorem kp14_7 (x0 x1 x2) : keep [2, 3, 4, 5] (e140 x0 x1 x2) = (e140 x0 x1 x2) := by kernel_rfl
def g14_13 (k0 : V14 → V14 → Int → Option R) (x0 x1 : V14) (x2 : Int) : Option R :=
k0 x0 x1 (IntKind.i64.wrap (x2 + (1 : Int)))
theorem t14_13 (x0 x1 x2) : exec cl N c14_13 (e140 x0 x1 x2) K = (g14_13 (fun y0 y1 y2 => K .normal (e136 y0 y1 y2)) x0 x1 x2) := by
 kernel_rfl
def g14_14 (S41 : V4 → V4 → Option (Bool)) (k0 : Bool → Option R) (k1 : V14 → V14 → Int → Option R) (k2 : V14 → V14 → Int → Option R) (x0 x1 : V14) (x2 : Int) : Option R :=
(g14_5 (fun y0 y1 y2 y3 => brB y3 ((g14_11 S41 (fun y0 y1 y2 y3 => brB y3 (g14_9 k0 y0 y1 y2 y3) (((g14_13 k1)) y0 y1 y2))) y0 y1 y2) (k2 y0 y1 y2)) x0 x1 x2)
theorem t14_14 (S41) (h41 : (ctr41 S41).holds cl) (x0 x1 x2) : exec cl N c14_14 (e136 x0 x1 x2) K = (g14_14 S41 (fun y0 => K .ret (e139 y0)) (fun y0 y1 y2 => K .normal (e136 y0 y1 y2)) (fun y0 y1 y2 => K (.exit 0) (e136 y0 y1 y2)) x0 x1 x2) := by
 simp only [c14_14, exec_seq, seqK_normal, seqK_exit, seqK_ret, t14_5, c14_6, exec_out, exec_cond', hb14_1, Option.bind_some, brB_true, brB_false, exec_skip, exec_exit, kp14_3, c14_12, exec_block, t14_11 S41 h41, c14_10, hb14_2, t14_9, exec_ret, kp14_4, kp14_5, blockK_normal, blockK_ret, blockK_eq, kp14_6, kp14_7, t14_13]
 rfl
def l14_15 {R : Type} (S41 : V4 → V4 → Option (Bool)) (k0 : Bool → Option R) (k1 : V14 → V14 → Int → Option R) : Nat → V14 → V14 → Int → Option R
 | 0, _, _, _ => none
 | m + 1, x0, x1, x2 => (g14_14 S41 k0 (l14_15 S41 k0 k1 m) k1 x0 x1 x2)
theorem lt14_15 (S41) (h41 : (ctr41 S41).holds cl) : ∀ (m) (x0 x1 x2), iter [2, 3, 5] (fun env K => exec cl N c14_14 env K) K m (e136 x0 x1 x2) = l14_15 S41 (fun y0 => K .ret (e139 y0)) (fun y0 y1 y2 => K (.exit 0) (e136 y0 y1 y2)) m x0 x1 x2 := by
 intro m
 induction m with
 | zero => intros; rfl
 | succ m ih =>
   intro x0 x1 x2
   simp only [iter_succ, t14_14 S41 h41, loopK_normal, loopK_exit, loopK_ret, kp14_2, ih]
   rfl
theorem kp14_8 (x0) : keep [4] (e139 x0) = [(4, .v .bool x0)] := by kernel_rfl
theorem kp14_9 (x0 x1 x2) : keep [4] (e136 x0 x1 x2) = [(4, .dead)] := by kernel_rfl
def g14_15 (N : Nat) (S41 : V4 → V4 → Option (Bool)) (k0 : Bool → Option R) (k1 : Option R) (x0 x1 : V14) (x2 : Int) : Option R :=
l14_15 S41 k0 (fun y0 y1 y2 => k1) N x0 x1 x2
theorem t14_15 (S41) (h41 : (ctr41 S41).holds cl) (x0 x1 x2) : exec cl N c14_15 (e136 x0 x1 x2) K = (g14_15 N S41 (fun y0 => K .ret [(4, .v .bool y0)]) (K (.exit 0) [(4, .dead)]) x0 x1 x2) := by
 simp only [c14_15, exec_out, exec_loop, kp14_2, lt14_15 S41 h41, kp14_8, kp14_9]
 rfl
theorem kp14_10 (x0) : keep [4] [(4, .v .bool x0)] = [(4, .v .bool x0)] := by kernel_rfl
theorem kp14_11 : keep [4] [(4, .dead)] = [(4, .dead)] := by kernel_rfl
def g14_17 (k0 : Bool → Option R) : Option R :=
k0 true
theorem t14_17 : exec cl N c14_17 [(4, .dead)] K = (g14_17 (fun y0 => K .normal [(4, .v .bool y0)])) := by
 kernel_rfl
def g14_18 (N : Nat) (S41 : V4 → V4 → Option (Bool)) (k0 : Bool → Option R) (k1 : Bool → Option R) (x0 x1 : V14) : Option R :=
(g14_0 (g14_1 (fun y0 y1 y2 => brB y2 (g14_2 k0 y0 y1 y2) ((g14_4 (g14_15 N S41 k1 (g14_17 k1))) y0 y1))) x0 x1)
theorem t14_18 (S41) (h41 : (ctr41 S41).holds cl) (x0 x1) : exec cl N c14_18 (e84 x0 x1) K = (g14_18 N S41 (fun y0 => K .ret (e135 y0)) (fun y0 => K .ret [(4, .v .bool y0)]) x0 x1) := by
 simp only [c14_18, exec_seq, seqK_normal, seqK_exit, seqK_ret, t14_0, t14_1, c14_3, exec_out, exec_cond', hb14_0, Option.bind_some, brB_true, brB_false, t14_2, exec_ret, exec_skip, kp14_0, kp14_1, t14_4, c14_16, exec_block, t14_15 S41 h41, blockK_normal, blockK_ret, blockK_eq, kp14_10, kp14_11, t14_17]
 rfl
theorem rk14_0 (y0) : retK d14 .ret (e135 y0) = some [.v .bool y0] := by kernel_rfl
theorem rk14_1 (y0) : retK d14 .ret [(4, .v .bool y0)] = some [.v .bool y0] := by kernel_rfl
def g14 (N : Nat) (S41 : V4 → V4 → Option (Bool)) (x0 x1 : V14) (k : Bool → Option R) : Option R :=
(g14_18 N S41 k k x0 x1)
theorem gen14 (S41) (h41 : (ctr41 S41).holds cl) (x0 x1) (k : List E → Option R) : exec cl N c14 (e84 x0 x1) (fun e env => (retK d14 e env).bind k) = g14 N S41 x0 x1 (fun r0 => k [.v .bool r0]) := by
 simp only [c14, t14_18 S41 h41, rk14_0, rk14_1, Option.bind_some]
 rfl
def ctr14 (S : V14 → V14 → Option (Bool)) : Ctr := cv2 14 U17 U17 S fun b => [.v .bool b]
def S14 (N : Nat) (x0 : V14) (x1 : V14) : Option (Bool) := g14 N (S41 N) x0 x1 (fun (r0 : Bool) => some (r0))
def g45_2 (S67 : V4 → V1 → Option (Bool)) (k0 : Bool → Option R) (x0 : V10) (x1 : V1) : Option R :=
brB ((x0.2.2.1.length : Int) == (0 : Int)) (k0 true) ((S67 x0.2.2.1 x1).bind fun r470 =>
k0 r470)
theorem t45_2 (S67) (h67 : (ctr67 S67).holds cl) (x0 x1) : exec cl N c45_2 [(0, .v U13 x0), (1, .v .str x1)] K = (g45_2 S67 (fun y0 => exec cl N .ret [(4, .v .bool y0)] K) x0 x1) := by
 rw [← put_eq h67]
 kernel_rfl
def g45_2b (S67 : V4 → V1 → Option (Bool)) (k0 : Bool → Option R) (x0 : V10) (x1 : V1) : Option R :=
(g45_2 S67 k0 x0 x1)
theorem t45_2b (S67) (h67 : (ctr67 S67).holds cl) (x0 x1) : exec cl N c45_2 [(0, .v U13 x0), (1, .v .str x1)] K = (g45_2b S67 (fun y0 => K .ret [(4, .v .bool y0)]) x0 x1) := by
 simp only [exec_seq, seqK_normal, seqK_exit, seqK_ret, t45_2 S67 h67, exec_ret]
 rfl
theorem rk45_0 (y0) : retK d45 .ret [(4, .v .bool y0)] = some [.v .bool y0] := by kernel_rfl
def g45 (S67 : V4 → V1 → Option (Bool)) (x0 : V10) (x1 : V1) (k : Bool → Option R) : Option R :=
(g45_2b S67 k x0 x1)
theorem gen45 (S67) (h67 : (ctr67 S67).holds cl) (x0 x1) (k : List E → Option R) : exec cl N c45 [(0, .v U13 x0), (1, .v .str x1)] (fun e env => (retK d45 e env).bind k) = g45 S67 x0 x1 (fun r0 => k [.v .bool r0]) := by
 simp only [c45, t45_2b S67 h67, rk45_0, Option.bind_some]
 rfl
def ctr45 (S : V10 → V1 → Option (Bool)) : Ctr := cv2 45 U13 .str S fun b => [.v .bool b]
def S45 (N : Nat) (x0 : V10) (x1 : V1) : Option (Bool) := g45 (S67 N) x0 x1 (fun (r0 : Bool) => some (r0))
def g17_17 (S44 : V1 → Option V3) (k0 : Int → V1 → V14 → Int → Bool → Option R) (x0 : V14) (x1 : Int) (x2 : V1) : Option R :=
(S44 x2).bind fun r475 =>
k0 x1 r475 x0 (0 : Int) false
theorem t17_17 (S44) (h44 : (ctr44 S44).holds cl) (x0 x1 x2) : exec cl N c17_17 (e141 x0 x1 x2) K = (g17_17 S44 (fun y0 y1 y2 y3 y4 => exec cl N (.seq (.seq c17_3 c17_15) (.seq c17_16 .ret)) [(1, .v U2 y0), (2, .v .str y1), (3, .loc U17 .no y2), (8, .v U2 y3), (9, .v .bool y4)] K) x0 x1 x2) := by
 rw [← put_eq h44]
 kernel_rfl
def g17_3 (k0 : Int → V1 → Int → Bool → V11 → Int → Int → Option R) (x0 : Int) (x1 : V1) (x2 : V14) (x3 : Int) (x4 : Bool) : Option R :=
k0 x0 x1 x3 x4 x2.2.1 (x2.2.1.length : Int) (0 : Int)
theorem t17_3 (x0 x1 x2 x3 x4) : exec cl N c17_3 [(1, .v U2 x0), (2, .v .str x1), (3, .loc U17 .no x2), (8, .v U2 x3), (9, .v .bool x4)] K = (g17_3 (fun y0 y1 y2 y3 y4 y5 y6 => K .normal (e142 y0 y1 y2 y3 y4 y5 y6)) x0 x1 x2 x3 x4) := by
 kernel_rfl
theorem kp17_0 (x0 x1 x2 x3 x4 x5 x6) : keep [1, 2, 8, 9, 15, 16, 17] (e142 x0 x1 x2 x3 x4 x5 x6) = (e142 x0 x1 x2 x3 x4 x5 x6) := by kernel_rfl
def g17_4 (k0 : Int → V1 → Int → Bool → V11 → Int → Int → Bool → Option R) (x0 : Int) (x1 : V1) (x2 : Int) (x3 : Bool) (x4 : V11) (x5 x6 : Int) : Option R :=
k0 x0 x1 x2 x3 x4 x5 x6 (decide (x6 < x5))
theorem t17_4 (x0 x1 x2 x3 x4 x5 x6) : exec cl N c17_4 (e142 x0 x1 x2 x3 x4 x5 x6) K = (g17_4 (fun y0 y1 y2 y3 y4 y5 y6 y7 => K .normal (e143 y0 y1 y2 y3 y4 y5 y6 y7)) x0 x1 x2 x3 x4 x5 x6) := by
 kernel_rfl
theorem kp17_1 (x0 x1 x2 x3 x4 x5 x6 x7) : keep [1, 2, 8, 9, 15, 16, 17] (e143 x0 x1 x2 x3 x4 x5 x6 x7) = (e142 x0 x1 x2 x3 x4 x5 x6) := by kernel_rfl
theorem hb17_0 (x0 x1 x2 x3 x4 x5 x6 x7) : boolOf? (ent (e143 x0 x1 x2 x3 x4 x5 x6 x7) (.t 18)) = some x7 := by kernel_rfl
def g17_10 (S45 : V10 → V1 → Option (Bool)) (k0 : Int → V1 → Int → Bool → V10 → V11 → Int → Int → Bool → Option R) (x0 : Int) (x1 : V1) (x2 : Int) (x3 : Bool) (x4 : V11) (x5 x6 : Int) : Option R :=
if 0 ≤ x6 ∧ x6 < (x4.length : Int) then
brB ((x4.getD x6.toNat ((0 : Int), ((0 : Int), ([], ())))).1 == x0) ((S45 (x4.getD x6.toNat ((0 : Int), ((0 : Int), ([], ())))) x1).bind fun r478 =>
brB r478 (brB (!x3) (k0 x0 x1 x2 x3 (x4.getD x6.toNat ((0 : Int), ((0 : Int), ([], ())))) x4 x5 x6 true) (k0 x0 x1 x2 x3 (x4.getD x6.toNat ((0 : Int), ((0 : Int), ([], ())))) x4 x5 x6 (decide ((x4.getD x6.toNat ((0 : Int), ((0 : Int), ([], ())))).2.1 < x2)))) (k0 x0 x1 x2 x3 (x4.getD x6.toNat ((0 : Int), ((0 : Int), ([], ())))) x4 x5 x6 false)) (k0 x0 x1 x2 x3 (x4.getD x6.toNat ((0 : Int), ((0 : Int), ([], ())))) x4 x5 x6 false)
else none
theorem t17_10 (S45) (h45 : (ctr45 S45).holds cl) (x0 x1 x2 x3 x4 x5 x6) : exec cl N c17_10 (e142 x0 x1 x2 x3 x4 x5 x6) K = (g17_10 S45 (fun y0 y1 y2 y3 y4 y5 y6 y7 y8 => exec cl N c17_9 (e144 y0 y1 y2 y3 y4 y5 y6 y7 y8) K) x0 x1 x2 x3 x4 x5 x6) := by
 rw [← put_eq h45]
 kernel_rfl
def g17_8 (k0 : Int → V1 → Int → Bool → V11 → Int → Int → Option R) (x0 : Int) (x1 : V1) (x2 : Int) (x3 : Bool) (x4 : V10) (x5 : V11) (x6 x7 : Int) (x8 : Bool) : Option R :=
k0 x0 x1 x4.2.1 true x5 x6 x7
theorem t17_8 (x0 x1 x2 x3 x4 x5 x6 x7 x8) : exec cl N c17_8 (e144 x0 x1 x2 x3 x4 x5 x6 x7 x8) K = (g17_8 (fun y0 y1 y2 y3 y4 y5 y6 => K .normal (e142 y0 y1 y2 y3 y4 y5 y6)) x0 x1 x2 x3 x4 x5 x6 x7 x8) := by
 kernel_rfl
theorem kp17_2 (x0 x1 x2 x3 x4 x5 x6 x7 x8) : keep [1, 2, 8, 9, 15, 16, 17] (e144 x0 x1 x2 x3 x4 x5 x6 x7 x8) = (e142 x0 x1 x2 x3 x5 x6 x7) := by kernel_rfl
theorem hb17_1 (x0 x1 x2 x3 x4 x5 x6 x7 x8) : boolOf? (ent (e144 x0 x1 x2 x3 x4 x5 x6 x7 x8) (.t 39)) = some x8 := by kernel_rfl
def g17_11 (S45 : V10 → V1 → Option (Bool)) (k0 : Int → V1 → Int → Bool → V11 → Int → Int → Option R) (x0 : Int) (x1 : V1) (x2 : Int) (x3 : Bool) (x4 : V11) (x5 x6 : Int) : Option R :=
(g17_10 S45 (fun y0 y1 y2 y3 y4 y5 y6 y7 y8 => brB y8 (g17_8 k0 y0 y1 y2 y3 y4 y5 y6 y7 y8) (k0 y0 y1 y2 y3 y5 y6 y7)) x0 x1 x2 x3 x4 x5 x6)
theorem t17_11 (S45) (h45 : (ctr45 S45).holds cl) (x0 x1 x2 x3 x4 x5 x6) : exec cl N c17_11 (e142 x0 x1 x2 x3 x4 x5 x6) K = (g17_11 S45 (fun y0 y1 y2 y3 y4 y5 y6 => K .normal (e142 y0 y1 y2 y3 y4 y5 y6)) x0 x1 x2 x3 x4 x5 x6) := by
 simp only [c17_11, exec_out, exec_block, exec_seq, seqK_normal, seqK_exit, seqK_ret, t17_10 S45 h45, c17_9, exec_cond', hb17_1, Option.bind_some, brB_true, brB_false, t17_8, exec_skip, kp17_0, kp17_2, blockK_normal, blockK_ret, blockK_eq]
 rfl
def g17_12 (k0 : Int → V1 → Int → Bool → V11 → Int → Int → Option R) (x0 : Int) (x1 : V1) (x2 : Int) (x3 : Bool) (x4 : V11) (x5 x6 : Int) : Option R :=
k0 x0 x1 x2 x3 x4 x5 (IntKind.i64.wrap (x6 + (1 : Int)))
theorem t17_12 (x0 x1 x2 x3 x4 x5 x6) : exec cl N c17_12 (e142 x0 x1 x2 x3 x4 x5 x6) K = (g17_12 (fun y0 y1 y2 y3 y4 y5 y6 => K .normal (e142 y0 y1 y2 y3 y4 y5 y6)) x0 x1 x2 x3 x4 x5 x6) := by
 kernel_rfl
def g17_13 (S45 : V10 → V1 → Option (Bool)) (k0 : Int → V1 → Int → Bool → V11 → Int → Int → Option R) (k1 : Int → V1 → Int → Bool → V11 → Int → Int → Option R) (x0 : Int) (x1 : V1) (x2 : Int) (x3 : Bool) (x4 : V11) (x5 x6 : Int) : Option R :=
(g17_4 (fun y0 y1 y2 y3 y4 y5 y6 y7 => brB y7 ((g17_11 S45 (g17_12 k0)) y0 y1 y2 y3 y4 y5 y6) (k1 y0 y1 y2 y3 y4 y5 y6)) x0 x1 x2 x3 x4 x5 x6)
theorem t17_13 (S45) (h45 : (ctr45 S45).holds cl) (x0 x1 x2 x3 x4 x5 x6) : exec cl N c17_13 (e142 x0 x1 x2 x3 x4 x5 x6) K = (g17_13 S45 (fun y0 y1 y2 y3 y4 y5 y6 => K .normal (e142 y0 y1 y2 y3 y4 y5 y6)) (fun y0 y1 y2 y3 y4 y5 y6 => K (.exit 0) (e142 y0 y1 y2 y3 y4 y5 y6)) x0 x1 x2 x3 x4 x5 x6) := by
 simp only [c17_13, exec_seq, seqK_normal, seqK_exit, seqK_ret, t17_4, c17_5, exec_out, exec_cond', hb17_0, Option.bind_some, brB_true, brB_false, exec_skip, exec_exit, kp17_1, t17_11 S45 h45, t17_12]
 rfl
def l17_14 {R : Type} (S45 : V10 → V1 → Option (Bool)) (k0 : Int → V1 → Int → Bool → V11 → Int → Int → Option R) : Nat → Int → V1 → Int → Bool → V11 → Int → Int → Option R
 | 0, _, _, _, _, _, _, _ => none
 | m + 1, x0, x1, x2, x3, x4, x5, x6 => (g17_13 S45 (l17_14 S45 k0 m) k0 x0 x1 x2 x3 x4 x5 x6)
theorem lt17_14 (S45) (h45 : (ctr45 S45).holds cl) : ∀ (m) (x0 x1 x2 x3 x4 x5 x6), iter [1, 2, 8, 9, 15, 16, 17] (fun env K => exec cl N c17_13 env K) K m (e142 x0 x1 x2 x3 x4 x5 x6) = l17_14 S45 (fun y0 y1 y2 y3 y4 y5 y6 => K (.exit 0) (e142 y0 y1 y2 y3 y4 y5 y6)) m x0 x1 x2 x3 x4 x5 x6 := by
 intro m
 induction m with
 | zero => intros; rfl
 | succ m ih =>
   intro x0 x1 x2 x3 x4 x5 x6
   simp only [iter_succ, t17_13 S45 h45, loopK_normal, loopK_exit, loopK_ret, kp17_0, ih]
   rfl
theorem kp17_3 (x0 x1 x2 x3 x4 x5 x6) : keep [8, 9] (e142 x0 x1 x2 x3 x4 x5 x6) = (e145 x2 x3) := by kernel_rfl
def g17_14 (N : Nat) (S45 : V10 → V1 → Option (Bool)) (k0 : Int → Bool → Option R) (x0 : Int) (x1 : V1) (x2 : Int) (x3 : Bool) (x4 : V11) (x5 x6 : Int) : Option R :=
l17_14 S45 (fun y0 y1 y2 y3 y4 y5 y6 => k0 y2 y3) N x0 x1 x2 x3 x4 x5 x6
theorem t17_14 (S45) (h45 : (ctr45 S45).holds cl) (x0 x1 x2 x3 x4 x5 x6) : exec cl N c17_14 (e142 x0 x1 x2 x3 x4 x5 x6) K = (g17_14 N S45 (fun y0 y1 => K (.exit 0) (e145 y0 y1)) x0 x1 x2 x3 x4 x5 x6) := by
 simp only [c17_14, exec_out, exec_loop, kp17_0, lt17_14 S45 h45, kp17_3]
 rfl
theorem kp17_4 (x0 x1) : keep [8, 9] (e145 x0 x1) = (e145 x0 x1) := by kernel_rfl
def g17_16 (k0 : Int → Bool → Option R) (x0 : Int) (x1 : Bool) : Option R :=
k0 x0 x1
theorem t17_16 (x0 x1) : exec cl N c17_16 (e145 x0 x1) K = (g17_16 (fun y0 y1 => K .normal (e146 y0 y1)) x0 x1) := by
 kernel_rfl
def g17_17b (N : Nat) (S44 : V1 → Option V3) (S45 : V10 → V1 → Option (Bool)) (k0 : Int → Bool → Option R) (x0 : V14) (x1 : Int) (x2 : V1) : Option R :=
(g17_17 S44 (g17_3 (g17_14 N S45 ((g17_16 k0)))) x0 x1 x2)
theorem t17_17b (S44) (S45) (h44 : (ctr44 S44).holds cl) (h45 : (ctr45 S45).holds cl) (x0 x1 x2) : exec cl N c17_17 (e141 x0 x1 x2) K = (g17_17b N S44 S45 (fun y0 y1 => K .ret (e146 y0 y1)) x0 x1 x2) := by
 simp only [exec_seq, seqK_normal, seqK_exit, seqK_ret, t17_17 S44 h44, t17_3, c17_15, exec_out, exec_block, t17_14 S45 h45, blockK_normal, blockK_ret, blockK_eq, kp17_4, t17_16, exec_ret]
 rfl
theorem rk17_0 (y0 y1) : retK d17 .ret (e146 y0 y1) = some [.v U2 y0, .v .bool y1] := by kernel_rfl
def g17 (N : Nat) (S44 : V1 → Option V3) (S45 : V10 → V1 → Option (Bool)) (x0 : V14) (x1 : Int) (x2 : V1) (k : Int → Bool → Option R) : Option R :=
(g17_17b N S44 S45 k x0 x1 x2)
theorem gen17 (S44) (S45) (h44 : (ctr44 S44).holds cl) (h45 : (ctr45 S45).holds cl) (x0 x1 x2) (k : List E → Option R) : exec cl N c17 (e141 x0 x1 x2) (fun e env => (retK d17 e env).bind k) = g17 N S44 S45 x0 x1 x2 (fun r0 r1 => k [.v U2 r0, .v .bool r1]) := by
 simp only [c17, t17_17b S44 S45 h44 h45, rk17_0, Option.bind_some]
 rfl
def ctr17 (S : V14 → Int → V1 → Option V2) : Ctr := cv3 17 U17 U2 .str S fun b => [.v U2 b.1, .v .bool b.2]
def S17 (N : Nat) (x0 : V14) (x1 : Int) (x2 : V1) : Option V2 := g17 N (S44 N) (S45 N) x0 x1 x2 (fun (r0 : Int) (r1 : Bool) => some (r0, r1))
def g21_18 (S49 : V1 → Option V3) (k0 : Int → V14 → Int → Bool → V1 → Option R) (x0 : V14) (x1 : Int) (x2 : V1) : Option R :=
(S49 x2).bind fun r489 =>
k0 x1 x0 (0 : Int) false r489
theorem t21_18 (S49) (h49 : (ctr49 S49).holds cl) (x0 x1 x2) : exec cl N c21_18 (e141 x0 x1 x2) K = (g21_18 S49 (fun y0 y1 y2 y3 y4 => exec cl N (.seq (.seq c21_3 c21_16) (.seq c21_17 .ret)) (e147 y0 y1 y2 y3 y4) K) x0 x1 x2) := by
 rw [← put_eq h49]
 kernel_rfl
def g21_3 (k0 : Int → V14 → Int → Bool → V1 → Int → Option R) (x0 : Int) (x1 : V14) (x2 : Int) (x3 : Bool) (x4 : V1) : Option R :=
k0 x0 x1 x2 x3 x4 (0 : Int)
theorem t21_3 (x0 x1 x2 x3 x4) : exec cl N c21_3 (e147 x0 x1 x2 x3 x4) K = (g21_3 (fun y0 y1 y2 y3 y4 y5 => K .normal (e148 y0 y1 y2 y3 y4 y5)) x0 x1 x2 x3 x4) := by
 kernel_rfl
theorem kp21_0 (x0 x1 x2 x3 x4 x5) : keep [1, 3, 8, 9, 10, 11] (e148 x0 x1 x2 x3 x4 x5) = (e148 x0 x1 x2 x3 x4 x5) := by kernel_rfl
def g21_4 (k0 : Int → V14 → Int → Bool → V1 → Int → Bool → Option R) (x0 : Int) (x1 : V14) (x2 : Int) (x3 : Bool) (x4 : V1) (x5 : Int) : Option R :=
k0 x0 x1 x2 x3 x4 x5 (decide (x5 < (x1.2.1.length : Int)))
theorem t21_4 (x0 x1 x2 x3 x4 x5) : exec cl N c21_4 (e148 x0 x1 x2 x3 x4 x5) K = (g21_4 (fun y0 y1 y2 y3 y4 y5 y6 => K .normal (e149 y0 y1 y2 y3 y4 y5 y6)) x0 x1 x2 x3 x4 x5) := by
 kernel_rfl
theorem kp21_1 (x0 x1 x2 x3 x4 x5 x6) : keep [1, 3, 8, 9, 10, 11] (e149 x0 x1 x2 x3 x4 x5 x6) = (e148 x0 x1 x2 x3 x4 x5) := by kernel_rfl
theorem hb21_0 (x0 x1 x2 x3 x4 x5 x6) : boolOf? (ent (e149 x0 x1 x2 x3 x4 x5 x6) (.t 19)) = some x6 := by kernel_rfl
def g21_6 (k0 : Int → V14 → Int → Bool → V1 → Int → V10 → Option R) (x0 : Int) (x1 : V14) (x2 : Int) (x3 : Bool) (x4 : V1) (x5 : Int) : Option R :=
if 0 ≤ x5 ∧ x5 < (x1.2.1.length : Int) then
k0 x0 x1 x2 x3 x4 x5 (x1.2.1.getD x5.toNat ((0 : Int), ((0 : Int), ([], ()))))
else none
theorem t21_6 (x0 x1 x2 x3 x4 x5) : exec cl N c21_6 (e148 x0 x1 x2 x3 x4 x5) K = (g21_6 (fun y0 y1 y2 y3 y4 y5 y6 => K .normal (e150 y0 y1 y2 y3 y4 y5 y6)) x0 x1 x2 x3 x4 x5) := by
 kernel_rfl
def g21_7 (S50 : V4 → V1 → Option (Bool)) (k0 : Int → V14 → Int → Bool → V1 → Int → V10 → Bool → Option R) (x0 : Int) (x1 : V14) (x2 : Int) (x3 : Bool) (x4 : V1) (x5 : Int) (x6 : V10) : Option R :=
brB (x6.1 != x0) (k0 x0 x1 x2 x3 x4 x5 x6 true) (brB (decide ((x6.2.2.1.length : Int) > (0 : Int))) ((S50 x6.2.2.1 x4).bind fun r492 =>
k0 x0 x1 x2 x3 x4 x5 x6 (!r492)) (k0 x0 x1 x2 x3 x4 x5 x6 false))
theorem t21_7 (S50) (h50 : (ctr50 S50).holds cl) (x0 x1 x2 x3 x4 x5 x6) : exec cl N c21_7 (e150 x0 x1 x2 x3 x4 x5 x6) K = (g21_7 S50 (fun y0 y1 y2 y3 y4 y5 y6 y7 => K .normal (e151 y0 y1 y2 y3 y4 y5 y6 y7)) x0 x1 x2 x3 x4 x5 x6) := by
 rw [← put_eq h50]
 kernel_rfl
theorem kp21_2 (x0 x1 x2 x3 x4 x5 x6 x7) : keep [1, 3, 8, 9, 10, 11, 12] (e151 x0 x1 x2 x3 x4 x5 x6 x7) = (e150 x0 x1 x2 x3 x4 x5 x6) := by kernel_rfl
theorem hb21_1 (x0 x1 x2 x3 x4 x5 x6 x7) : boolOf? (ent (e151 x0 x1 x2 x3 x4 x5 x6 x7) (.t 43)) = some x7 := by kernel_rfl
def g21_9 (k0 : Int → V14 → Int → Bool → V1 → Int → V10 → Bool → Option R) (x0 : Int) (x1 : V14) (x2 : Int) (x3 : Bool) (x4 : V1) (x5 : Int) (x6 : V10) : Option R :=
brB (!x3) (k0 x0 x1 x2 x3 x4 x5 x6 true) (k0 x0 x1 x2 x3 x4 x5 x6 (decide (x6.2.1 < x2)))
theorem t21_9 (x0 x1 x2 x3 x4 x5 x6) : exec cl N c21_9 (e150 x0 x1 x2 x3 x4 x5 x6) K = (g21_9 (fun y0 y1 y2 y3 y4 y5 y6 y7 => K .normal (e152 y0 y1 y2 y3 y4 y5 y6 y7)) x0 x1 x2 x3 x4 x5 x6) := by
 kernel_rfl
def g21_10 (k0 : Int → V14 → Int → Bool → V1 → Int → Option R) (x0 : Int) (x1 : V14) (x2 : Int) (x3 : Bool) (x4 : V1) (x5 : Int) (x6 : V10) (x7 : Bool) : Option R :=
k0 x0 x1 x6.2.1 true x4 x5
theorem t21_10 (x0 x1 x2 x3 x4 x5 x6 x7) : exec cl N c21_10 (e152 x0 x1 x2 x3 x4 x5 x6 x7) K = (g21_10 (fun y0 y1 y2 y3 y4 y5 => K .normal (e148 y0 y1 y2 y3 y4 y5)) x0 x1 x2 x3 x4 x5 x6 x7) := by
 kernel_rfl
theorem kp21_3 (x0 x1 x2 x3 x4 x5 x6 x7) : keep [1, 3, 8, 9, 10, 11] (e152 x0 x1 x2 x3 x4 x5 x6 x7) = (e148 x0 x1 x2 x3 x4 x5) := by kernel_rfl
theorem hb21_2 (x0 x1 x2 x3 x4 x5 x6 x7) : boolOf? (ent (e152 x0 x1 x2 x3 x4 x5 x6 x7) (.t 51)) = some x7 := by kernel_rfl
theorem kp21_4 (x0 x1 x2 x3 x4 x5 x6) : keep [1, 3, 8, 9, 10, 11] (e150 x0 x1 x2 x3 x4 x5 x6) = (e148 x0 x1 x2 x3 x4 x5) := by kernel_rfl
def g21_12 (S50 : V4 → V1 → Option (Bool)) (k0 : Int → V14 → Int → Bool → V1 → Int → Option R) (x0 : Int) (x1 : V14) (x2 : Int) (x3 : Bool) (x4 : V1) (x5 : Int) : Option R :=
(g21_6 (g21_7 S50 (fun y0 y1 y2 y3 y4 y5 y6 y7 => brB y7 (k0 y0 y1 y2 y3 y4 y5) ((g21_9 (fun y0 y1 y2 y3 y4 y5 y6 y7 => brB y7 (g21_10 k0 y0 y1 y2 y3 y4 y5 y6 y7) (k0 y0 y1 y2 y3 y4 y5))) y0 y1 y2 y3 y4 y5 y6))) x0 x1 x2 x3 x4 x5)
theorem t21_12 (S50) (h50 : (ctr50 S50).holds cl) (x0 x1 x2 x3 x4 x5) : exec cl N c21_12 (e148 x0 x1 x2 x3 x4 x5) K = (g21_12 S50 (fun y0 y1 y2 y3 y4 y5 => K .normal (e148 y0 y1 y2 y3 y4 y5)) x0 x1 x2 x3 x4 x5) := by
 simp only [c21_12, exec_out, exec_block, exec_seq, seqK_normal, seqK_exit, seqK_ret, t21_6, t21_7 S50 h50, c21_8, exec_cond', hb21_1, Option.bind_some, brB_true, brB_false, exec_exit, exec_skip, kp21_2, t21_9, c21_11, hb21_2, t21_10, kp21_0, kp21_3, blockK_normal, blockK_ret, blockK_eq, kp21_4]
 rfl
def g21_13 (k0 : Int → V14 → Int → Bool → V1 → Int → Option R) (x0 : Int) (x1 : V14) (x2 : Int) (x3 : Bool) (x4 : V1) (x5 : Int) : Option R :=
k0 x0 x1 x2 x3 x4 (IntKind.i64.wrap (x5 + (1 : Int)))
theorem t21_13 (x0 x1 x2 x3 x4 x5) : exec cl N c21_13 (e148 x0 x1 x2 x3 x4 x5) K = (g21_13 (fun y0 y1 y2 y3 y4 y5 => K .normal (e148 y0 y1 y2 y3 y4 y5)) x0 x1 x2 x3 x4 x5) := by
 kernel_rfl
def g21_14 (S50 : V4 → V1 → Option (Bool)) (k0 : Int → V14 → Int → Bool → V1 → Int → Option R) (k1 : Int → V14 → Int → Bool → V1 → Int → Option R) (x0 : Int) (x1 : V14) (x2 : Int) (x3 : Bool) (x4 : V1) (x5 : Int) : Option R :=
(g21_4 (fun y0 y1 y2 y3 y4 y5 y6 => brB y6 ((g21_12 S50 (g21_13 k0)) y0 y1 y2 y3 y4 y5) (k1 y0 y1 y2 y3 y4 y5)) x0 x1 x2 x3 x4 x5)
theorem t21_14 (S50) (h50 : (ctr50 S50).holds cl) (x0 x1 x2 x3 x4 x5) : exec cl N c21_14 (e148 x0 x1 x2 x3 x4 x5) K = (g21_14 S50 (fun y0 y1 y2 y3 y4 y5 => K .normal (e148 y0 y1 y2 y3 y4 y5)) (fun y0 y1 y2 y3 y4 y5 => K (.exit 0) (e148 y0 y1 y2 y3 y4 y5)) x0 x1 x2 x3 x4 x5) := by
 simp only [c21_14, exec_seq, seqK_normal, seqK_exit, seqK_ret, t21_4, c21_5, exec_out, exec_cond', hb21_0, Option.bind_some, brB_true, brB_false, exec_skip, exec_exit, kp21_1, t21_12 S50 h50, t21_13]
 rfl
def l21_15 {R : Type} (S50 : V4 → V1 → Option (Bool)) (k0 : Int → V14 → Int → Bool → V1 → Int → Option R) : Nat → Int → V14 → Int → Bool → V1 → Int → Option R
 | 0, _, _, _, _, _, _ => none
 | m + 1, x0, x1, x2, x3, x4, x5 => (g21_14 S50 (l21_15 S50 k0 m) k0 x0 x1 x2 x3 x4 x5)
theorem lt21_15 (S50) (h50 : (ctr50 S50).holds cl) : ∀ (m) (x0 x1 x2 x3 x4 x5), iter [1, 3, 8, 9, 10, 11] (fun env K => exec cl N c21_14 env K) K m (e148 x0 x1 x2 x3 x4 x5) = l21_15 S50 (fun y0 y1 y2 y3 y4 y5 => K (.exit 0) (e148 y0 y1 y2 y3 y4 y5)) m x0 x1 x2 x3 x4 x5 := by
 intro m
 induction m with
 | zero => intros; rfl
 | succ m ih =>
   intro x0 x1 x2 x3 x4 x5
   simp only [iter_succ, t21_14 S50 h50, loopK_normal, loopK_exit, loopK_ret, kp21_0, ih]
   rfl
theorem kp21_5 (x0 x1 x2 x3 x4 x5) : keep [8, 9] (e148 x0 x1 x2 x3 x4 x5) = (e145 x2 x3) := by kernel_rfl
def g21_15 (N : Nat) (S50 : V4 → V1 → Option (Bool)) (k0 : Int → Bool → Option R) (x0 : Int) (x1 : V14) (x2 : Int) (x3 : Bool) (x4 : V1) (x5 : Int) : Option R :=
l21_15 S50 (fun y0 y1 y2 y3 y4 y5 => k0 y2 y3) N x0 x1 x2 x3 x4 x5
theorem t21_15 (S50) (h50 : (ctr50 S50).holds cl) (x0 x1 x2 x3 x4 x5) : exec cl N c21_15 (e148 x0 x1 x2 x3 x4 x5) K = (g21_15 N S50 (fun y0 y1 => K (.exit 0) (e145 y0 y1)) x0 x1 x2 x3 x4 x5) := by
 simp only [c21_15, exec_out, exec_loop, kp21_0, lt21_15 S50 h50, kp21_5]
 rfl
theorem kp21_6 (x0 x1) : keep [8, 9] (e145 x0 x1) = (e145 x0 x1) := by kernel_rfl
def g21_17 (k0 : Int → Bool → Option R) (x0 : Int) (x1 : Bool) : Option R :=
k0 x0 x1
theorem t21_17 (x0 x1) : exec cl N c21_17 (e145 x0 x1) K = (g21_17 (fun y0 y1 => K .normal (e146 y0 y1)) x0 x1) := by
 kernel_rfl
def g21_18b (N : Nat) (S49 : V1 → Option V3) (S50 : V4 → V1 → Option (Bool)) (k0 : Int → Bool → Option R) (x0 : V14) (x1 : Int) (x2 : V1) : Option R :=
(g21_18 S49 (g21_3 (g21_15 N S50 ((g21_17 k0)))) x0 x1 x2)
theorem t21_18b (S49) (S50) (h49 : (ctr49 S49).holds cl) (h50 : (ctr50 S50).holds cl) (x0 x1 x2) : exec cl N c21_18 (e141 x0 x1 x2) K = (g21_18b N S49 S50 (fun y0 y1 => K .ret (e146 y0 y1)) x0 x1 x2) := by
 simp only [exec_seq, seqK_normal, seqK_exit, seqK_ret, t21_18 S49 h49, t21_3, c21_16, exec_out, exec_block, t21_15 S50 h50, blockK_normal, blockK_ret, blockK_eq, kp21_6, t21_17, exec_ret]
 rfl
theorem rk21_0 (y0 y1) : retK d21 .ret (e146 y0 y1) = some [.v U2 y0, .v .bool y1] := by kernel_rfl
def g21 (N : Nat) (S49 : V1 → Option V3) (S50 : V4 → V1 → Option (Bool)) (x0 : V14) (x1 : Int) (x2 : V1) (k : Int → Bool → Option R) : Option R :=
(g21_18b N S49 S50 k x0 x1 x2)
theorem gen21 (S49) (S50) (h49 : (ctr49 S49).holds cl) (h50 : (ctr50 S50).holds cl) (x0 x1 x2) (k : List E → Option R) : exec cl N c21 (e141 x0 x1 x2) (fun e env => (retK d21 e env).bind k) = g21 N S49 S50 x0 x1 x2 (fun r0 r1 => k [.v U2 r0, .v .bool r1]) := by
 simp only [c21, t21_18b S49 S50 h49 h50, rk21_0, Option.bind_some]
 rfl
def ctr21 (S : V14 → Int → V1 → Option V2) : Ctr := cv3 21 U17 U2 .str S fun b => [.v U2 b.1, .v .bool b.2]
def S21 (N : Nat) (x0 : V14) (x1 : Int) (x2 : V1) : Option V2 := g21 N (S49 N) (S50 N) x0 x1 x2 (fun (r0 : Int) (r1 : Bool) => some (r0, r1))
def g5_0 (k0 : V1 → V14 → V14 → Option R) (x0 x1 : V14) (x2 : V1) : Option R :=
k0 x2 x0 x1
theorem t5_0 (x0 x1 x2) : exec cl N c5_0 (e153 x0 x1 x2) K = (g5_0 (fun y0 y1 y2 => K .normal [(2, .v .str y0), (3, .loc U17 .no y1), (4, .loc U17 .no y2)]) x0 x1 x2) := by
 kernel_rfl
def g5_1 (S7 : Option (Bool)) (S8 : V14 → Option (Bool)) (k0 : V1 → V14 → V14 → Bool → Option R) (x0 : V1) (x1 x2 : V14) : Option R :=
(S7).bind fun r535 =>
brB (!r535) (k0 x0 x1 x2 true) ((S8 x1).bind fun r536 =>
brB (!r536) (k0 x0 x1 x2 true) ((S8 x2).bind fun r537 =>
brB (!r537) (k0 x0 x1 x2 true) (k0 x0 x1 x2 (decide ((x0.length : Int) > (40 : Int))))))
theorem t5_1 (S7) (S8) (h7 : (ctr7 S7).holds cl) (h8 : (ctr8 S8).holds cl) (x0 x1 x2) : exec cl N c5_1 [(2, .v .str x0), (3, .loc U17 .no x1), (4, .loc U17 .no x2)] K = (g5_1 S7 S8 (fun y0 y1 y2 y3 => K .normal (e154 y0 y1 y2 y3)) x0 x1 x2) := by
 rw [← put_eq h7]
 rw [← put_eq h8]
 kernel_rfl
def g5_2 (S7 : Option (Bool)) (k0 : Bool → Option R) (x0 : V1) (x1 x2 : V14) (x3 : Bool) : Option R :=
(S7).bind fun r539 =>
k0 r539
theorem t5_2 (S7) (h7 : (ctr7 S7).holds cl) (x0 x1 x2 x3) : exec cl N c5_2 (e154 x0 x1 x2 x3) K = (g5_2 S7 (fun y0 => K .normal [(6, .v .bool y0)]) x0 x1 x2 x3) := by
 rw [← put_eq h7]
 kernel_rfl
theorem kp5_0 (x0) : keep [2, 3, 4, 6] [(6, .v .bool x0)] = (e155 x0) := by kernel_rfl
theorem kp5_1 (x0 x1 x2 x3) : keep [2, 3, 4, 6] (e154 x0 x1 x2 x3) = (e156 x0 x1 x2) := by kernel_rfl
theorem hb5_0 (x0 x1 x2 x3) : boolOf? (ent (e154 x0 x1 x2 x3) (.t 34)) = some x3 := by kernel_rfl
def g5_25 (S18 : V14 → V14 → Option V16) (S19 : V14 → Option V15) (S20 : V14 → V14 → Option V16) (k0 : V1 → V14 → V14 → V14 → Int → V14 → Int → Option R) (x0 : V1) (x1 x2 : V14) : Option R :=
(S19 x1).bind fun r543 =>
(S19 x2).bind fun r544 =>
(S18 r543 r544).bind fun r545 =>
(S20 x1 x2).bind fun r546 =>
k0 x0 x1 x2 r545.1 r545.2 r546.1 r546.2
theorem t5_25 (S18) (S19) (S20) (h18 : (ctr18 S18).holds cl) (h19 : (ctr19 S19).holds cl) (h20 : (ctr20 S20).holds cl) (x0 x1 x2) : exec cl N c5_25 (e156 x0 x1 x2) K = (g5_25 S18 S19 S20 (fun y0 y1 y2 y3 y4 y5 y6 => exec cl N (.seq (.seq c5_6 c5_8) (.seq (.seq c5_9 c5_23) (.seq c5_24 .ret))) (e157 y0 y1 y2 y3 y4 y5 y6) K) x0 x1 x2) := by
 rw [← put_eq h18]
 rw [← put_eq h19]
 rw [← put_eq h20]
 kernel_rfl
def g5_6 (S14 : V14 → V14 → Option (Bool)) (k0 : V1 → V14 → V14 → V14 → Int → V14 → Int → Bool → Option R) (x0 : V1) (x1 x2 x3 : V14) (x4 : Int) (x5 : V14) (x6 : Int) : Option R :=
brB (x4 != x6) (k0 x0 x1 x2 x3 x4 x5 x6 true) ((S14 x3 x5).bind fun r547 =>
brB (!r547) (k0 x0 x1 x2 x3 x4 x5 x6 true) (k0 x0 x1 x2 x3 x4 x5 x6 (x4 != (0 : Int))))
theorem t5_6 (S14) (h14 : (ctr14 S14).holds cl) (x0 x1 x2 x3 x4 x5 x6) : exec cl N c5_6 (e157 x0 x1 x2 x3 x4 x5 x6) K = (g5_6 S14 (fun y0 y1 y2 y3 y4 y5 y6 y7 => K .normal (e158 y0 y1 y2 y3 y4 y5 y6 y7)) x0 x1 x2 x3 x4 x5 x6) := by
 rw [← put_eq h14]
 kernel_rfl
def g5_7 (S14 : V14 → V14 → Option (Bool)) (k0 : Bool → Option R) (x0 : V1) (x1 x2 x3 : V14) (x4 : Int) (x5 : V14) (x6 : Int) (x7 : Bool) : Option R :=
brB (x4 == x6) ((S14 x3 x5).bind fun r549 =>
k0 r549) (k0 false)
theorem t5_7 (S14) (h14 : (ctr14 S14).holds cl) (x0 x1 x2 x3 x4 x5 x6 x7) : exec cl N c5_7 (e158 x0 x1 x2 x3 x4 x5 x6 x7) K = (g5_7 S14 (fun y0 => K .normal [(6, .v .bool y0)]) x0 x1 x2 x3 x4 x5 x6 x7) := by
 rw [← put_eq h14]
 kernel_rfl
theorem kp5_2 (x0) : keep [2, 3, 4, 6, 7] [(6, .v .bool x0)] = (e159 x0) := by kernel_rfl
theorem kp5_3 (x0 x1 x2 x3 x4 x5 x6 x7) : keep [2, 3, 4, 6, 7] (e158 x0 x1 x2 x3 x4 x5 x6 x7) = (e160 x0 x1 x2 x3) := by kernel_rfl
theorem hb5_1 (x0 x1 x2 x3 x4 x5 x6 x7) : boolOf? (ent (e158 x0 x1 x2 x3 x4 x5 x6 x7) (.t 62)) = some x7 := by kernel_rfl
def g5_9 (k0 : V1 → V14 → V14 → V14 → Int → Option R) (x0 : V1) (x1 x2 x3 : V14) : Option R :=
k0 x0 x1 x2 x3 (1 : Int)
theorem t5_9 (x0 x1 x2 x3) : exec cl N c5_9 (e160 x0 x1 x2 x3) K = (g5_9 (fun y0 y1 y2 y3 y4 => K .normal (e161 y0 y1 y2 y3 y4)) x0 x1 x2 x3) := by
 kernel_rfl
theorem kp5_4 (x0 x1 x2 x3 x4) : keep [2, 3, 4, 7, 11] (e161 x0 x1 x2 x3 x4) = (e161 x0 x1 x2 x3 x4) := by kernel_rfl
def g5_10 (k0 : V1 → V14 → V14 → V14 → Int → Bool → Option R) (x0 : V1) (x1 x2 x3 : V14) (x4 : Int) : Option R :=
k0 x0 x1 x2 x3 x4 (decide (x4 ≤ (12 : Int)))
theorem t5_10 (x0 x1 x2 x3 x4) : exec cl N c5_10 (e161 x0 x1 x2 x3 x4) K = (g5_10 (fun y0 y1 y2 y3 y4 y5 => K .normal (e162 y0 y1 y2 y3 y4 y5)) x0 x1 x2 x3 x4) := by
 kernel_rfl
theorem kp5_5 (x0 x1 x2 x3 x4 x5) : keep [2, 3, 4, 7, 11] (e162 x0 x1 x2 x3 x4 x5) = (e161 x0 x1 x2 x3 x4) := by kernel_rfl
theorem hb5_2 (x0 x1 x2 x3 x4 x5) : boolOf? (ent (e162 x0 x1 x2 x3 x4 x5) (.t 72)) = some x5 := by kernel_rfl
def g5_18 (S17 : V14 → Int → V1 → Option V2) (S21 : V14 → Int → V1 → Option V2) (k0 : V1 → V14 → V14 → V14 → Int → Bool → Option R) (x0 : V1) (x1 x2 x3 : V14) (x4 : Int) : Option R :=
(S17 x3 x4 x0).bind fun r557 =>
(S21 x1 x4 x0).bind fun r558 =>
(S21 x2 x4 x0).bind fun r559 =>
brB r558.2 (brB (!(r557.2 == true)) (k0 x0 x1 x2 x3 x4 true) (brB r558.2 (brB (decide (r557.1 > r558.1)) (k0 x0 x1 x2 x3 x4 true) (brB r559.2 (brB (decide (r557.1 > r559.1)) (k0 x0 x1 x2 x3 x4 true) (brB r557.2 (brB r558.2 (brB (!(r557.1 == r558.1)) (brB r559.2 (k0 x0 x1 x2 x3 x4 (!(r557.1 == r559.1))) (k0 x0 x1 x2 x3 x4 true)) (k0 x0 x1 x2 x3 x4 false)) (brB r559.2 (k0 x0 x1 x2 x3 x4 (!(r557.1 == r559.1))) (k0 x0 x1 x2 x3 x4 true))) (k0 x0 x1 x2 x3 x4 false))) (brB r557.2 (brB r558.2 (brB (!(r557.1 == r558.1)) (brB r559.2 (k0 x0 x1 x2 x3 x4 (!(r557.1 == r559.1))) (k0 x0 x1 x2 x3 x4 true)) (k0 x0 x1 x2 x3 x4 false)) (brB r559.2 (k0 x0 x1 x2 x3 x4 (!(r557.1 == r559.1))) (k0 x0 x1 x2 x3 x4 true))) (k0 x0 x1 x2 x3 x4 false)))) (brB r559.2 (brB (decide (r557.1 > r559.1)) (k0 x0 x1 x2 x3 x4 true) (brB r557.2 (brB r558.2 (brB (!(r557.1 == r558.1)) (brB r559.2 (k0 x0 x1 x2 x3 x4 (!(r557.1 == r559.1))) (k0 x0 x1 x2 x3 x4 true)) (k0 x0 x1 x2 x3 x4 false)) (brB r559.2 (k0 x0 x1 x2 x3 x4 (!(r557.1 == r559.1))) (k0 x0 x1 x2 x3 x4 true))) (k0 x0 x1 x2 x3 x4 false))) (brB r557.2 (brB r558.2 (brB (!(r557.1 == r558.1)) (brB r559.2 (k0 x0 x1 x2 x3 x4 (!(r557.1 == r559.1))) (k0 x0 x1 x2 x3 x4 true)) (k0 x0 x1 x2 x3 x4 false)) (brB r559.2 (k0 x0 x1 x2 x3 x4 (!(r557.1 == r559.1))) (k0 x0 x1 x2 x3 x4 true))) (k0 x0 x1 x2 x3 x4 false))))) (brB (!(r557.2 == r559.2)) (k0 x0 x1 x2 x3 x4 true) (brB r558.2 (brB (decide (r557.1 > r558.1)) (k0 x0 x1 x2 x3 x4 true) (brB r559.2 (brB (decide (r557.1 > r559.1)) (k0 x0 x1 x2 x3 x4 true) (brB r557.2 (brB r558.2 (brB (!(r557.1 == r558.1)) (brB r559.2 (k0 x0 x1 x2 x3 x4 (!(r557.1 == r559.1))) (k0 x0 x1 x2 x3 x4 true)) (k0 x0 x1 x2 x3 x4 false)) (brB r559.2 (k0 x0 x1 x2 x3 x4 (!(r557.1 == r559.1))) (k0 x0 x1 x2 x3 x4 true))) (k0 x0 x1 x2 x3 x4 false))) (brB r557.2 (brB r558.2 (brB (!(r557.1 == r558.1)) (brB r559.2 (k0 x0 x1 x2 x3 x4 (!(r557.1 == r559.1))) (k0 x0 x1 x2 x3 x4 true)) (k0 x0 x1 x2 x3 x4 false)) (brB r559.2 (k0 x0 x1 x2 x3 x4 (!(r557.1 == r559.1))) (k0 x0 x1 x2 x3 x4 true))) (k0 x0 x1 x2 x3 x4 false)))) (brB r559.2 (brB (decide (r557.1 > r559.1)) (k0 x0 x1 x2 x3 x4 true) (brB r557.2 (brB r558.2 (brB (!(r557.1 == r558.1)) (brB r559.2 (k0 x0 x1 x2 x3 x4 (!(r557.1 == r559.1))) (k0 x0 x1 x2 x3 x4 true)) (k0 x0 x1 x2 x3 x4 false)) (brB r559.2 (k0 x0 x1 x2 x3 x4 (!(r557.1 == r559.1))) (k0 x0 x1 x2 x3 x4 true))) (k0 x0 x1 x2 x3 x4 false))) (brB r557.2 (brB r558.2 (brB (!(r557.1 == r558.1)) (brB r559.2 (k0 x0 x1 x2 x3 x4 (!(r557.1 == r559.1))) (k0 x0 x1 x2 x3 x4 true)) (k0 x0 x1 x2 x3 x4 false)) (brB r559.2 (k0 x0 x1 x2 x3 x4 (!(r557.1 == r559.1))) (k0 x0 x1 x2 x3 x4 true))) (k0 x0 x1 x2 x3 x4 false)))))
theorem t5_18 (S17) (S21) (h17 : (ctr17 S17).holds cl) (h21 : (ctr21 S21).holds cl) (x0 x1 x2 x3 x4) : exec cl N c5_18 (e161 x0 x1 x2 x3 x4) K = (g5_18 S17 S21 (fun y0 y1 y2 y3 y4 y5 => exec cl N c5_17 (e163 y0 y1 y2 y3 y4 y5) K) x0 x1 x2 x3 x4) := by
 rw [← put_eq h17]
 rw [← put_eq h21]
 kernel_rfl
def g5_16 (k0 : Bool → Option R) (x0 : V1) (x1 x2 x3 : V14) (x4 : Int) (x5 : Bool) : Option R :=
k0 false
theorem t5_16 (x0 x1 x2 x3 x4 x5) : exec cl N c5_16 (e163 x0 x1 x2 x3 x4 x5) K = (g5_16 (fun y0 => K .normal [(6, .v .bool y0)]) x0 x1 x2 x3 x4 x5) := by
 kernel_rfl
theorem kp5_6 (x0) : keep [2, 3, 4, 6, 7, 11] [(6, .v .bool x0)] = (e164 x0) := by kernel_rfl
theorem kp5_7 (x0 x1 x2 x3 x4 x5) : keep [2, 3, 4, 6, 7, 11] (e163 x0 x1 x2 x3 x4 x5) = (e165 x0 x1 x2 x3 x4) := by kernel_rfl
theorem hb5_3 (x0 x1 x2 x3 x4 x5) : boolOf? (ent (e163 x0 x1 x2 x3 x4 x5) (.t 138)) = some x5 := by kernel_rfl
theorem kp5_8 (x0) : keep [2, 3, 4, 6, 7, 11] (e164 x0) = (e164 x0) := by kernel_rfl
theorem kp5_9 (x0 x1 x2 x3 x4) : keep [2, 3, 4, 6, 7, 11] (e165 x0 x1 x2 x3 x4) = (e165 x0 x1 x2 x3 x4) := by kernel_rfl
def g5_20 (k0 : V1 → V14 → V14 → V14 → Int → Option R) (x0 : V1) (x1 x2 x3 : V14) (x4 : Int) : Option R :=
k0 x0 x1 x2 x3 (IntKind.i64.wrap (x4 + (1 : Int)))
theorem t5_20 (x0 x1 x2 x3 x4) : exec cl N c5_20 (e165 x0 x1 x2 x3 x4) K = (g5_20 (fun y0 y1 y2 y3 y4 => K .normal (e161 y0 y1 y2 y3 y4)) x0 x1 x2 x3 x4) := by
 kernel_rfl
def g5_21 (S17 : V14 → Int → V1 → Option V2) (S21 : V14 → Int → V1 → Option V2) (k0 : Bool → Option R) (k1 : V1 → V14 → V14 → V14 → Int → Option R) (k2 : V1 → V14 → V14 → V14 → Int → Option R) (x0 : V1) (x1 x2 x3 : V14) (x4 : Int) : Option R :=
(g5_10 (fun y0 y1 y2 y3 y4 y5 => brB y5 ((g5_18 S17 S21 (fun y0 y1 y2 y3 y4 y5 => brB y5 (g5_16 k0 y0 y1 y2 y3 y4 y5) (((g5_20 k1)) y0 y1 y2 y3 y4))) y0 y1 y2 y3 y4) (k2 y0 y1 y2 y3 y4)) x0 x1 x2 x3 x4)
theorem t5_21 (S17) (S21) (h17 : (ctr17 S17).holds cl) (h21 : (ctr21 S21).holds cl) (x0 x1 x2 x3 x4) : exec cl N c5_21 (e161 x0 x1 x2 x3 x4) K = (g5_21 S17 S21 (fun y0 => K .ret (e164 y0)) (fun y0 y1 y2 y3 y4 => K .normal (e161 y0 y1 y2 y3 y4)) (fun y0 y1 y2 y3 y4 => K (.exit 0) (e161 y0 y1 y2 y3 y4)) x0 x1 x2 x3 x4) := by
 simp only [c5_21, exec_seq, seqK_normal, seqK_exit, seqK_ret, t5_10, c5_11, exec_out, exec_cond', hb5_2, Option.bind_some, brB_true, brB_false, exec_skip, exec_exit, kp5_5, c5_19, exec_block, t5_18 S17 S21 h17 h21, c5_17, hb5_3, t5_16, exec_ret, kp5_6, kp5_7, blockK_normal, blockK_ret, blockK_eq, kp5_8, kp5_9, t5_20]
 rfl
def l5_22 {R : Type} (S17 : V14 → Int → V1 → Option V2) (S21 : V14 → Int → V1 → Option V2) (k0 : Bool → Option R) (k1 : V1 → V14 → V14 → V14 → Int → Option R) : Nat → V1 → V14 → V14 → V14 → Int → Option R
 | 0, _, _, _, _, _ => none
 | m + 1, x0, x1, x2, x3, x4 => (g5_21 S17 S21 k0 (l5_22 S17 S21 k0 k1 m) k1 x0 x1 x2 x3 x4)
theorem lt5_22 (S17) (S21) (h17 : (ctr17 S17).holds cl) (h21 : (ctr21 S21).holds cl) : ∀ (m) (x0 x1 x2 x3 x4), iter [2, 3, 4, 7, 11] (fun env K => exec cl N c5_21 env K) K m (e161 x0 x1 x2 x3 x4) = l5_22 S17 S21 (fun y0 => K .ret (e164 y0)) (fun y0 y1 y2 y3 y4 => K (.exit 0) (e161 y0 y1 y2 y3 y4)) m x0 x1 x2 x3 x4 := by
 intro m
 induction m with
 | zero => intros; rfl
 | succ m ih =>
   intro x0 x1 x2 x3 x4
   simp only [iter_succ, t5_21 S17 S21 h17 h21, loopK_normal, loopK_exit, loopK_ret, kp5_4, ih]
   rfl
theorem kp5_10 (x0) : keep [6] (e164 x0) = [(6, .v .bool x0)] := by kernel_rfl
theorem kp5_11 (x0 x1 x2 x3 x4) : keep [6] (e161 x0 x1 x2 x3 x4) = [(6, .dead)] := by kernel_rfl
def g5_22 (N : Nat) (S17 : V14 → Int → V1 → Option V2) (S21 : V14 → Int → V1 → Option V2) (k0 : Bool → Option R) (k1 : Option R) (x0 : V1) (x1 x2 x3 : V14) (x4 : Int) : Option R :=
l5_22 S17 S21 k0 (fun y0 y1 y2 y3 y4 => k1) N x0 x1 x2 x3 x4
theorem t5_22 (S17) (S21) (h17 : (ctr17 S17).holds cl) (h21 : (ctr21 S21).holds cl) (x0 x1 x2 x3 x4) : exec cl N c5_22 (e161 x0 x1 x2 x3 x4) K = (g5_22 N S17 S21 (fun y0 => K .ret [(6, .v .bool y0)]) (K (.exit 0) [(6, .dead)]) x0 x1 x2 x3 x4) := by
 simp only [c5_22, exec_out, exec_loop, kp5_4, lt5_22 S17 S21 h17 h21, kp5_10, kp5_11]
 rfl
theorem kp5_12 (x0) : keep [6] [(6, .v .bool x0)] = [(6, .v .bool x0)] := by kernel_rfl
theorem kp5_13 : keep [6] [(6, .dead)] = [(6, .dead)] := by kernel_rfl
def g5_24 (k0 : Bool → Option R) : Option R :=
k0 true
theorem t5_24 : exec cl N c5_24 [(6, .dead)] K = (g5_24 (fun y0 => K .normal [(6, .v .bool y0)])) := by
 kernel_rfl
def g5_26 (N : Nat) (S7 : Option (Bool)) (S8 : V14 → Option (Bool)) (S14 : V14 → V14 → Option (Bool)) (S17 : V14 → Int → V1 → Option V2) (S18 : V14 → V14 → Option V16) (S19 : V14 → Option V15) (S20 : V14 → V14 → Option V16) (S21 : V14 → Int → V1 → Option V2) (k0 : Bool → Option R) (k1 : Bool → Option R) (k2 : Bool → Option R) (x0 x1 : V14) (x2 : V1) : Option R :=
(g5_0 (g5_1 S7 S8 (fun y0 y1 y2 y3 => brB y3 (g5_2 S7 k0 y0 y1 y2 y3) ((g5_25 S18 S19 S20 (g5_6 S14 (fun y0 y1 y2 y3 y4 y5 y6 y7 => brB y7 (g5_7 S14 k1 y0 y1 y2 y3 y4 y5 y6 y7) ((g5_9 (g5_22 N S17 S21 k2 (g5_24 k2))) y0 y1 y2 y3)))) y0 y1 y2))) x0 x1 x2)
theorem t5_26 (S7) (S8) (S14) (S17) (S18) (S19) (S20) (S21) (h7 : (ctr7 S7).holds cl) (h8 : (ctr8 S8).holds cl) (h14 : (ctr14 S14).holds cl) (h17 : (ctr17 S17).holds cl) (h18 : (ctr18 S18).holds cl) (h19 : (ctr19 S19).holds cl) (h20 : (ctr20 S20).holds cl) (h21 : (ctr21 S21).holds cl) (x0 x1 x2) : exec cl N c5_26 (e153 x0 x1 x2) K = (g5_26 N S7 S8 S14 S17 S18 S19 S20 S21 (fun y0 => K .ret (e155 y0)) (fun y0 => K .ret (e159 y0)) (fun y0 => K .ret [(6, .v .bool y0)]) x0 x1 x2) := by
 simp only [c5_26, exec_seq, seqK_normal, seqK_exit, seqK_ret, t5_0, t5_1 S7 S8 h7 h8, c5_3, exec_out, exec_cond', hb5_0, Option.bind_some, brB_true, brB_false, t5_2 S7 h7, exec_ret, exec_skip, kp5_0, kp5_1, t5_25 S18 S19 S20 h18 h19 h20, t5_6 S14 h14, c5_8, hb5_1, t5_7 S14 h14, kp5_2, kp5_3, t5_9, c5_23, exec_block, t5_22 S17 S21 h17 h21, blockK_normal, blockK_ret, blockK_eq, kp5_12, kp5_13, t5_24]
 rfl
theorem rk5_0 (y0) : retK d5 .ret (e155 y0) = some [.v .bool y0] := by kernel_rfl
theorem rk5_1 (y0) : retK d5 .ret (e159 y0) = some [.v .bool y0] := by kernel_rfl
theorem rk5_2 (y0) : retK d5 .ret [(6, .v .bool y0)] = some [.v .bool y0] := by kernel_rfl
def g5 (N : Nat) (S7 : Option (Bool)) (S8 : V14 → Option (Bool)) (S14 : V14 → V14 → Option (Bool)) (S17 : V14 → Int → V1 → Option V2) (S18 : V14 → V14 → Option V16) (S19 : V14 → Option V15) (S20 : V14 → V14 → Option V16) (S21 : V14 → Int → V1 → Option V2) (x0 x1 : V14) (x2 : V1) (k : Bool → Option R) : Option R :=
(g5_26 N S7 S8 S14 S17 S18 S19 S20 S21 k k k x0 x1 x2)
theorem gen5 (S7) (S8) (S14) (S17) (S18) (S19) (S20) (S21) (h7 : (ctr7 S7).holds cl) (h8 : (ctr8 S8).holds cl) (h14 : (ctr14 S14).holds cl) (h17 : (ctr17 S17).holds cl) (h18 : (ctr18 S18).holds cl) (h19 : (ctr19 S19).holds cl) (h20 : (ctr20 S20).holds cl) (h21 : (ctr21 S21).holds cl) (x0 x1 x2) (k : List E → Option R) : exec cl N c5 (e153 x0 x1 x2) (fun e env => (retK d5 e env).bind k) = g5 N S7 S8 S14 S17 S18 S19 S20 S21 x0 x1 x2 (fun r0 => k [.v .bool r0]) := by
 simp only [c5, t5_26 S7 S8 S14 S17 S18 S19 S20 S21 h7 h8 h14 h17 h18 h19 h20 h21, rk5_0, rk5_1, rk5_2, Option.bind_some]
 rfl
def ctr5 (S : V14 → V14 → V1 → Option (Bool)) : Ctr := cv3 5 U17 U17 .str S fun b => [.v .bool b]
def S5 (N : Nat) (x0 : V14) (x1 : V14) (x2 : V1) : Option (Bool) := g5 N (S7 N) (S8 N) (S14 N) (S17 N) (S18 N) (S19 N) (S20 N) (S21 N) x0 x1 x2 (fun (r0 : Bool) => some (r0))
end Go.Fw.L19
