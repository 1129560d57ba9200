/- Printed by an own program for this claim: the machine's code of functions, or their typed forms with their equations; no conditions. -/
import Derived.Test.YtggppceiapjadaaGreatFwYc19
import Derived.Test.YtggppceiapjadaaGreatFwB1
set_option linter.unusedVariables false
set_option linter.unusedSimpArgs false
namespace Go.Fw.L19
open Go Go.Fw
set_option maxRecDepth 100000
set_option linter.unusedVariables false
set_option linter.unusedSimpArgs false
def g31_0 {R : Type} (x0 : V6) (x1 : Int) (k0 : V6 → Int → Option R) : Option R :=
k0 x0 x1
theorem t31_0 {N cl} {R} (K : KE R) (x0 x1) : exec cl N c31_0 [(0, .v U0 x0), (1, .v U2 x1)] K = (g31_0 x0 x1 (fun y0 y1 => K .normal [(0, .v U0 y0), (1, .v U2 y1)])) := by
  kernel_rfl
def g31_1 {R : Type} (x0 : V6) (x1 : Int) (k0 : V6 → Int → Int → Option R) : Option R :=
k0 x0 x1 (0 : Int)
theorem t31_1 {N cl} {R} (K : KE R) (x0 x1) : exec cl N c31_1 [(0, .v U0 x0), (1, .v U2 x1)] K = (g31_1 x0 x1 (fun y0 y1 y2 => K .normal [(0, .v U0 y0), (1, .v U2 y1), (5, .v U2 y2)])) := by
  kernel_rfl
def g31_2 {R : Type} (x0 : V6) (x1 : Int) (x2 : Int) (k0 : V6 → Int → Int → Int → Option R) : Option R :=
k0 x0 x1 x2 (0 : Int)
theorem t31_2 {N cl} {R} (K : KE R) (x0 x1 x2) : exec cl N c31_2 [(0, .v U0 x0), (1, .v U2 x1), (5, .v U2 x2)] K = (g31_2 x0 x1 x2 (fun y0 y1 y2 y3 => K .normal [(0, .v U0 y0), (1, .v U2 y1), (5, .v U2 y2), (6, .v U2 y3)])) := by
  kernel_rfl
theorem kp31_0 (x0 x1 x2 x3) : keep [0, 1, 5, 6] [(0, .v U0 x0), (1, .v U2 x1), (5, .v U2 x2), (6, .v U2 x3)] = [(0, .v U0 x0), (1, .v U2 x1), (5, .v U2 x2), (6, .v U2 x3)] := by kernel_rfl
def g31_3 {R : Type} (x0 : V6) (x1 : Int) (x2 : Int) (x3 : Int) (k0 : V6 → Int → Int → Int → Bool → Option R) : Option R :=
brB (decide (x3 < (x0.length : Int))) (k0 x0 x1 x2 x3 (decide (x2 ≤ x1))) (k0 x0 x1 x2 x3 false)
theorem t31_3 {N cl} {R} (K : KE R) (x0 x1 x2 x3) : exec cl N c31_3 [(0, .v U0 x0), (1, .v U2 x1), (5, .v U2 x2), (6, .v U2 x3)] K = (g31_3 x0 x1 x2 x3 (fun y0 y1 y2 y3 y4 => K .normal [(0, .v U0 y0), (1, .v U2 y1), (5, .v U2 y2), (6, .v U2 y3), (15, .v .bool y4)])) := by
  kernel_rfl
theorem kp31_1 (x0 x1 x2 x3 x4) : keep [0, 1, 5, 6] [(0, .v U0 x0), (1, .v U2 x1), (5, .v U2 x2), (6, .v U2 x3), (15, .v .bool x4)] = [(0, .v U0 x0), (1, .v U2 x1), (5, .v U2 x2), (6, .v U2 x3)] := by kernel_rfl
theorem hb31_0 (x0 : V6) (x1 : Int) (x2 : Int) (x3 : Int) (x4 : Bool) : boolOf? (ent [(0, .v U0 x0), (1, .v U2 x1), (5, .v U2 x2), (6, .v U2 x3), (15, .v .bool x4)] (.t 15)) = some x4 := by kernel_rfl
def g31_5 {R : Type} (x0 : V6) (x1 : Int) (x2 : Int) (x3 : Int) (k0 : V6 → Int → Int → Int → Option R) : Option R :=
if 0 ≤ x3 ∧ x3 < (x0.length : Int) then
k0 x0 x1 (IntKind.i64.wrap ((IntKind.i64.wrap (x2 + (1 : Int))) + ((x0.getD x3.toNat []).length : Int))) x3
else none
theorem t31_5 {N cl} {R} (K : KE R) (x0 x1 x2 x3) : exec cl N c31_5 [(0, .v U0 x0), (1, .v U2 x1), (5, .v U2 x2), (6, .v U2 x3)] K = (g31_5 x0 x1 x2 x3 (fun y0 y1 y2 y3 => K .normal [(0, .v U0 y0), (1, .v U2 y1), (5, .v U2 y2), (6, .v U2 y3)])) := by
  kernel_rfl
def g31_7 {R : Type} (x0 : V6) (x1 : Int) (x2 : Int) (x3 : Int) (k0 : V6 → Int → Int → Int → Option R) : Option R :=
k0 x0 x1 x2 (IntKind.i64.wrap (x3 + (1 : Int)))
theorem t31_7 {N cl} {R} (K : KE R) (x0 x1 x2 x3) : exec cl N c31_7 [(0, .v U0 x0), (1, .v U2 x1), (5, .v U2 x2), (6, .v U2 x3)] K = (g31_7 x0 x1 x2 x3 (fun y0 y1 y2 y3 => K .normal [(0, .v U0 y0), (1, .v U2 y1), (5, .v U2 y2), (6, .v U2 y3)])) := by
  kernel_rfl
def g31_8 {R : Type} (x0 : V6) (x1 : Int) (x2 : Int) (x3 : Int) (k0 : V6 → Int → Int → Int → Option R) (k1 : V6 → Int → Int → Int → Option R) : Option R :=
(g31_3 x0 x1 x2 x3 (fun y0 y1 y2 y3 y4 => brB y4 ((fun y0 y1 y2 y3 => (g31_5 y0 y1 y2 y3 (fun y0 y1 y2 y3 => (g31_7 y0 y1 y2 y3 k0)))) y0 y1 y2 y3) (k1 y0 y1 y2 y3)))
theorem t31_8 {N cl} {R} (K : KE R) (x0 x1 x2 x3) : exec cl N c31_8 [(0, .v U0 x0), (1, .v U2 x1), (5, .v U2 x2), (6, .v U2 x3)] K = (g31_8 x0 x1 x2 x3 (fun y0 y1 y2 y3 => K .normal [(0, .v U0 y0), (1, .v U2 y1), (5, .v U2 y2), (6, .v U2 y3)]) (fun y0 y1 y2 y3 => K (.exit 0) [(0, .v U0 y0), (1, .v U2 y1), (5, .v U2 y2), (6, .v U2 y3)])) := by
  simp only [c31_8, exec_seq, seqK_normal, seqK_exit, seqK_ret, t31_3, c31_4, exec_out, exec_cond', hb31_0, Option.bind_some, brB_true, brB_false, exec_skip, exec_exit, kp31_1, c31_6, exec_block, t31_5, blockK_normal, blockK_ret, blockK_eq, kp31_0, t31_7]
  rfl
def l31_9 {R : Type} (k0 : V6 → Int → Int → Int → Option R) : Nat → V6 → Int → Int → Int → Option R
  | 0, _, _, _, _ => none
  | m + 1, x0, x1, x2, x3 => (g31_8 x0 x1 x2 x3 (fun y0 y1 y2 y3 => l31_9 k0 m y0 y1 y2 y3) k0)
theorem lt31_9 {N cl} {R} (K : KE R) : ∀ (m) (x0 x1 x2 x3), iter [0, 1, 5, 6] (fun env K => exec cl N c31_8 env K) K m [(0, .v U0 x0), (1, .v U2 x1), (5, .v U2 x2), (6, .v U2 x3)] = l31_9 (fun y0 y1 y2 y3 => K (.exit 0) [(0, .v U0 y0), (1, .v U2 y1), (5, .v U2 y2), (6, .v U2 y3)]) m x0 x1 x2 x3 := by
  intro m
  induction m with
  | zero => intros; rfl
  | succ m ih =>
    intro x0 x1 x2 x3
    simp only [iter_succ, t31_8, loopK_normal, loopK_exit, loopK_ret, kp31_0, ih]
    rfl
theorem kp31_2 (x0 x1 x2 x3) : keep [5] [(0, .v U0 x0), (1, .v U2 x1), (5, .v U2 x2), (6, .v U2 x3)] = [(5, .v U2 x2)] := by kernel_rfl
def g31_9 {R : Type} (N : Nat) (x0 : V6) (x1 : Int) (x2 : Int) (x3 : Int) (k0 : Int → Option R) : Option R :=
l31_9 (fun y0 y1 y2 y3 => k0 y2) N x0 x1 x2 x3
theorem t31_9 {N cl} {R} (K : KE R) (x0 x1 x2 x3) : exec cl N c31_9 [(0, .v U0 x0), (1, .v U2 x1), (5, .v U2 x2), (6, .v U2 x3)] K = (g31_9 N x0 x1 x2 x3 (fun y0 => K (.exit 0) [(5, .v U2 y0)])) := by
  simp only [c31_9, exec_out, exec_loop, kp31_0, lt31_9, kp31_2]
  rfl
theorem kp31_3 (x0) : keep [5] [(5, .v U2 x0)] = [(5, .v U2 x0)] := by kernel_rfl
def g31_11 {R : Type} (x0 : Int) (k0 : Int → Option R) : Option R :=
k0 x0
theorem t31_11 {N cl} {R} (K : KE R) (x0) : exec cl N c31_11 [(5, .v U2 x0)] K = (g31_11 x0 (fun y0 => K .normal [(4, .v U2 y0)])) := by
  kernel_rfl
def g31_12 {R : Type} (N : Nat) (x0 : V6) (x1 : Int) (k0 : Int → Option R) : Option R :=
(g31_0 x0 x1 (fun y0 y1 => (g31_1 y0 y1 (fun y0 y1 y2 => (g31_2 y0 y1 y2 (fun y0 y1 y2 y3 => (g31_9 N y0 y1 y2 y3 (fun y0 => ((fun y0 => (g31_11 y0 (fun y0 => (k0 y0)))) y0)))))))))
theorem t31_12 {N cl} {R} (K : KE R) (x0 x1) : exec cl N c31_12 [(0, .v U0 x0), (1, .v U2 x1)] K = (g31_12 N x0 x1 (fun y0 => K .ret [(4, .v U2 y0)])) := by
  simp only [c31_12, exec_seq, seqK_normal, seqK_exit, seqK_ret, t31_0, t31_1, t31_2, c31_10, exec_out, exec_block, t31_9, blockK_normal, blockK_ret, blockK_eq, kp31_3, t31_11, exec_ret]
  rfl
theorem rk31_0 (y0 : Int) : retK d31 .ret [(4, .v U2 y0)] = some [.v U2 y0] := by kernel_rfl
def g31 {R : Type} (N : Nat) (x0 : V6) (x1 : Int) (k : Int → Option R) : Option R :=
(g31_12 N x0 x1 (fun y0 => k y0))
theorem gen31 {N : Nat} {cl : Cal} (x0 : V6) (x1 : Int) {R : Type} (k : List E → Option R) : exec cl N c31 (params 0 [.v U0 x0, .v U2 x1]) (fun e env => (retK d31 e env).bind k) = g31 N x0 x1 (fun (r0 : Int) => k [.v U2 r0]) := by
  have e0 : params 0 [.v U0 x0, .v U2 x1] = [(0, .v U0 x0), (1, .v U2 x1)] := by kernel_rfl
  simp only [c31, e0, t31_12, rk31_0, Option.bind_some]
  rfl
def ctr31 (S : V6 → Int → Option (Int)) : Ctr := { A := V6 × Int × Unit, B := Int, f := 31, enc := fun a => [.v U0 a.1, .v U2 a.2.1], dec := (decC (decV U0) (decC (decV U2) dec0)), S := fun a => S a.1 a.2.1, ent := fun b => [.v U2 b], ok := (decV_cons (T := U0) (decV_cons (T := U2) (fun es b h => dec0_some h))) }
def S31 (N : Nat) (x0 : V6) (x1 : Int) : Option (Int) := g31 N x0 x1 (fun (r0 : Int) => some (r0))
def g14_0 {R : Type} (x0 : V29) (k0 : V29 → Option R) : Option R :=
k0 x0
theorem t14_0 {N cl} {R} (K : KE R) (x0) : exec cl N c14_0 [(0, .v U27 x0)] K = (g14_0 x0 (fun y0 => K .normal [(1, .loc U27 .no y0)])) := by
  kernel_rfl
def g14_1 {R : Type} (x0 : V29) (k0 : V29 → Int → Option R) : Option R :=
k0 x0 (x0.1.length : Int)
theorem t14_1 {N cl} {R} (K : KE R) (x0) : exec cl N c14_1 [(1, .loc U27 .no x0)] K = (g14_1 x0 (fun y0 y1 => K .normal [(1, .loc U27 .no y0), (3, .v U2 y1)])) := by
  kernel_rfl
def g14_2 {R : Type} (x0 : V29) (x1 : Int) (k0 : V29 → Int → Int → Option R) : Option R :=
k0 x0 x1 (0 : Int)
theorem t14_2 {N cl} {R} (K : KE R) (x0 x1) : exec cl N c14_2 [(1, .loc U27 .no x0), (3, .v U2 x1)] K = (g14_2 x0 x1 (fun y0 y1 y2 => K .normal [(1, .loc U27 .no y0), (3, .v U2 y1), (4, .v U2 y2)])) := by
  kernel_rfl
theorem kp14_0 (x0 x1 x2) : keep [1, 3, 4] [(1, .loc U27 .no x0), (3, .v U2 x1), (4, .v U2 x2)] = [(1, .loc U27 .no x0), (3, .v U2 x1), (4, .v U2 x2)] := by kernel_rfl
def g14_3 {R : Type} (x0 : V29) (x1 : Int) (x2 : Int) (k0 : V29 → Int → Int → Bool → Option R) : Option R :=
brB (decide (x2 < (x0.2.1.length : Int))) (k0 x0 x1 x2 (decide (x2 < (50 : Int)))) (k0 x0 x1 x2 false)
theorem t14_3 {N cl} {R} (K : KE R) (x0 x1 x2) : exec cl N c14_3 [(1, .loc U27 .no x0), (3, .v U2 x1), (4, .v U2 x2)] K = (g14_3 x0 x1 x2 (fun y0 y1 y2 y3 => K .normal [(1, .loc U27 .no y0), (3, .v U2 y1), (4, .v U2 y2), (16, .v .bool y3)])) := by
  kernel_rfl
theorem kp14_1 (x0 x1 x2 x3) : keep [1, 3, 4] [(1, .loc U27 .no x0), (3, .v U2 x1), (4, .v U2 x2), (16, .v .bool x3)] = [(1, .loc U27 .no x0), (3, .v U2 x1), (4, .v U2 x2)] := by kernel_rfl
theorem hb14_0 (x0 : V29) (x1 : Int) (x2 : Int) (x3 : Bool) : boolOf? (ent [(1, .loc U27 .no x0), (3, .v U2 x1), (4, .v U2 x2), (16, .v .bool x3)] (.t 16)) = some x3 := by kernel_rfl
def g14_5 {R : Type} (S31 : V6 → Int → Option (Int)) (x0 : V29) (x1 : Int) (x2 : Int) (k0 : V29 → Int → Int → Option R) : Option R :=
if 0 ≤ x2 ∧ x2 < (x0.2.1.length : Int) then
(S31 ((x0.2.1.getD x2.toNat ((0 : Int), ((0 : Int), ([], ())))).2.2.1) (1500 : Int)).bind fun r21 =>
k0 x0 (IntKind.i64.wrap (x1 + r21)) x2
else none
theorem t14_5 {N cl} (S31) (h31 : (ctr31 S31).holds cl) {R} (K : KE R) (x0 x1 x2) : exec cl N c14_5 [(1, .loc U27 .no x0), (3, .v U2 x1), (4, .v U2 x2)] K = (g14_5 S31 x0 x1 x2 (fun y0 y1 y2 => K .normal [(1, .loc U27 .no y0), (3, .v U2 y1), (4, .v U2 y2)])) := by
  rw [← put_eq h31]
  kernel_rfl
def g14_7 {R : Type} (x0 : V29) (x1 : Int) (x2 : Int) (k0 : V29 → Int → Int → Option R) : Option R :=
k0 x0 x1 (IntKind.i64.wrap (x2 + (1 : Int)))
theorem t14_7 {N cl} {R} (K : KE R) (x0 x1 x2) : exec cl N c14_7 [(1, .loc U27 .no x0), (3, .v U2 x1), (4, .v U2 x2)] K = (g14_7 x0 x1 x2 (fun y0 y1 y2 => K .normal [(1, .loc U27 .no y0), (3, .v U2 y1), (4, .v U2 y2)])) := by
  kernel_rfl
def g14_8 {R : Type} (S31 : V6 → Int → Option (Int)) (x0 : V29) (x1 : Int) (x2 : Int) (k0 : V29 → Int → Int → Option R) (k1 : V29 → Int → Int → Option R) : Option R :=
(g14_3 x0 x1 x2 (fun y0 y1 y2 y3 => brB y3 ((fun y0 y1 y2 => (g14_5 S31 y0 y1 y2 (fun y0 y1 y2 => (g14_7 y0 y1 y2 k0)))) y0 y1 y2) (k1 y0 y1 y2)))
theorem t14_8 {N cl} (S31) (h31 : (ctr31 S31).holds cl) {R} (K : KE R) (x0 x1 x2) : exec cl N c14_8 [(1, .loc U27 .no x0), (3, .v U2 x1), (4, .v U2 x2)] K = (g14_8 S31 x0 x1 x2 (fun y0 y1 y2 => K .normal [(1, .loc U27 .no y0), (3, .v U2 y1), (4, .v U2 y2)]) (fun y0 y1 y2 => K (.exit 0) [(1, .loc U27 .no y0), (3, .v U2 y1), (4, .v U2 y2)])) := by
  simp only [c14_8, exec_seq, seqK_normal, seqK_exit, seqK_ret, t14_3, c14_4, exec_out, exec_cond', hb14_0, Option.bind_some, brB_true, brB_false, exec_skip, exec_exit, kp14_1, c14_6, exec_block, t14_5 S31 h31, blockK_normal, blockK_ret, blockK_eq, kp14_0, t14_7]
  rfl
def l14_9 {R : Type} (S31 : V6 → Int → Option (Int)) (k0 : V29 → Int → Int → Option R) : Nat → V29 → Int → Int → Option R
  | 0, _, _, _ => none
  | m + 1, x0, x1, x2 => (g14_8 S31 x0 x1 x2 (fun y0 y1 y2 => l14_9 S31 k0 m y0 y1 y2) k0)
theorem lt14_9 {N cl} (S31) (h31 : (ctr31 S31).holds cl) {R} (K : KE R) : ∀ (m) (x0 x1 x2), iter [1, 3, 4] (fun env K => exec cl N c14_8 env K) K m [(1, .loc U27 .no x0), (3, .v U2 x1), (4, .v U2 x2)] = l14_9 S31 (fun y0 y1 y2 => K (.exit 0) [(1, .loc U27 .no y0), (3, .v U2 y1), (4, .v U2 y2)]) m x0 x1 x2 := by
  intro m
  induction m with
  | zero => intros; rfl
  | succ m ih =>
    intro x0 x1 x2
    simp only [iter_succ, t14_8 S31 h31, loopK_normal, loopK_exit, loopK_ret, kp14_0, ih]
    rfl
theorem kp14_2 (x0 x1 x2) : keep [1, 3] [(1, .loc U27 .no x0), (3, .v U2 x1), (4, .v U2 x2)] = [(1, .loc U27 .no x0), (3, .v U2 x1)] := by kernel_rfl
def g14_9 {R : Type} (N : Nat) (S31 : V6 → Int → Option (Int)) (x0 : V29) (x1 : Int) (x2 : Int) (k0 : V29 → Int → Option R) : Option R :=
l14_9 S31 (fun y0 y1 y2 => k0 y0 y1) N x0 x1 x2
theorem t14_9 {N cl} (S31) (h31 : (ctr31 S31).holds cl) {R} (K : KE R) (x0 x1 x2) : exec cl N c14_9 [(1, .loc U27 .no x0), (3, .v U2 x1), (4, .v U2 x2)] K = (g14_9 N S31 x0 x1 x2 (fun y0 y1 => K (.exit 0) [(1, .loc U27 .no y0), (3, .v U2 y1)])) := by
  simp only [c14_9, exec_out, exec_loop, kp14_0, lt14_9 S31 h31, kp14_2]
  rfl
theorem kp14_3 (x0 x1) : keep [1, 3] [(1, .loc U27 .no x0), (3, .v U2 x1)] = [(1, .loc U27 .no x0), (3, .v U2 x1)] := by kernel_rfl
def g14_11 {R : Type} (x0 : V29) (x1 : Int) (k0 : Bool → Option R) : Option R :=
brB (decide ((x0.2.1.length : Int) ≤ (40 : Int))) (k0 (decide (x1 ≤ (1500 : Int)))) (k0 false)
theorem t14_11 {N cl} {R} (K : KE R) (x0 x1) : exec cl N c14_11 [(1, .loc U27 .no x0), (3, .v U2 x1)] K = (g14_11 x0 x1 (fun y0 => K .normal [(2, .v .bool y0)])) := by
  kernel_rfl
def g14_12 {R : Type} (N : Nat) (S31 : V6 → Int → Option (Int)) (x0 : V29) (k0 : Bool → Option R) : Option R :=
(g14_0 x0 (fun y0 => (g14_1 y0 (fun y0 y1 => (g14_2 y0 y1 (fun y0 y1 y2 => (g14_9 N S31 y0 y1 y2 (fun y0 y1 => ((fun y0 y1 => (g14_11 y0 y1 (fun y0 => (k0 y0)))) y0 y1)))))))))
theorem t14_12 {N cl} (S31) (h31 : (ctr31 S31).holds cl) {R} (K : KE R) (x0) : exec cl N c14_12 [(0, .v U27 x0)] K = (g14_12 N S31 x0 (fun y0 => K .ret [(2, .v .bool y0)])) := by
  simp only [c14_12, exec_seq, seqK_normal, seqK_exit, seqK_ret, t14_0, t14_1, t14_2, c14_10, exec_out, exec_block, t14_9 S31 h31, blockK_normal, blockK_ret, blockK_eq, kp14_3, t14_11, exec_ret]
  rfl
theorem rk14_0 (y0 : Bool) : retK d14 .ret [(2, .v .bool y0)] = some [.v .bool y0] := by kernel_rfl
def g14 {R : Type} (N : Nat) (S31 : V6 → Int → Option (Int)) (x0 : V29) (k : Bool → Option R) : Option R :=
(g14_12 N S31 x0 (fun y0 => k y0))
theorem gen14 {N : Nat} {cl : Cal} (S31 : V6 → Int → Option (Int)) (h31 : (ctr31 S31).holds cl) (x0 : V29) {R : Type} (k : List E → Option R) : exec cl N c14 (params 0 [.v U27 x0]) (fun e env => (retK d14 e env).bind k) = g14 N S31 x0 (fun (r0 : Bool) => k [.v .bool r0]) := by
  have e0 : params 0 [.v U27 x0] = [(0, .v U27 x0)] := by kernel_rfl
  simp only [c14, e0, t14_12 S31 h31, rk14_0, Option.bind_some]
  rfl
def ctr14 (S : V29 → Option (Bool)) : Ctr := { A := V29 × Unit, B := Bool, f := 14, enc := fun a => [.v U27 a.1], dec := (decC (decV U27) dec0), S := fun a => S a.1, ent := fun b => [.v .bool b], ok := (decV_cons (T := U27) (fun es b h => dec0_some h)) }
def S14 (N : Nat) (x0 : V29) : Option (Bool) := g14 N (S31 N) x0 (fun (r0 : Bool) => some (r0))
def g46_0 {R : Type} (x0 : Int) (k0 : Int → V19 → Option R) : Option R :=
k0 x0 ((0 : Int), ((0 : Int), ([], ())))
theorem t46_0 {N cl} {R} (K : KE R) (x0) : exec cl N c46_0 [(0, .v U1 x0)] K = (g46_0 x0 (fun y0 y1 => K .normal [(0, .v U1 y0), (2, .loc U17 .no y1)])) := by
  kernel_rfl
def g46_1 {R : Type} (x0 : Int) (x1 : V19) (k0 : Int → V19 → V21 → Option R) : Option R :=
k0 x0 x1 [((1 : Int), (3 : Int), ([97] : List UInt8), ()), ((1 : Int), (1 : Int), ([101] : List UInt8), ()), ((1 : Int), (2 : Int), ([111] : List UInt8), ()), ((1 : Int), (3 : Int), ([105] : List UInt8), ()), ((2 : Int), (2 : Int), ([97, 101] : List UInt8), ()), ((3 : Int), (0 : Int), ([116] : List UInt8), ()), ((3 : Int), (0 : Int), ([98] : List UInt8), ()), ((4 : Int), (0 : Int), ([114] : List UInt8), ()), ((4 : Int), (0 : Int), ([108] : List UInt8), ()), ((5 : Int), (0 : Int), ([109] : List UInt8), ()), ((5 : Int), (0 : Int), ([110] : List UInt8), ()), ((6 : Int), (0 : Int), ([115] : List UInt8), ()), ((7 : Int), (0 : Int), ([120] : List UInt8), ()), ((8 : Int), (0 : Int), ([118] : List UInt8), ()), ((9 : Int), (0 : Int), ([104] : List UInt8), ()), ((1 : Int), (3 : Int), ([117] : List UInt8), ())]
theorem t46_1 {N cl} {R} (K : KE R) (x0 x1) : exec cl N c46_1 [(0, .v U1 x0), (2, .loc U17 .no x1)] K = (g46_1 x0 x1 (fun y0 y1 y2 => K .normal [(0, .v U1 y0), (2, .loc U17 .no y1), (3, .own true 30 U17 .no y2)])) := by
  kernel_rfl
def g46_2 {R : Type} (x0 : Int) (x1 : V19) (x2 : V21) (k0 : V19 → Option R) : Option R :=
if (x2.length : Int) = 0 then none else
let v67 : Int := (Int.tmod (IntKind.i64.wrap x0) (x2.length : Int))
if 0 ≤ v67 ∧ v67 < (x2.length : Int) then
if v67.toNat < x2.length then
k0 (x2.getD v67.toNat ((0 : Int), ((0 : Int), ([], ()))))
else none
else none
theorem t46_2 {N cl} {R} (K : KE R) (x0 x1 x2) : exec cl N c46_2 [(0, .v U1 x0), (2, .loc U17 .no x1), (3, .own true 30 U17 .no x2)] K = (g46_2 x0 x1 x2 (fun y0 => K .normal [(2, .loc U17 .no y0)])) := by
  kernel_rfl
def g46_3 {R : Type} (x0 : Int) (k0 : V19 → Option R) : Option R :=
(g46_0 x0 (fun y0 y1 => (g46_1 y0 y1 (fun y0 y1 y2 => (g46_2 y0 y1 y2 (fun y0 => (k0 y0)))))))
theorem t46_3 {N cl} {R} (K : KE R) (x0) : exec cl N c46_3 [(0, .v U1 x0)] K = (g46_3 x0 (fun y0 => K .ret [(2, .loc U17 .no y0)])) := by
  simp only [c46_3, exec_seq, seqK_normal, seqK_exit, seqK_ret, t46_0, t46_1, t46_2, exec_ret]
  rfl
theorem rk46_0 (y0 : V19) : retK d46 .ret [(2, .loc U17 .no y0)] = some [.v U17 y0] := by kernel_rfl
def g46 {R : Type} (x0 : Int) (k : V19 → Option R) : Option R :=
(g46_3 x0 (fun y0 => k y0))
theorem gen46 {N : Nat} {cl : Cal} (x0 : Int) {R : Type} (k : List E → Option R) : exec cl N c46 (params 0 [.v U1 x0]) (fun e env => (retK d46 e env).bind k) = g46 x0 (fun (r0 : V19) => k [.v U17 r0]) := by
  have e0 : params 0 [.v U1 x0] = [(0, .v U1 x0)] := by kernel_rfl
  simp only [c46, e0, t46_3, rk46_0, Option.bind_some]
  rfl
def ctr46 (S : Int → Option V20) : Ctr := { A := Int × Unit, B := V19, f := 46, enc := fun a => [.v U1 a.1], dec := (decC (decV U1) dec0), S := fun a => S a.1, ent := fun b => [.v U17 b], ok := (decV_cons (T := U1) (fun es b h => dec0_some h)) }
def S46 (N : Nat) (x0 : Int) : Option V20 := g46 x0 (fun (r0 : V19) => some (r0))
def g21_0 {R : Type} (x0 : V0) (k0 : V0 → Option R) : Option R :=
k0 x0
theorem t21_0 {N cl} {R} (K : KE R) (x0) : exec cl N c21_0 [(0, .v U4 x0)] K = (g21_0 x0 (fun y0 => K .normal [(0, .v U4 y0)])) := by
  kernel_rfl
def g21_1 {R : Type} (x0 : V0) (k0 : V0 → V21 → Option R) : Option R :=
k0 x0 []
theorem t21_1 {N cl} {R} (K : KE R) (x0) : exec cl N c21_1 [(0, .v U4 x0)] K = (g21_1 x0 (fun y0 y1 => K .normal [(0, .v U4 y0), (3, .own true 30 U17 .no y1)])) := by
  kernel_rfl
def g21_2 {R : Type} (x0 : V0) (x1 : V21) (k0 : V0 → V21 → Int → Option R) : Option R :=
k0 x0 x1 (0 : Int)
theorem t21_2 {N cl} {R} (K : KE R) (x0 x1) : exec cl N c21_2 [(0, .v U4 x0), (3, .own true 30 U17 .no x1)] K = (g21_2 x0 x1 (fun y0 y1 y2 => K .normal [(0, .v U4 y0), (3, .own true 30 U17 .no y1), (4, .v U2 y2)])) := by
  kernel_rfl
theorem kp21_0 (x0 x1 x2) : keep [0, 3, 4] [(0, .v U4 x0), (3, .own true 30 U17 .no x1), (4, .v U2 x2)] = [(0, .v U4 x0), (3, .own true 30 U17 .no x1), (4, .v U2 x2)] := by kernel_rfl
def g21_3 {R : Type} (x0 : V0) (x1 : V21) (x2 : Int) (k0 : V0 → V21 → Int → Bool → Option R) : Option R :=
k0 x0 x1 x2 (decide (x2 < (x0.length : Int)))
theorem t21_3 {N cl} {R} (K : KE R) (x0 x1 x2) : exec cl N c21_3 [(0, .v U4 x0), (3, .own true 30 U17 .no x1), (4, .v U2 x2)] K = (g21_3 x0 x1 x2 (fun y0 y1 y2 y3 => K .normal [(0, .v U4 y0), (3, .own true 30 U17 .no y1), (4, .v U2 y2), (8, .v .bool y3)])) := by
  kernel_rfl
theorem kp21_1 (x0 x1 x2 x3) : keep [0, 3, 4] [(0, .v U4 x0), (3, .own true 30 U17 .no x1), (4, .v U2 x2), (8, .v .bool x3)] = [(0, .v U4 x0), (3, .own true 30 U17 .no x1), (4, .v U2 x2)] := by kernel_rfl
theorem hb21_0 (x0 : V0) (x1 : V21) (x2 : Int) (x3 : Bool) : boolOf? (ent [(0, .v U4 x0), (3, .own true 30 U17 .no x1), (4, .v U2 x2), (8, .v .bool x3)] (.t 8)) = some x3 := by kernel_rfl
def g21_5 {R : Type} (S46 : Int → Option V20) (x0 : V0) (x1 : V21) (x2 : Int) (k0 : V0 → V21 → Int → Option R) : Option R :=
if 0 ≤ x2 ∧ x2 < (x0.length : Int) then
(S46 (x0.getD x2.toNat (0 : Int))).bind fun r72 =>
if x1.length + [r72].length ≤ 4398046511104 then
k0 x0 (x1 ++ [r72]) x2
else none
else none
theorem t21_5 {N cl} (S46) (h46 : (ctr46 S46).holds cl) {R} (K : KE R) (x0 x1 x2) : exec cl N c21_5 [(0, .v U4 x0), (3, .own true 30 U17 .no x1), (4, .v U2 x2)] K = (g21_5 S46 x0 x1 x2 (fun y0 y1 y2 => K .normal [(0, .v U4 y0), (3, .own true 30 U17 .no y1), (4, .v U2 y2)])) := by
  rw [← put_eq h46]
  kernel_rfl
def g21_7 {R : Type} (x0 : V0) (x1 : V21) (x2 : Int) (k0 : V0 → V21 → Int → Option R) : Option R :=
k0 x0 x1 (IntKind.i64.wrap (x2 + (1 : Int)))
theorem t21_7 {N cl} {R} (K : KE R) (x0 x1 x2) : exec cl N c21_7 [(0, .v U4 x0), (3, .own true 30 U17 .no x1), (4, .v U2 x2)] K = (g21_7 x0 x1 x2 (fun y0 y1 y2 => K .normal [(0, .v U4 y0), (3, .own true 30 U17 .no y1), (4, .v U2 y2)])) := by
  kernel_rfl
def g21_8 {R : Type} (S46 : Int → Option V20) (x0 : V0) (x1 : V21) (x2 : Int) (k0 : V0 → V21 → Int → Option R) (k1 : V0 → V21 → Int → Option R) : Option R :=
(g21_3 x0 x1 x2 (fun y0 y1 y2 y3 => brB y3 ((fun y0 y1 y2 => (g21_5 S46 y0 y1 y2 (fun y0 y1 y2 => (g21_7 y0 y1 y2 k0)))) y0 y1 y2) (k1 y0 y1 y2)))
theorem t21_8 {N cl} (S46) (h46 : (ctr46 S46).holds cl) {R} (K : KE R) (x0 x1 x2) : exec cl N c21_8 [(0, .v U4 x0), (3, .own true 30 U17 .no x1), (4, .v U2 x2)] K = (g21_8 S46 x0 x1 x2 (fun y0 y1 y2 => K .normal [(0, .v U4 y0), (3, .own true 30 U17 .no y1), (4, .v U2 y2)]) (fun y0 y1 y2 => K (.exit 0) [(0, .v U4 y0), (3, .own true 30 U17 .no y1), (4, .v U2 y2)])) := by
  simp only [c21_8, exec_seq, seqK_normal, seqK_exit, seqK_ret, t21_3, c21_4, exec_out, exec_cond', hb21_0, Option.bind_some, brB_true, brB_false, exec_skip, exec_exit, kp21_1, c21_6, exec_block, t21_5 S46 h46, blockK_normal, blockK_ret, blockK_eq, kp21_0, t21_7]
  rfl
def l21_9 {R : Type} (S46 : Int → Option V20) (k0 : V0 → V21 → Int → Option R) : Nat → V0 → V21 → Int → Option R
  | 0, _, _, _ => none
  | m + 1, x0, x1, x2 => (g21_8 S46 x0 x1 x2 (fun y0 y1 y2 => l21_9 S46 k0 m y0 y1 y2) k0)
theorem lt21_9 {N cl} (S46) (h46 : (ctr46 S46).holds cl) {R} (K : KE R) : ∀ (m) (x0 x1 x2), iter [0, 3, 4] (fun env K => exec cl N c21_8 env K) K m [(0, .v U4 x0), (3, .own true 30 U17 .no x1), (4, .v U2 x2)] = l21_9 S46 (fun y0 y1 y2 => K (.exit 0) [(0, .v U4 y0), (3, .own true 30 U17 .no y1), (4, .v U2 y2)]) m x0 x1 x2 := by
  intro m
  induction m with
  | zero => intros; rfl
  | succ m ih =>
    intro x0 x1 x2
    simp only [iter_succ, t21_8 S46 h46, loopK_normal, loopK_exit, loopK_ret, kp21_0, ih]
    rfl
theorem kp21_2 (x0 x1 x2) : keep [3] [(0, .v U4 x0), (3, .own true 30 U17 .no x1), (4, .v U2 x2)] = [(3, .own true 30 U17 .no x1)] := by kernel_rfl
def g21_9 {R : Type} (N : Nat) (S46 : Int → Option V20) (x0 : V0) (x1 : V21) (x2 : Int) (k0 : V21 → Option R) : Option R :=
l21_9 S46 (fun y0 y1 y2 => k0 y1) N x0 x1 x2
theorem t21_9 {N cl} (S46) (h46 : (ctr46 S46).holds cl) {R} (K : KE R) (x0 x1 x2) : exec cl N c21_9 [(0, .v U4 x0), (3, .own true 30 U17 .no x1), (4, .v U2 x2)] K = (g21_9 N S46 x0 x1 x2 (fun y0 => K (.exit 0) [(3, .own true 30 U17 .no y0)])) := by
  simp only [c21_9, exec_out, exec_loop, kp21_0, lt21_9 S46 h46, kp21_2]
  rfl
theorem kp21_3 (x0) : keep [3] [(3, .own true 30 U17 .no x0)] = [(3, .own true 30 U17 .no x0)] := by kernel_rfl
def g21_11 {R : Type} (x0 : V21) (k0 : V21 → Option R) : Option R :=
k0 x0
theorem t21_11 {N cl} {R} (K : KE R) (x0) : exec cl N c21_11 [(3, .own true 30 U17 .no x0)] K = (g21_11 x0 (fun y0 => K .normal [(2, .ref 3 []), (3, .own true 30 U17 .no y0)])) := by
  kernel_rfl
def g21_12 {R : Type} (N : Nat) (S46 : Int → Option V20) (x0 : V0) (k0 : V21 → Option R) : Option R :=
(g21_0 x0 (fun y0 => (g21_1 y0 (fun y0 y1 => (g21_2 y0 y1 (fun y0 y1 y2 => (g21_9 N S46 y0 y1 y2 (fun y0 => ((fun y0 => (g21_11 y0 (fun y0 => (k0 y0)))) y0)))))))))
theorem t21_12 {N cl} (S46) (h46 : (ctr46 S46).holds cl) {R} (K : KE R) (x0) : exec cl N c21_12 [(0, .v U4 x0)] K = (g21_12 N S46 x0 (fun y0 => K .ret [(2, .ref 3 []), (3, .own true 30 U17 .no y0)])) := by
  simp only [c21_12, exec_seq, seqK_normal, seqK_exit, seqK_ret, t21_0, t21_1, t21_2, c21_10, exec_out, exec_block, t21_9 S46 h46, blockK_normal, blockK_ret, blockK_eq, kp21_3, t21_11, exec_ret]
  rfl
theorem rk21_0 (y0 : V21) : retK d21 .ret [(2, .ref 3 []), (3, .own true 30 U17 .no y0)] = some [.own true 30 U17 .no y0] := by kernel_rfl
def g21 {R : Type} (N : Nat) (S46 : Int → Option V20) (x0 : V0) (k : V21 → Option R) : Option R :=
(g21_12 N S46 x0 (fun y0 => k y0))
theorem gen21 {N : Nat} {cl : Cal} (S46 : Int → Option V20) (h46 : (ctr46 S46).holds cl) (x0 : V0) {R : Type} (k : List E → Option R) : exec cl N c21 (params 0 [.v U4 x0]) (fun e env => (retK d21 e env).bind k) = g21 N S46 x0 (fun (r0 : V21) => k [.own true 30 U17 .no r0]) := by
  have e0 : params 0 [.v U4 x0] = [(0, .v U4 x0)] := by kernel_rfl
  simp only [c21, e0, t21_12 S46 h46, rk21_0, Option.bind_some]
  rfl
def ctr21 (S : V0 → Option V24) : Ctr := { A := V0 × Unit, B := V21, f := 21, enc := fun a => [.v U4 a.1], dec := (decC (decV U4) dec0), S := fun a => S a.1, ent := fun b => [.own true 30 U17 .no b], ok := (decV_cons (T := U4) (fun es b h => dec0_some h)) }
def S21 (N : Nat) (x0 : V0) : Option V24 := g21 N (S46 N) x0 (fun (r0 : V21) => some (r0))
def g93_0 {R : Type} (x0 : Int) (k0 : Int → Option R) : Option R :=
k0 x0
theorem t93_0 {N cl} {R} (K : KE R) (x0) : exec cl N c93_0 [(0, .v U1 x0)] K = (g93_0 x0 (fun y0 => K .normal [(0, .v U1 y0)])) := by
  kernel_rfl
def g93_1 {R : Type} (x0 : Int) (k0 : Bool → Option R) : Option R :=
brB (decide (x0 ≥ (97 : Int))) (k0 (decide (x0 ≤ (122 : Int)))) (k0 false)
theorem t93_1 {N cl} {R} (K : KE R) (x0) : exec cl N c93_1 [(0, .v U1 x0)] K = (g93_1 x0 (fun y0 => K .normal [(2, .v .bool y0)])) := by
  kernel_rfl
def g93_2 {R : Type} (x0 : Int) (k0 : Bool → Option R) : Option R :=
(g93_0 x0 (fun y0 => (g93_1 y0 (fun y0 => (k0 y0)))))
theorem t93_2 {N cl} {R} (K : KE R) (x0) : exec cl N c93_2 [(0, .v U1 x0)] K = (g93_2 x0 (fun y0 => K .ret [(2, .v .bool y0)])) := by
  simp only [c93_2, exec_seq, seqK_normal, seqK_exit, seqK_ret, t93_0, t93_1, exec_ret]
  rfl
theorem rk93_0 (y0 : Bool) : retK d93 .ret [(2, .v .bool y0)] = some [.v .bool y0] := by kernel_rfl
def g93 {R : Type} (x0 : Int) (k : Bool → Option R) : Option R :=
(g93_2 x0 (fun y0 => k y0))
theorem gen93 {N : Nat} {cl : Cal} (x0 : Int) {R : Type} (k : List E → Option R) : exec cl N c93 (params 0 [.v U1 x0]) (fun e env => (retK d93 e env).bind k) = g93 x0 (fun (r0 : Bool) => k [.v .bool r0]) := by
  have e0 : params 0 [.v U1 x0] = [(0, .v U1 x0)] := by kernel_rfl
  simp only [c93, e0, t93_2, rk93_0, Option.bind_some]
  rfl
def ctr93 (S : Int → Option (Bool)) : Ctr := { A := Int × Unit, B := Bool, f := 93, enc := fun a => [.v U1 a.1], dec := (decC (decV U1) dec0), S := fun a => S a.1, ent := fun b => [.v .bool b], ok := (decV_cons (T := U1) (fun es b h => dec0_some h)) }
def S93 (N : Nat) (x0 : Int) : Option (Bool) := g93 x0 (fun (r0 : Bool) => some (r0))
def g94_0 {R : Type} (x0 : Int) (k0 : Int → Option R) : Option R :=
k0 x0
theorem t94_0 {N cl} {R} (K : KE R) (x0) : exec cl N c94_0 [(0, .v U1 x0)] K = (g94_0 x0 (fun y0 => K .normal [(0, .v U1 y0)])) := by
  kernel_rfl
def g94_1 {R : Type} (x0 : Int) (k0 : Bool → Option R) : Option R :=
brB (decide (x0 ≥ (48 : Int))) (k0 (decide (x0 ≤ (57 : Int)))) (k0 false)
theorem t94_1 {N cl} {R} (K : KE R) (x0) : exec cl N c94_1 [(0, .v U1 x0)] K = (g94_1 x0 (fun y0 => K .normal [(2, .v .bool y0)])) := by
  kernel_rfl
def g94_2 {R : Type} (x0 : Int) (k0 : Bool → Option R) : Option R :=
(g94_0 x0 (fun y0 => (g94_1 y0 (fun y0 => (k0 y0)))))
theorem t94_2 {N cl} {R} (K : KE R) (x0) : exec cl N c94_2 [(0, .v U1 x0)] K = (g94_2 x0 (fun y0 => K .ret [(2, .v .bool y0)])) := by
  simp only [c94_2, exec_seq, seqK_normal, seqK_exit, seqK_ret, t94_0, t94_1, exec_ret]
  rfl
theorem rk94_0 (y0 : Bool) : retK d94 .ret [(2, .v .bool y0)] = some [.v .bool y0] := by kernel_rfl
def g94 {R : Type} (x0 : Int) (k : Bool → Option R) : Option R :=
(g94_2 x0 (fun y0 => k y0))
theorem gen94 {N : Nat} {cl : Cal} (x0 : Int) {R : Type} (k : List E → Option R) : exec cl N c94 (params 0 [.v U1 x0]) (fun e env => (retK d94 e env).bind k) = g94 x0 (fun (r0 : Bool) => k [.v .bool r0]) := by
  have e0 : params 0 [.v U1 x0] = [(0, .v U1 x0)] := by kernel_rfl
  simp only [c94, e0, t94_2, rk94_0, Option.bind_some]
  rfl
def ctr94 (S : Int → Option (Bool)) : Ctr := { A := Int × Unit, B := Bool, f := 94, enc := fun a => [.v U1 a.1], dec := (decC (decV U1) dec0), S := fun a => S a.1, ent := fun b => [.v .bool b], ok := (decV_cons (T := U1) (fun es b h => dec0_some h)) }
def S94 (N : Nat) (x0 : Int) : Option (Bool) := g94 x0 (fun (r0 : Bool) => some (r0))
def g82_0 {R : Type} (x0 : V1) (k0 : V1 → Option R) : Option R :=
k0 x0
theorem t82_0 {N cl} {R} (K : KE R) (x0) : exec cl N c82_0 [(0, .v .str x0)] K = (g82_0 x0 (fun y0 => K .normal [(0, .v .str y0)])) := by
  kernel_rfl
def g82_1 {R : Type} (S93 : Int → Option (Bool)) (x0 : V1) (k0 : V1 → Bool → Option R) : Option R :=
brB (x0 == ([] : List UInt8)) (k0 x0 true) (if 0 ≤ (0 : Int) ∧ (0 : Int) < (x0.length : Int) then
(S93 ((x0.getD (0 : Int).toNat 0).toNat : Int)).bind fun r106 =>
k0 x0 (!r106)
else none)
theorem t82_1 {N cl} (S93) (h93 : (ctr93 S93).holds cl) {R} (K : KE R) (x0) : exec cl N c82_1 [(0, .v .str x0)] K = (g82_1 S93 x0 (fun y0 y1 => K .normal [(0, .v .str y0), (12, .v .bool y1)])) := by
  rw [← put_eq h93]
  kernel_rfl
def g82_2 {R : Type} (x0 : V1) (x1 : Bool) (k0 : Int → Option R) : Option R :=
k0 (0 : Int)
theorem t82_2 {N cl} {R} (K : KE R) (x0 x1) : exec cl N c82_2 [(0, .v .str x0), (12, .v .bool x1)] K = (g82_2 x0 x1 (fun y0 => K .normal [(2, .v U2 y0)])) := by
  kernel_rfl
theorem kp82_0 (x0) : keep [0, 2] [(2, .v U2 x0)] = [(0, .dead), (2, .v U2 x0)] := by kernel_rfl
theorem kp82_1 (x0 x1) : keep [0, 2] [(0, .v .str x0), (12, .v .bool x1)] = [(0, .v .str x0), (2, .dead)] := by kernel_rfl
theorem hb82_0 (x0 : V1) (x1 : Bool) : boolOf? (ent [(0, .v .str x0), (12, .v .bool x1)] (.t 12)) = some x1 := by kernel_rfl
def g82_4 {R : Type} (x0 : V1) (k0 : V1 → Int → Option R) : Option R :=
k0 x0 (1 : Int)
theorem t82_4 {N cl} {R} (K : KE R) (x0) : exec cl N c82_4 [(0, .v .str x0), (2, .dead)] K = (g82_4 x0 (fun y0 y1 => K .normal [(0, .v .str y0), (3, .v U2 y1)])) := by
  kernel_rfl
theorem kp82_2 (x0 x1) : keep [0, 3] [(0, .v .str x0), (3, .v U2 x1)] = [(0, .v .str x0), (3, .v U2 x1)] := by kernel_rfl
def g82_5 {R : Type} (x0 : V1) (x1 : Int) (k0 : V1 → Int → Bool → Option R) : Option R :=
k0 x0 x1 (decide (x1 < (x0.length : Int)))
theorem t82_5 {N cl} {R} (K : KE R) (x0 x1) : exec cl N c82_5 [(0, .v .str x0), (3, .v U2 x1)] K = (g82_5 x0 x1 (fun y0 y1 y2 => K .normal [(0, .v .str y0), (3, .v U2 y1), (16, .v .bool y2)])) := by
  kernel_rfl
theorem kp82_3 (x0 x1 x2) : keep [0, 3] [(0, .v .str x0), (3, .v U2 x1), (16, .v .bool x2)] = [(0, .v .str x0), (3, .v U2 x1)] := by kernel_rfl
theorem hb82_1 (x0 : V1) (x1 : Int) (x2 : Bool) : boolOf? (ent [(0, .v .str x0), (3, .v U2 x1), (16, .v .bool x2)] (.t 16)) = some x2 := by kernel_rfl
def g82_7 {R : Type} (x0 : V1) (x1 : Int) (k0 : V1 → Int → Int → Option R) : Option R :=
if 0 ≤ x1 ∧ x1 < (x0.length : Int) then
k0 x0 x1 ((x0.getD x1.toNat 0).toNat : Int)
else none
theorem t82_7 {N cl} {R} (K : KE R) (x0 x1) : exec cl N c82_7 [(0, .v .str x0), (3, .v U2 x1)] K = (g82_7 x0 x1 (fun y0 y1 y2 => K .normal [(0, .v .str y0), (3, .v U2 y1), (4, .v U1 y2)])) := by
  kernel_rfl
def g82_8 {R : Type} (S93 : Int → Option (Bool)) (S94 : Int → Option (Bool)) (x0 : V1) (x1 : Int) (x2 : Int) (k0 : V1 → Int → Int → Bool → Option R) : Option R :=
(S93 x2).bind fun r109 =>
brB r109 (k0 x0 x1 x2 true) ((S94 x2).bind fun r110 =>
k0 x0 x1 x2 r110)
theorem t82_8 {N cl} (S93) (S94) (h93 : (ctr93 S93).holds cl) (h94 : (ctr94 S94).holds cl) {R} (K : KE R) (x0 x1 x2) : exec cl N c82_8 [(0, .v .str x0), (3, .v U2 x1), (4, .v U1 x2)] K = (g82_8 S93 S94 x0 x1 x2 (fun y0 y1 y2 y3 => K .normal [(0, .v .str y0), (3, .v U2 y1), (4, .v U1 y2), (21, .v .bool y3)])) := by
  rw [← put_eq h93]
  rw [← put_eq h94]
  kernel_rfl
def g82_9 {R : Type} (x0 : V1) (x1 : Int) (x2 : Int) (x3 : Bool) (k0 : V1 → Int → Option R) : Option R :=
k0 x0 (IntKind.i64.wrap (x1 + (1 : Int)))
theorem t82_9 {N cl} {R} (K : KE R) (x0 x1 x2 x3) : exec cl N c82_9 [(0, .v .str x0), (3, .v U2 x1), (4, .v U1 x2), (21, .v .bool x3)] K = (g82_9 x0 x1 x2 x3 (fun y0 y1 => K .normal [(0, .v .str y0), (3, .v U2 y1)])) := by
  kernel_rfl
theorem kp82_4 (x0 x1) : keep [0, 2, 3] [(0, .v .str x0), (3, .v U2 x1)] = [(0, .v .str x0), (2, .dead), (3, .v U2 x1)] := by kernel_rfl
def g82_10 {R : Type} (S93 : Int → Option (Bool)) (S94 : Int → Option (Bool)) (x0 : V1) (x1 : Int) (x2 : Int) (x3 : Bool) (k0 : V1 → Int → Bool → Option R) : Option R :=
brB (x2 == (45 : Int)) (brB (decide ((IntKind.i64.wrap (x1 + (1 : Int))) < (x0.length : Int))) (let v115 : Int := (IntKind.i64.wrap (x1 + (1 : Int)))
if 0 ≤ v115 ∧ v115 < (x0.length : Int) then
(S93 ((x0.getD v115.toNat 0).toNat : Int)).bind fun r117 =>
brB r117 (k0 x0 x1 true) (let v118 : Int := (IntKind.i64.wrap (x1 + (1 : Int)))
if 0 ≤ v118 ∧ v118 < (x0.length : Int) then
(S94 ((x0.getD v118.toNat 0).toNat : Int)).bind fun r120 =>
k0 x0 x1 r120
else none)
else none) (k0 x0 x1 false)) (k0 x0 x1 false)
theorem t82_10 {N cl} (S93) (S94) (h93 : (ctr93 S93).holds cl) (h94 : (ctr94 S94).holds cl) {R} (K : KE R) (x0 x1 x2 x3) : exec cl N c82_10 [(0, .v .str x0), (3, .v U2 x1), (4, .v U1 x2), (21, .v .bool x3)] K = (g82_10 S93 S94 x0 x1 x2 x3 (fun y0 y1 y2 => K .normal [(0, .v .str y0), (3, .v U2 y1), (30, .v .bool y2)])) := by
  rw [← put_eq h93]
  rw [← put_eq h94]
  kernel_rfl
def g82_11 {R : Type} (x0 : V1) (x1 : Int) (x2 : Bool) (k0 : V1 → Int → Option R) : Option R :=
k0 x0 (IntKind.i64.wrap (x1 + (2 : Int)))
theorem t82_11 {N cl} {R} (K : KE R) (x0 x1 x2) : exec cl N c82_11 [(0, .v .str x0), (3, .v U2 x1), (30, .v .bool x2)] K = (g82_11 x0 x1 x2 (fun y0 y1 => K .normal [(0, .v .str y0), (3, .v U2 y1)])) := by
  kernel_rfl
def g82_12 {R : Type} (x0 : V1) (x1 : Int) (x2 : Bool) (k0 : Int → Option R) : Option R :=
k0 x1
theorem t82_12 {N cl} {R} (K : KE R) (x0 x1 x2) : exec cl N c82_12 [(0, .v .str x0), (3, .v U2 x1), (30, .v .bool x2)] K = (g82_12 x0 x1 x2 (fun y0 => K .normal [(2, .v U2 y0)])) := by
  kernel_rfl
theorem kp82_5 (x0) : keep [0, 2, 3] [(2, .v U2 x0)] = [(0, .dead), (2, .v U2 x0), (3, .dead)] := by kernel_rfl
theorem hb82_2 (x0 : V1) (x1 : Int) (x2 : Bool) : boolOf? (ent [(0, .v .str x0), (3, .v U2 x1), (30, .v .bool x2)] (.t 30)) = some x2 := by kernel_rfl
theorem kp82_6 (x0 x1) : keep [0, 2, 3] [(0, .v .str x0), (2, .dead), (3, .v U2 x1)] = [(0, .v .str x0), (2, .dead), (3, .v U2 x1)] := by kernel_rfl
theorem kp82_7 (x0) : keep [0, 2, 3] [(0, .dead), (2, .v U2 x0), (3, .dead)] = [(0, .dead), (2, .v U2 x0), (3, .dead)] := by kernel_rfl
theorem hb82_3 (x0 : V1) (x1 : Int) (x2 : Int) (x3 : Bool) : boolOf? (ent [(0, .v .str x0), (3, .v U2 x1), (4, .v U1 x2), (21, .v .bool x3)] (.t 21)) = some x3 := by kernel_rfl
def g82_17 {R : Type} (S93 : Int → Option (Bool)) (S94 : Int → Option (Bool)) (x0 : V1) (x1 : Int) (k0 : V1 → Int → Option R) (k1 : Int → Option R) (k2 : V1 → Int → Option R) : Option R :=
(g82_5 x0 x1 (fun y0 y1 y2 => brB y2 ((fun y0 y1 => (g82_7 y0 y1 (fun y0 y1 y2 => (g82_8 S93 S94 y0 y1 y2 (fun y0 y1 y2 y3 => brB y3 (g82_9 y0 y1 y2 y3 (fun y0 y1 => (k0 y0 y1))) (g82_10 S93 S94 y0 y1 y2 y3 (fun y0 y1 y2 => brB y2 (g82_11 y0 y1 y2 (fun y0 y1 => (k0 y0 y1))) (g82_12 y0 y1 y2 (fun y0 => ((fun y0 => (k1 y0)) y0)))))))))) y0 y1) (k2 y0 y1)))
theorem t82_17 {N cl} (S93) (S94) (h93 : (ctr93 S93).holds cl) (h94 : (ctr94 S94).holds cl) {R} (K : KE R) (x0 x1) : exec cl N c82_17 [(0, .v .str x0), (3, .v U2 x1)] K = (g82_17 S93 S94 x0 x1 (fun y0 y1 => K .normal [(0, .v .str y0), (2, .dead), (3, .v U2 y1)]) (fun y0 => K .ret [(0, .dead), (2, .v U2 y0), (3, .dead)]) (fun y0 y1 => K (.exit 0) [(0, .v .str y0), (3, .v U2 y1)])) := by
  simp only [c82_17, exec_seq, seqK_normal, seqK_exit, seqK_ret, t82_5, c82_6, exec_out, exec_cond', hb82_1, Option.bind_some, brB_true, brB_false, exec_skip, exec_exit, kp82_3, c82_16, exec_block, t82_7, c82_15, t82_8 S93 S94 h93 h94, c82_14, hb82_3, t82_9, t82_10 S93 S94 h93 h94, c82_13, hb82_2, t82_11, t82_12, exec_ret, kp82_4, kp82_5, kp82_6, kp82_7, blockK_normal, blockK_ret, blockK_eq]
  rfl
theorem kp82_8 (x0 x1) : keep [0, 3] [(0, .v .str x0), (2, .dead), (3, .v U2 x1)] = [(0, .v .str x0), (3, .v U2 x1)] := by kernel_rfl
def l82_18 {R : Type} (S93 : Int → Option (Bool)) (S94 : Int → Option (Bool)) (k0 : Int → Option R) (k1 : V1 → Int → Option R) : Nat → V1 → Int → Option R
  | 0, _, _ => none
  | m + 1, x0, x1 => (g82_17 S93 S94 x0 x1 (fun y0 y1 => l82_18 S93 S94 k0 k1 m y0 y1) k0 k1)
theorem lt82_18 {N cl} (S93) (S94) (h93 : (ctr93 S93).holds cl) (h94 : (ctr94 S94).holds cl) {R} (K : KE R) : ∀ (m) (x0 x1), iter [0, 3] (fun env K => exec cl N c82_17 env K) K m [(0, .v .str x0), (3, .v U2 x1)] = l82_18 S93 S94 (fun y0 => K .ret [(0, .dead), (2, .v U2 y0), (3, .dead)]) (fun y0 y1 => K (.exit 0) [(0, .v .str y0), (3, .v U2 y1)]) m x0 x1 := by
  intro m
  induction m with
  | zero => intros; rfl
  | succ m ih =>
    intro x0 x1
    simp only [iter_succ, t82_17 S93 S94 h93 h94, loopK_normal, loopK_exit, loopK_ret, kp82_8, ih]
    rfl
theorem kp82_9 (x0) : keep [2, 3] [(0, .dead), (2, .v U2 x0), (3, .dead)] = [(2, .v U2 x0), (3, .dead)] := by kernel_rfl
theorem kp82_10 (x0 x1) : keep [2, 3] [(0, .v .str x0), (3, .v U2 x1)] = [(2, .dead), (3, .v U2 x1)] := by kernel_rfl
def g82_18 {R : Type} (N : Nat) (S93 : Int → Option (Bool)) (S94 : Int → Option (Bool)) (x0 : V1) (x1 : Int) (k0 : Int → Option R) (k1 : Int → Option R) : Option R :=
l82_18 S93 S94 (fun y0 => k0 y0) (fun y0 y1 => k1 y1) N x0 x1
theorem t82_18 {N cl} (S93) (S94) (h93 : (ctr93 S93).holds cl) (h94 : (ctr94 S94).holds cl) {R} (K : KE R) (x0 x1) : exec cl N c82_18 [(0, .v .str x0), (3, .v U2 x1)] K = (g82_18 N S93 S94 x0 x1 (fun y0 => K .ret [(2, .v U2 y0), (3, .dead)]) (fun y0 => K (.exit 0) [(2, .dead), (3, .v U2 y0)])) := by
  simp only [c82_18, exec_out, exec_loop, kp82_2, lt82_18 S93 S94 h93 h94, kp82_10, kp82_9]
  rfl
theorem kp82_11 (x0) : keep [2, 3] [(2, .v U2 x0), (3, .dead)] = [(2, .v U2 x0), (3, .dead)] := by kernel_rfl
theorem kp82_12 (x0) : keep [2, 3] [(2, .dead), (3, .v U2 x0)] = [(2, .dead), (3, .v U2 x0)] := by kernel_rfl
def g82_20 {R : Type} (x0 : Int) (k0 : Int → Option R) : Option R :=
k0 x0
theorem t82_20 {N cl} {R} (K : KE R) (x0) : exec cl N c82_20 [(2, .dead), (3, .v U2 x0)] K = (g82_20 x0 (fun y0 => K .normal [(2, .v U2 y0)])) := by
  kernel_rfl
def g82_21 {R : Type} (N : Nat) (S93 : Int → Option (Bool)) (S94 : Int → Option (Bool)) (x0 : V1) (k0 : Int → Option R) (k1 : Int → Option R) (k2 : Int → Option R) : Option R :=
(g82_0 x0 (fun y0 => (g82_1 S93 y0 (fun y0 y1 => brB y1 (g82_2 y0 y1 (fun y0 => ((fun y0 => (k0 y0)) y0))) ((fun y0 => (g82_4 y0 (fun y0 y1 => (g82_18 N S93 S94 y0 y1 (fun y0 => (k1 y0)) (fun y0 => ((fun y0 => (g82_20 y0 (fun y0 => (k2 y0)))) y0)))))) y0)))))
theorem t82_21 {N cl} (S93) (S94) (h93 : (ctr93 S93).holds cl) (h94 : (ctr94 S94).holds cl) {R} (K : KE R) (x0) : exec cl N c82_21 [(0, .v .str x0)] K = (g82_21 N S93 S94 x0 (fun y0 => K .ret [(0, .dead), (2, .v U2 y0)]) (fun y0 => K .ret [(2, .v U2 y0), (3, .dead)]) (fun y0 => K .ret [(2, .v U2 y0)])) := by
  simp only [c82_21, exec_seq, seqK_normal, seqK_exit, seqK_ret, t82_0, t82_1 S93 h93, c82_3, exec_out, exec_cond', hb82_0, Option.bind_some, brB_true, brB_false, t82_2, exec_ret, exec_skip, kp82_0, kp82_1, t82_4, c82_19, exec_block, t82_18 S93 S94 h93 h94, blockK_normal, blockK_ret, blockK_eq, kp82_11, kp82_12, t82_20]
  rfl
theorem rk82_0 (y0 : Int) : retK d82 .ret [(0, .dead), (2, .v U2 y0)] = some [.v U2 y0] := by kernel_rfl
theorem rk82_1 (y0 : Int) : retK d82 .ret [(2, .v U2 y0), (3, .dead)] = some [.v U2 y0] := by kernel_rfl
theorem rk82_2 (y0 : Int) : retK d82 .ret [(2, .v U2 y0)] = some [.v U2 y0] := by kernel_rfl
def g82 {R : Type} (N : Nat) (S93 : Int → Option (Bool)) (S94 : Int → Option (Bool)) (x0 : V1) (k : Int → Option R) : Option R :=
(g82_21 N S93 S94 x0 (fun y0 => k y0) (fun y0 => k y0) (fun y0 => k y0))
theorem gen82 {N : Nat} {cl : Cal} (S93 : Int → Option (Bool)) (S94 : Int → Option (Bool)) (h93 : (ctr93 S93).holds cl) (h94 : (ctr94 S94).holds cl) (x0 : V1) {R : Type} (k : List E → Option R) : exec cl N c82 (params 0 [.v .str x0]) (fun e env => (retK d82 e env).bind k) = g82 N S93 S94 x0 (fun (r0 : Int) => k [.v U2 r0]) := by
  have e0 : params 0 [.v .str x0] = [(0, .v .str x0)] := by kernel_rfl
  simp only [c82, e0, t82_21 S93 S94 h93 h94, rk82_0, rk82_1, rk82_2, Option.bind_some]
  rfl
def ctr82 (S : V1 → Option (Int)) : Ctr := { A := V1 × Unit, B := Int, f := 82, enc := fun a => [.v .str a.1], dec := (decC (decV .str) dec0), S := fun a => S a.1, ent := fun b => [.v U2 b], ok := (decV_cons (T := .str) (fun es b h => dec0_some h)) }
def S82 (N : Nat) (x0 : V1) : Option (Int) := g82 N (S93 N) (S94 N) x0 (fun (r0 : Int) => some (r0))
def g58_0 {R : Type} (x0 : V1) (k0 : V1 → Option R) : Option R :=
k0 x0
theorem t58_0 {N cl} {R} (K : KE R) (x0) : exec cl N c58_0 [(0, .v .str x0)] K = (g58_0 x0 (fun y0 => K .normal [(0, .v .str y0)])) := by
  kernel_rfl
def g58_1 {R : Type} (S82 : V1 → Option (Int)) (x0 : V1) (k0 : Bool → Option R) : Option R :=
brB (x0 != ([] : List UInt8)) (brB (decide ((x0.length : Int) ≤ (20 : Int))) ((S82 x0).bind fun r126 =>
k0 (r126 == (x0.length : Int))) (k0 false)) (k0 false)
theorem t58_1 {N cl} (S82) (h82 : (ctr82 S82).holds cl) {R} (K : KE R) (x0) : exec cl N c58_1 [(0, .v .str x0)] K = (g58_1 S82 x0 (fun y0 => K .normal [(2, .v .bool y0)])) := by
  rw [← put_eq h82]
  kernel_rfl
def g58_2 {R : Type} (S82 : V1 → Option (Int)) (x0 : V1) (k0 : Bool → Option R) : Option R :=
(g58_0 x0 (fun y0 => (g58_1 S82 y0 (fun y0 => (k0 y0)))))
theorem t58_2 {N cl} (S82) (h82 : (ctr82 S82).holds cl) {R} (K : KE R) (x0) : exec cl N c58_2 [(0, .v .str x0)] K = (g58_2 S82 x0 (fun y0 => K .ret [(2, .v .bool y0)])) := by
  simp only [c58_2, exec_seq, seqK_normal, seqK_exit, seqK_ret, t58_0, t58_1 S82 h82, exec_ret]
  rfl
theorem rk58_0 (y0 : Bool) : retK d58 .ret [(2, .v .bool y0)] = some [.v .bool y0] := by kernel_rfl
def g58 {R : Type} (S82 : V1 → Option (Int)) (x0 : V1) (k : Bool → Option R) : Option R :=
(g58_2 S82 x0 (fun y0 => k y0))
theorem gen58 {N : Nat} {cl : Cal} (S82 : V1 → Option (Int)) (h82 : (ctr82 S82).holds cl) (x0 : V1) {R : Type} (k : List E → Option R) : exec cl N c58 (params 0 [.v .str x0]) (fun e env => (retK d58 e env).bind k) = g58 S82 x0 (fun (r0 : Bool) => k [.v .bool r0]) := by
  have e0 : params 0 [.v .str x0] = [(0, .v .str x0)] := by kernel_rfl
  simp only [c58, e0, t58_2 S82 h82, rk58_0, Option.bind_some]
  rfl
def ctr58 (S : V1 → Option (Bool)) : Ctr := { A := V1 × Unit, B := Bool, f := 58, enc := fun a => [.v .str a.1], dec := (decC (decV .str) dec0), S := fun a => S a.1, ent := fun b => [.v .bool b], ok := (decV_cons (T := .str) (fun es b h => dec0_some h)) }
def S58 (N : Nat) (x0 : V1) : Option (Bool) := g58 (S82 N) x0 (fun (r0 : Bool) => some (r0))
def g114_0 {R : Type} (x0 : V1) (x1 : Int) (k0 : V1 → Int → Option R) : Option R :=
k0 x0 x1
theorem t114_0 {N cl} {R} (K : KE R) (x0 x1) : exec cl N c114_0 [(0, .v .str x0), (1, .v U1 x1)] K = (g114_0 x0 x1 (fun y0 y1 => K .normal [(0, .v .str y0), (1, .v U1 y1)])) := by
  kernel_rfl
def g114_1 {R : Type} (S119 : V1 → Int → Option (Int)) (x0 : V1) (x1 : Int) (k0 : Int → Option R) : Option R :=
(S119 x0 x1).bind fun r143 =>
k0 r143
theorem t114_1 {N cl} (S119) (h119 : (ctr119 S119).holds cl) {R} (K : KE R) (x0 x1) : exec cl N c114_1 [(0, .v .str x0), (1, .v U1 x1)] K = (g114_1 S119 x0 x1 (fun y0 => K .normal [(4, .v U2 y0)])) := by
  rw [← put_eq h119]
  kernel_rfl
def g114_2 {R : Type} (S119 : V1 → Int → Option (Int)) (x0 : V1) (x1 : Int) (k0 : Int → Option R) : Option R :=
(g114_0 x0 x1 (fun y0 y1 => (g114_1 S119 y0 y1 (fun y0 => (k0 y0)))))
theorem t114_2 {N cl} (S119) (h119 : (ctr119 S119).holds cl) {R} (K : KE R) (x0 x1) : exec cl N c114_2 [(0, .v .str x0), (1, .v U1 x1)] K = (g114_2 S119 x0 x1 (fun y0 => K .ret [(4, .v U2 y0)])) := by
  simp only [c114_2, exec_seq, seqK_normal, seqK_exit, seqK_ret, t114_0, t114_1 S119 h119, exec_ret]
  rfl
theorem rk114_0 (y0 : Int) : retK d114 .ret [(4, .v U2 y0)] = some [.v U2 y0] := by kernel_rfl
def g114 {R : Type} (S119 : V1 → Int → Option (Int)) (x0 : V1) (x1 : Int) (k : Int → Option R) : Option R :=
(g114_2 S119 x0 x1 (fun y0 => k y0))
theorem gen114 {N : Nat} {cl : Cal} (S119 : V1 → Int → Option (Int)) (h119 : (ctr119 S119).holds cl) (x0 : V1) (x1 : Int) {R : Type} (k : List E → Option R) : exec cl N c114 (params 0 [.v .str x0, .v U1 x1]) (fun e env => (retK d114 e env).bind k) = g114 S119 x0 x1 (fun (r0 : Int) => k [.v U2 r0]) := by
  have e0 : params 0 [.v .str x0, .v U1 x1] = [(0, .v .str x0), (1, .v U1 x1)] := by kernel_rfl
  simp only [c114, e0, t114_2 S119 h119, rk114_0, Option.bind_some]
  rfl
def ctr114 (S : V1 → Int → Option (Int)) : Ctr := { A := V1 × Int × Unit, B := Int, f := 114, enc := fun a => [.v .str a.1, .v U1 a.2.1], dec := (decC (decV .str) (decC (decV U1) dec0)), S := fun a => S a.1 a.2.1, ent := fun b => [.v U2 b], ok := (decV_cons (T := .str) (decV_cons (T := U1) (fun es b h => dec0_some h))) }
def S114 (N : Nat) (x0 : V1) (x1 : Int) : Option (Int) := g114 (S119 N) x0 x1 (fun (r0 : Int) => some (r0))
def g109_0 {R : Type} (x0 : Int) (k0 : Int → Option R) : Option R :=
k0 x0
theorem t109_0 {N cl} {R} (K : KE R) (x0) : exec cl N c109_0 [(0, .v U1 x0)] K = (g109_0 x0 (fun y0 => K .normal [(0, .v U1 y0)])) := by
  kernel_rfl
def g109_1 {R : Type} (S114 : V1 → Int → Option (Int)) (x0 : Int) (k0 : Bool → Option R) : Option R :=
brB (decide (x0 ≥ (32 : Int))) (brB (decide (x0 ≤ (126 : Int))) ((S114 ([32, 46, 44, 59, 58, 33, 63, 34, 45, 91, 93, 60, 62, 123, 125] : List UInt8) x0).bind fun r148 =>
k0 (decide (r148 < (0 : Int)))) (k0 false)) (k0 false)
theorem t109_1 {N cl} (S114) (h114 : (ctr114 S114).holds cl) {R} (K : KE R) (x0) : exec cl N c109_1 [(0, .v U1 x0)] K = (g109_1 S114 x0 (fun y0 => K .normal [(2, .v .bool y0)])) := by
  rw [← put_eq h114]
  kernel_rfl
def g109_2 {R : Type} (S114 : V1 → Int → Option (Int)) (x0 : Int) (k0 : Bool → Option R) : Option R :=
(g109_0 x0 (fun y0 => (g109_1 S114 y0 (fun y0 => (k0 y0)))))
theorem t109_2 {N cl} (S114) (h114 : (ctr114 S114).holds cl) {R} (K : KE R) (x0) : exec cl N c109_2 [(0, .v U1 x0)] K = (g109_2 S114 x0 (fun y0 => K .ret [(2, .v .bool y0)])) := by
  simp only [c109_2, exec_seq, seqK_normal, seqK_exit, seqK_ret, t109_0, t109_1 S114 h114, exec_ret]
  rfl
theorem rk109_0 (y0 : Bool) : retK d109 .ret [(2, .v .bool y0)] = some [.v .bool y0] := by kernel_rfl
def g109 {R : Type} (S114 : V1 → Int → Option (Int)) (x0 : Int) (k : Bool → Option R) : Option R :=
(g109_2 S114 x0 (fun y0 => k y0))
theorem gen109 {N : Nat} {cl : Cal} (S114 : V1 → Int → Option (Int)) (h114 : (ctr114 S114).holds cl) (x0 : Int) {R : Type} (k : List E → Option R) : exec cl N c109 (params 0 [.v U1 x0]) (fun e env => (retK d109 e env).bind k) = g109 S114 x0 (fun (r0 : Bool) => k [.v .bool r0]) := by
  have e0 : params 0 [.v U1 x0] = [(0, .v U1 x0)] := by kernel_rfl
  simp only [c109, e0, t109_2 S114 h114, rk109_0, Option.bind_some]
  rfl
def ctr109 (S : Int → Option (Bool)) : Ctr := { A := Int × Unit, B := Bool, f := 109, enc := fun a => [.v U1 a.1], dec := (decC (decV U1) dec0), S := fun a => S a.1, ent := fun b => [.v .bool b], ok := (decV_cons (T := U1) (fun es b h => dec0_some h)) }
def S109 (N : Nat) (x0 : Int) : Option (Bool) := g109 (S114 N) x0 (fun (r0 : Bool) => some (r0))
def g108_0 {R : Type} (x0 : Int) (k0 : Int → Option R) : Option R :=
k0 x0
theorem t108_0 {N cl} {R} (K : KE R) (x0) : exec cl N c108_0 [(0, .v U1 x0)] K = (g108_0 x0 (fun y0 => K .normal [(0, .v U1 y0)])) := by
  kernel_rfl
def g108_1 {R : Type} (S109 : Int → Option (Bool)) (x0 : Int) (k0 : Bool → Option R) : Option R :=
(S109 x0).bind fun r151 =>
k0 (!r151)
theorem t108_1 {N cl} (S109) (h109 : (ctr109 S109).holds cl) {R} (K : KE R) (x0) : exec cl N c108_1 [(0, .v U1 x0)] K = (g108_1 S109 x0 (fun y0 => K .normal [(2, .v .bool y0)])) := by
  rw [← put_eq h109]
  kernel_rfl
def g108_2 {R : Type} (S109 : Int → Option (Bool)) (x0 : Int) (k0 : Bool → Option R) : Option R :=
(g108_0 x0 (fun y0 => (g108_1 S109 y0 (fun y0 => (k0 y0)))))
theorem t108_2 {N cl} (S109) (h109 : (ctr109 S109).holds cl) {R} (K : KE R) (x0) : exec cl N c108_2 [(0, .v U1 x0)] K = (g108_2 S109 x0 (fun y0 => K .ret [(2, .v .bool y0)])) := by
  simp only [c108_2, exec_seq, seqK_normal, seqK_exit, seqK_ret, t108_0, t108_1 S109 h109, exec_ret]
  rfl
theorem rk108_0 (y0 : Bool) : retK d108 .ret [(2, .v .bool y0)] = some [.v .bool y0] := by kernel_rfl
def g108 {R : Type} (S109 : Int → Option (Bool)) (x0 : Int) (k : Bool → Option R) : Option R :=
(g108_2 S109 x0 (fun y0 => k y0))
theorem gen108 {N : Nat} {cl : Cal} (S109 : Int → Option (Bool)) (h109 : (ctr109 S109).holds cl) (x0 : Int) {R : Type} (k : List E → Option R) : exec cl N c108 (params 0 [.v U1 x0]) (fun e env => (retK d108 e env).bind k) = g108 S109 x0 (fun (r0 : Bool) => k [.v .bool r0]) := by
  have e0 : params 0 [.v U1 x0] = [(0, .v U1 x0)] := by kernel_rfl
  simp only [c108, e0, t108_2 S109 h109, rk108_0, Option.bind_some]
  rfl
def ctr108 (S : Int → Option (Bool)) : Ctr := { A := Int × Unit, B := Bool, f := 108, enc := fun a => [.v U1 a.1], dec := (decC (decV U1) dec0), S := fun a => S a.1, ent := fun b => [.v .bool b], ok := (decV_cons (T := U1) (fun es b h => dec0_some h)) }
def S108 (N : Nat) (x0 : Int) : Option (Bool) := g108 (S109 N) x0 (fun (r0 : Bool) => some (r0))
def g113_0 {R : Type} (x0 : V0) (x1 : V13) (k0 : V0 → V13 → Option R) : Option R :=
k0 x0 x1
theorem t113_0 {N cl} {R} (K : KE R) (x0 x1) : exec cl N c113_0 [(0, .v U4 x0), (1, .v U10 x1)] K = (g113_0 x0 x1 (fun y0 y1 => K .normal [(0, .v U4 y0), (1, .v U10 y1)])) := by
  kernel_rfl
def g113_1 {R : Type} (x0 : V0) (x1 : V13) (k0 : V0 → V13 → Int → Int → Option R) : Option R :=
k0 x0 x1 (x0.length : Int) (0 : Int)
theorem t113_1 {N cl} {R} (K : KE R) (x0 x1) : exec cl N c113_1 [(0, .v U4 x0), (1, .v U10 x1)] K = (g113_1 x0 x1 (fun y0 y1 y2 y3 => K .normal [(0, .v U4 y0), (1, .v U10 y1), (7, .v U2 y2), (8, .v U2 y3)])) := by
  kernel_rfl
theorem kp113_0 (x0 x1 x2 x3) : keep [0, 1, 7, 8] [(0, .v U4 x0), (1, .v U10 x1), (7, .v U2 x2), (8, .v U2 x3)] = [(0, .v U4 x0), (1, .v U10 x1), (7, .v U2 x2), (8, .v U2 x3)] := by kernel_rfl
def g113_2 {R : Type} (x0 : V0) (x1 : V13) (x2 : Int) (x3 : Int) (k0 : V0 → V13 → Int → Int → Bool → Option R) : Option R :=
k0 x0 x1 x2 x3 (decide (x3 < x2))
theorem t113_2 {N cl} {R} (K : KE R) (x0 x1 x2 x3) : exec cl N c113_2 [(0, .v U4 x0), (1, .v U10 x1), (7, .v U2 x2), (8, .v U2 x3)] K = (g113_2 x0 x1 x2 x3 (fun y0 y1 y2 y3 y4 => K .normal [(0, .v U4 y0), (1, .v U10 y1), (7, .v U2 y2), (8, .v U2 y3), (9, .v .bool y4)])) := by
  kernel_rfl
theorem kp113_1 (x0 x1 x2 x3 x4) : keep [0, 1, 7, 8] [(0, .v U4 x0), (1, .v U10 x1), (7, .v U2 x2), (8, .v U2 x3), (9, .v .bool x4)] = [(0, .v U4 x0), (1, .v U10 x1), (7, .v U2 x2), (8, .v U2 x3)] := by kernel_rfl
theorem hb113_0 (x0 : V0) (x1 : V13) (x2 : Int) (x3 : Int) (x4 : Bool) : boolOf? (ent [(0, .v U4 x0), (1, .v U10 x1), (7, .v U2 x2), (8, .v U2 x3), (9, .v .bool x4)] (.t 9)) = some x4 := by kernel_rfl
def g113_4 {R : Type} (x0 : V0) (x1 : V13) (x2 : Int) (x3 : Int) (k0 : V0 → V13 → Int → Int → Int → Option R) : Option R :=
k0 x0 x1 x3 x2 x3
theorem t113_4 {N cl} {R} (K : KE R) (x0 x1 x2 x3) : exec cl N c113_4 [(0, .v U4 x0), (1, .v U10 x1), (7, .v U2 x2), (8, .v U2 x3)] K = (g113_4 x0 x1 x2 x3 (fun y0 y1 y2 y3 y4 => K .normal [(0, .v U4 y0), (1, .v U10 y1), (5, .v U2 y2), (7, .v U2 y3), (8, .v U2 y4)])) := by
  kernel_rfl
def g113_5 {R : Type} (x0 : V0) (x1 : V13) (x2 : Int) (x3 : Int) (x4 : Int) (k0 : V0 → V13 → Int → Int → Int → Bool → Option R) : Option R :=
if 0 ≤ x2 ∧ x2 < (x0.length : Int) then
(x1 ((x0.getD x2.toNat (0 : Int)), ())).bind fun r158 =>
k0 x0 x1 x2 x3 x4 r158
else none
theorem t113_5 {N cl} {R} (K : KE R) (x0 x1 x2 x3 x4) : exec cl N c113_5 [(0, .v U4 x0), (1, .v U10 x1), (5, .v U2 x2), (7, .v U2 x3), (8, .v U2 x4)] K = (g113_5 x0 x1 x2 x3 x4 (fun y0 y1 y2 y3 y4 y5 => K .normal [(0, .v U4 y0), (1, .v U10 y1), (5, .v U2 y2), (7, .v U2 y3), (8, .v U2 y4), (16, .v .bool y5)])) := by
  kernel_rfl
def g113_6 {R : Type} (x0 : V0) (x1 : V13) (x2 : Int) (x3 : Int) (x4 : Int) (x5 : Bool) (k0 : Int → Option R) : Option R :=
k0 x2
theorem t113_6 {N cl} {R} (K : KE R) (x0 x1 x2 x3 x4 x5) : exec cl N c113_6 [(0, .v U4 x0), (1, .v U10 x1), (5, .v U2 x2), (7, .v U2 x3), (8, .v U2 x4), (16, .v .bool x5)] K = (g113_6 x0 x1 x2 x3 x4 x5 (fun y0 => K .normal [(4, .v U2 y0)])) := by
  kernel_rfl
theorem kp113_2 (x0) : keep [0, 1, 4, 7, 8] [(4, .v U2 x0)] = [(0, .dead), (1, .dead), (4, .v U2 x0), (7, .dead), (8, .dead)] := by kernel_rfl
theorem kp113_3 (x0 x1 x2 x3 x4 x5) : keep [0, 1, 4, 7, 8] [(0, .v U4 x0), (1, .v U10 x1), (5, .v U2 x2), (7, .v U2 x3), (8, .v U2 x4), (16, .v .bool x5)] = [(0, .v U4 x0), (1, .v U10 x1), (4, .dead), (7, .v U2 x3), (8, .v U2 x4)] := by kernel_rfl
theorem hb113_1 (x0 : V0) (x1 : V13) (x2 : Int) (x3 : Int) (x4 : Int) (x5 : Bool) : boolOf? (ent [(0, .v U4 x0), (1, .v U10 x1), (5, .v U2 x2), (7, .v U2 x3), (8, .v U2 x4), (16, .v .bool x5)] (.t 16)) = some x5 := by kernel_rfl
theorem kp113_4 (x0) : keep [0, 1, 4, 7, 8] [(0, .dead), (1, .dead), (4, .v U2 x0), (7, .dead), (8, .dead)] = [(0, .dead), (1, .dead), (4, .v U2 x0), (7, .dead), (8, .dead)] := by kernel_rfl
theorem kp113_5 (x0 x1 x2 x3) : keep [0, 1, 4, 7, 8] [(0, .v U4 x0), (1, .v U10 x1), (4, .dead), (7, .v U2 x2), (8, .v U2 x3)] = [(0, .v U4 x0), (1, .v U10 x1), (4, .dead), (7, .v U2 x2), (8, .v U2 x3)] := by kernel_rfl
def g113_9 {R : Type} (x0 : V0) (x1 : V13) (x2 : Int) (x3 : Int) (k0 : V0 → V13 → Int → Int → Option R) : Option R :=
k0 x0 x1 x2 (IntKind.i64.wrap (x3 + (1 : Int)))
theorem t113_9 {N cl} {R} (K : KE R) (x0 x1 x2 x3) : exec cl N c113_9 [(0, .v U4 x0), (1, .v U10 x1), (4, .dead), (7, .v U2 x2), (8, .v U2 x3)] K = (g113_9 x0 x1 x2 x3 (fun y0 y1 y2 y3 => K .normal [(0, .v U4 y0), (1, .v U10 y1), (7, .v U2 y2), (8, .v U2 y3)])) := by
  kernel_rfl
def g113_10 {R : Type} (x0 : V0) (x1 : V13) (x2 : Int) (x3 : Int) (k0 : Int → Option R) (k1 : V0 → V13 → Int → Int → Option R) (k2 : V0 → V13 → Int → Int → Option R) : Option R :=
(g113_2 x0 x1 x2 x3 (fun y0 y1 y2 y3 y4 => brB y4 ((fun y0 y1 y2 y3 => (g113_4 y0 y1 y2 y3 (fun y0 y1 y2 y3 y4 => (g113_5 y0 y1 y2 y3 y4 (fun y0 y1 y2 y3 y4 y5 => brB y5 (g113_6 y0 y1 y2 y3 y4 y5 (fun y0 => ((fun y0 => (k0 y0)) y0))) (g113_9 y0 y1 y3 y4 k1)))))) y0 y1 y2 y3) (k2 y0 y1 y2 y3)))
theorem t113_10 {N cl} {R} (K : KE R) (x0 x1 x2 x3) : exec cl N c113_10 [(0, .v U4 x0), (1, .v U10 x1), (7, .v U2 x2), (8, .v U2 x3)] K = (g113_10 x0 x1 x2 x3 (fun y0 => K .ret [(0, .dead), (1, .dead), (4, .v U2 y0), (7, .dead), (8, .dead)]) (fun y0 y1 y2 y3 => K .normal [(0, .v U4 y0), (1, .v U10 y1), (7, .v U2 y2), (8, .v U2 y3)]) (fun y0 y1 y2 y3 => K (.exit 0) [(0, .v U4 y0), (1, .v U10 y1), (7, .v U2 y2), (8, .v U2 y3)])) := by
  simp only [c113_10, exec_seq, seqK_normal, seqK_exit, seqK_ret, t113_2, c113_3, exec_out, exec_cond', hb113_0, Option.bind_some, brB_true, brB_false, exec_skip, exec_exit, kp113_1, c113_8, exec_block, t113_4, t113_5, c113_7, hb113_1, t113_6, exec_ret, kp113_2, kp113_3, blockK_normal, blockK_ret, blockK_eq, kp113_4, kp113_5, t113_9]
  rfl
def l113_11 {R : Type} (k0 : Int → Option R) (k1 : V0 → V13 → Int → Int → Option R) : Nat → V0 → V13 → Int → Int → Option R
  | 0, _, _, _, _ => none
  | m + 1, x0, x1, x2, x3 => (g113_10 x0 x1 x2 x3 k0 (fun y0 y1 y2 y3 => l113_11 k0 k1 m y0 y1 y2 y3) k1)
theorem lt113_11 {N cl} {R} (K : KE R) : ∀ (m) (x0 x1 x2 x3), iter [0, 1, 7, 8] (fun env K => exec cl N c113_10 env K) K m [(0, .v U4 x0), (1, .v U10 x1), (7, .v U2 x2), (8, .v U2 x3)] = l113_11 (fun y0 => K .ret [(0, .dead), (1, .dead), (4, .v U2 y0), (7, .dead), (8, .dead)]) (fun y0 y1 y2 y3 => K (.exit 0) [(0, .v U4 y0), (1, .v U10 y1), (7, .v U2 y2), (8, .v U2 y3)]) m x0 x1 x2 x3 := by
  intro m
  induction m with
  | zero => intros; rfl
  | succ m ih =>
    intro x0 x1 x2 x3
    simp only [iter_succ, t113_10, loopK_normal, loopK_exit, loopK_ret, kp113_0, ih]
    rfl
theorem kp113_6 (x0) : keep [4] [(0, .dead), (1, .dead), (4, .v U2 x0), (7, .dead), (8, .dead)] = [(4, .v U2 x0)] := by kernel_rfl
theorem kp113_7 (x0 x1 x2 x3) : keep [4] [(0, .v U4 x0), (1, .v U10 x1), (7, .v U2 x2), (8, .v U2 x3)] = [(4, .dead)] := by kernel_rfl
def g113_11 {R : Type} (N : Nat) (x0 : V0) (x1 : V13) (x2 : Int) (x3 : Int) (k0 : Int → Option R) (k1 : Option R) : Option R :=
l113_11 (fun y0 => k0 y0) (fun y0 y1 y2 y3 => k1) N x0 x1 x2 x3
theorem t113_11 {N cl} {R} (K : KE R) (x0 x1 x2 x3) : exec cl N c113_11 [(0, .v U4 x0), (1, .v U10 x1), (7, .v U2 x2), (8, .v U2 x3)] K = (g113_11 N x0 x1 x2 x3 (fun y0 => K .ret [(4, .v U2 y0)]) (K (.exit 0) [(4, .dead)])) := by
  simp only [c113_11, exec_out, exec_loop, kp113_0, lt113_11, kp113_6, kp113_7]
  rfl
theorem kp113_8 (x0) : keep [4] [(4, .v U2 x0)] = [(4, .v U2 x0)] := by kernel_rfl
theorem kp113_9 : keep [4] [(4, .dead)] = [(4, .dead)] := by kernel_rfl
def g113_13 {R : Type} (k0 : Int → Option R) : Option R :=
k0 (-1 : Int)
theorem t113_13 {N cl} {R} (K : KE R) : exec cl N c113_13 [(4, .dead)] K = (g113_13 (fun y0 => K .normal [(4, .v U2 y0)])) := by
  kernel_rfl
def g113_14 {R : Type} (N : Nat) (x0 : V0) (x1 : V13) (k0 : Int → Option R) : Option R :=
(g113_0 x0 x1 (fun y0 y1 => (g113_1 y0 y1 (fun y0 y1 y2 y3 => (g113_11 N y0 y1 y2 y3 (fun y0 => (k0 y0)) (g113_13 (fun y0 => (k0 y0))))))))
theorem t113_14 {N cl} {R} (K : KE R) (x0 x1) : exec cl N c113_14 [(0, .v U4 x0), (1, .v U10 x1)] K = (g113_14 N x0 x1 (fun y0 => K .ret [(4, .v U2 y0)])) := by
  simp only [c113_14, exec_seq, seqK_normal, seqK_exit, seqK_ret, t113_0, t113_1, c113_12, exec_out, exec_block, t113_11, blockK_normal, blockK_ret, blockK_eq, kp113_8, kp113_9, t113_13, exec_ret]
  rfl
theorem rk113_0 (y0 : Int) : retK d113 .ret [(4, .v U2 y0)] = some [.v U2 y0] := by kernel_rfl
def g113 {R : Type} (N : Nat) (x0 : V0) (x1 : V13) (k : Int → Option R) : Option R :=
(g113_14 N x0 x1 (fun y0 => k y0))
theorem gen113 {N : Nat} {cl : Cal} (x0 : V0) (x1 : V13) {R : Type} (k : List E → Option R) : exec cl N c113 (params 0 [.v U4 x0, .v U10 x1]) (fun e env => (retK d113 e env).bind k) = g113 N x0 x1 (fun (r0 : Int) => k [.v U2 r0]) := by
  have e0 : params 0 [.v U4 x0, .v U10 x1] = [(0, .v U4 x0), (1, .v U10 x1)] := by kernel_rfl
  simp only [c113, e0, t113_14, rk113_0, Option.bind_some]
  rfl
def ctr113 (S : V0 → V13 → Option (Int)) : Ctr := { A := V0 × V13 × Unit, B := Int, f := 113, enc := fun a => [.v U4 a.1, .v U10 a.2.1], dec := (decC (decV U4) (decC (decV U10) dec0)), S := fun a => S a.1 a.2.1, ent := fun b => [.v U2 b], ok := (decV_cons (T := U4) (decV_cons (T := U10) (fun es b h => dec0_some h))) }
def S113 (N : Nat) (x0 : V0) (x1 : V13) : Option (Int) := g113 N x0 x1 (fun (r0 : Int) => some (r0))
def g107_0 {R : Type} (x0 : V0) (x1 : V13) (k0 : V0 → V13 → Option R) : Option R :=
k0 x0 x1
theorem t107_0 {N cl} {R} (K : KE R) (x0 x1) : exec cl N c107_0 [(0, .v U4 x0), (1, .v U10 x1)] K = (g107_0 x0 x1 (fun y0 y1 => K .normal [(0, .v U4 y0), (1, .v U10 y1)])) := by
  kernel_rfl
def g107_1 {R : Type} (S113 : V0 → V13 → Option (Int)) (x0 : V0) (x1 : V13) (k0 : Bool → Option R) : Option R :=
(S113 x0 x1).bind fun r162 =>
k0 (decide (r162 ≥ (0 : Int)))
theorem t107_1 {N cl} (S113) (h113 : (ctr113 S113).holds cl) {R} (K : KE R) (x0 x1) : exec cl N c107_1 [(0, .v U4 x0), (1, .v U10 x1)] K = (g107_1 S113 x0 x1 (fun y0 => K .normal [(4, .v .bool y0)])) := by
  rw [← put_eq h113]
  kernel_rfl
def g107_2 {R : Type} (S113 : V0 → V13 → Option (Int)) (x0 : V0) (x1 : V13) (k0 : Bool → Option R) : Option R :=
(g107_0 x0 x1 (fun y0 y1 => (g107_1 S113 y0 y1 (fun y0 => (k0 y0)))))
theorem t107_2 {N cl} (S113) (h113 : (ctr113 S113).holds cl) {R} (K : KE R) (x0 x1) : exec cl N c107_2 [(0, .v U4 x0), (1, .v U10 x1)] K = (g107_2 S113 x0 x1 (fun y0 => K .ret [(4, .v .bool y0)])) := by
  simp only [c107_2, exec_seq, seqK_normal, seqK_exit, seqK_ret, t107_0, t107_1 S113 h113, exec_ret]
  rfl
theorem rk107_0 (y0 : Bool) : retK d107 .ret [(4, .v .bool y0)] = some [.v .bool y0] := by kernel_rfl
def g107 {R : Type} (S113 : V0 → V13 → Option (Int)) (x0 : V0) (x1 : V13) (k : Bool → Option R) : Option R :=
(g107_2 S113 x0 x1 (fun y0 => k y0))
theorem gen107 {N : Nat} {cl : Cal} (S113 : V0 → V13 → Option (Int)) (h113 : (ctr113 S113).holds cl) (x0 : V0) (x1 : V13) {R : Type} (k : List E → Option R) : exec cl N c107 (params 0 [.v U4 x0, .v U10 x1]) (fun e env => (retK d107 e env).bind k) = g107 S113 x0 x1 (fun (r0 : Bool) => k [.v .bool r0]) := by
  have e0 : params 0 [.v U4 x0, .v U10 x1] = [(0, .v U4 x0), (1, .v U10 x1)] := by kernel_rfl
  simp only [c107, e0, t107_2 S113 h113, rk107_0, Option.bind_some]
  rfl
def ctr107 (S : V0 → V13 → Option (Bool)) : Ctr := { A := V0 × V13 × Unit, B := Bool, f := 107, enc := fun a => [.v U4 a.1, .v U10 a.2.1], dec := (decC (decV U4) (decC (decV U10) dec0)), S := fun a => S a.1 a.2.1, ent := fun b => [.v .bool b], ok := (decV_cons (T := U4) (decV_cons (T := U10) (fun es b h => dec0_some h))) }
def S107 (N : Nat) (x0 : V0) (x1 : V13) : Option (Bool) := g107 (S113 N) x0 x1 (fun (r0 : Bool) => some (r0))
def g110_0 {R : Type} (x0 : V6) (x1 : V1) (k0 : V6 → V1 → Option R) : Option R :=
k0 x0 x1
theorem t110_0 {N cl} {R} (K : KE R) (x0 x1) : exec cl N c110_0 [(0, .v U0 x0), (1, .v .str x1)] K = (g110_0 x0 x1 (fun y0 y1 => K .normal [(0, .v U0 y0), (1, .v .str y1)])) := by
  kernel_rfl
def g110_1 {R : Type} (x0 : V6) (x1 : V1) (k0 : V6 → V1 → Int → Option R) : Option R :=
k0 x0 x1 (x0.length : Int)
theorem t110_1 {N cl} {R} (K : KE R) (x0 x1) : exec cl N c110_1 [(0, .v U0 x0), (1, .v .str x1)] K = (g110_1 x0 x1 (fun y0 y1 y2 => K .normal [(0, .v U0 y0), (1, .v .str y1), (12, .v U2 y2)])) := by
  kernel_rfl
def g110_2 {R : Type} (x0 : V6) (x1 : V1) (x2 : Int) (k0 : V6 → V1 → Int → Bool → Option R) : Option R :=
k0 x0 x1 x2 (x2 == (0 : Int))
theorem t110_2 {N cl} {R} (K : KE R) (x0 x1 x2) : exec cl N c110_2 [(0, .v U0 x0), (1, .v .str x1), (12, .v U2 x2)] K = (g110_2 x0 x1 x2 (fun y0 y1 y2 y3 => K .normal [(0, .v U0 y0), (1, .v .str y1), (12, .v U2 y2), (13, .v .bool y3)])) := by
  kernel_rfl
def g110_3 {R : Type} (x0 : V6) (x1 : V1) (x2 : Int) (x3 : Bool) (k0 : V1 → Option R) : Option R :=
k0 ([] : List UInt8)
theorem t110_3 {N cl} {R} (K : KE R) (x0 x1 x2 x3) : exec cl N c110_3 [(0, .v U0 x0), (1, .v .str x1), (12, .v U2 x2), (13, .v .bool x3)] K = (g110_3 x0 x1 x2 x3 (fun y0 => K .normal [(4, .v .str y0)])) := by
  kernel_rfl
theorem kp110_0 (x0) : keep [0, 1, 4] [(4, .v .str x0)] = [(0, .dead), (1, .dead), (4, .v .str x0)] := by kernel_rfl
def g110_4 {R : Type} (x0 : V6) (x1 : V1) (x2 : Int) (x3 : Bool) (k0 : V6 → V1 → Bool → Option R) : Option R :=
k0 x0 x1 (x2 == (1 : Int))
theorem t110_4 {N cl} {R} (K : KE R) (x0 x1 x2 x3) : exec cl N c110_4 [(0, .v U0 x0), (1, .v .str x1), (12, .v U2 x2), (13, .v .bool x3)] K = (g110_4 x0 x1 x2 x3 (fun y0 y1 y2 => K .normal [(0, .v U0 y0), (1, .v .str y1), (15, .v .bool y2)])) := by
  kernel_rfl
def g110_5 {R : Type} (x0 : V6) (x1 : V1) (x2 : Bool) (k0 : V1 → Option R) : Option R :=
if 0 ≤ (0 : Int) ∧ (0 : Int) < (x0.length : Int) then
k0 (x0.getD (0 : Int).toNat [])
else none
theorem t110_5 {N cl} {R} (K : KE R) (x0 x1 x2) : exec cl N c110_5 [(0, .v U0 x0), (1, .v .str x1), (15, .v .bool x2)] K = (g110_5 x0 x1 x2 (fun y0 => K .normal [(4, .v .str y0)])) := by
  kernel_rfl
theorem kp110_1 (x0 x1 x2) : keep [0, 1, 4] [(0, .v U0 x0), (1, .v .str x1), (15, .v .bool x2)] = [(0, .v U0 x0), (1, .v .str x1), (4, .dead)] := by kernel_rfl
theorem hb110_0 (x0 : V6) (x1 : V1) (x2 : Bool) : boolOf? (ent [(0, .v U0 x0), (1, .v .str x1), (15, .v .bool x2)] (.t 15)) = some x2 := by kernel_rfl
theorem kp110_2 (x0) : keep [0, 1, 4] [(0, .dead), (1, .dead), (4, .v .str x0)] = [(0, .dead), (1, .dead), (4, .v .str x0)] := by kernel_rfl
theorem kp110_3 (x0 x1) : keep [0, 1, 4] [(0, .v U0 x0), (1, .v .str x1), (4, .dead)] = [(0, .v U0 x0), (1, .v .str x1), (4, .dead)] := by kernel_rfl
theorem hb110_1 (x0 : V6) (x1 : V1) (x2 : Int) (x3 : Bool) : boolOf? (ent [(0, .v U0 x0), (1, .v .str x1), (12, .v U2 x2), (13, .v .bool x3)] (.t 13)) = some x3 := by kernel_rfl
def g110_9 {R : Type} (x0 : V6) (x1 : V1) (k0 : V6 → V1 → Int → Option R) : Option R :=
k0 x0 x1 (0 : Int)
theorem t110_9 {N cl} {R} (K : KE R) (x0 x1) : exec cl N c110_9 [(0, .v U0 x0), (1, .v .str x1), (4, .dead)] K = (g110_9 x0 x1 (fun y0 y1 y2 => K .normal [(0, .v U0 y0), (1, .v .str y1), (5, .v U2 y2)])) := by
  kernel_rfl
def g110_10 {R : Type} (x0 : V6) (x1 : V1) (x2 : Int) (k0 : V6 → V1 → Int → Bool → Option R) : Option R :=
k0 x0 x1 x2 (decide ((x1.length : Int) > (0 : Int)))
theorem t110_10 {N cl} {R} (K : KE R) (x0 x1 x2) : exec cl N c110_10 [(0, .v U0 x0), (1, .v .str x1), (5, .v U2 x2)] K = (g110_10 x0 x1 x2 (fun y0 y1 y2 y3 => K .normal [(0, .v U0 y0), (1, .v .str y1), (5, .v U2 y2), (22, .v .bool y3)])) := by
  kernel_rfl
def g110_11 {R : Type} (x0 : V6) (x1 : V1) (x2 : Int) (x3 : Bool) (k0 : V6 → V1 → Int → Bool → Option R) : Option R :=
let v183 : Int := (IntKind.i64.wrap ((x0.length : Int) - (1 : Int)))
if v183 = 0 then none else
k0 x0 x1 x2 (decide ((x1.length : Int) ≥ (IntKind.i64.wrap (Int.tdiv (9223372036854775807 : Int) v183))))
theorem t110_11 {N cl} {R} (K : KE R) (x0 x1 x2 x3) : exec cl N c110_11 [(0, .v U0 x0), (1, .v .str x1), (5, .v U2 x2), (22, .v .bool x3)] K = (g110_11 x0 x1 x2 x3 (fun y0 y1 y2 y3 => K .normal [(0, .v U0 y0), (1, .v .str y1), (5, .v U2 y2), (29, .v .bool y3)])) := by
  kernel_rfl
def g110_12 {R : Type} (x0 : V6) (x1 : V1) (x2 : Int) (x3 : Bool) : Option R :=
none /- operation makeInterface -/
theorem t110_12 {N cl} {R} (K : KE R) (x0 x1 x2 x3) : exec cl N c110_12 [(0, .v U0 x0), (1, .v .str x1), (5, .v U2 x2), (29, .v .bool x3)] K = (g110_12 x0 x1 x2 x3) := by
  kernel_rfl
theorem kp110_4 (x0 x1 x2 x3) : keep [0, 1, 5] [(0, .v U0 x0), (1, .v .str x1), (5, .v U2 x2), (29, .v .bool x3)] = [(0, .v U0 x0), (1, .v .str x1), (5, .v U2 x2)] := by kernel_rfl
theorem hb110_2 (x0 : V6) (x1 : V1) (x2 : Int) (x3 : Bool) : boolOf? (ent [(0, .v U0 x0), (1, .v .str x1), (5, .v U2 x2), (29, .v .bool x3)] (.t 29)) = some x3 := by kernel_rfl
def g110_14 {R : Type} (x0 : V6) (x1 : V1) (x2 : Int) (k0 : V6 → V1 → Int → Option R) : Option R :=
k0 x0 x1 (IntKind.i64.wrap (x2 + (IntKind.i64.wrap ((x1.length : Int) * (IntKind.i64.wrap ((x0.length : Int) - (1 : Int)))))))
theorem t110_14 {N cl} {R} (K : KE R) (x0 x1 x2) : exec cl N c110_14 [(0, .v U0 x0), (1, .v .str x1), (5, .v U2 x2)] K = (g110_14 x0 x1 x2 (fun y0 y1 y2 => K .normal [(0, .v U0 y0), (1, .v .str y1), (5, .v U2 y2)])) := by
  kernel_rfl
theorem kp110_5 (x0 x1 x2) : keep [0, 1, 5] [(0, .v U0 x0), (1, .v .str x1), (5, .v U2 x2)] = [(0, .v U0 x0), (1, .v .str x1), (5, .v U2 x2)] := by kernel_rfl
theorem kp110_6 (x0 x1 x2 x3) : keep [0, 1, 5] [(0, .v U0 x0), (1, .v .str x1), (5, .v U2 x2), (22, .v .bool x3)] = [(0, .v U0 x0), (1, .v .str x1), (5, .v U2 x2)] := by kernel_rfl
theorem hb110_3 (x0 : V6) (x1 : V1) (x2 : Int) (x3 : Bool) : boolOf? (ent [(0, .v U0 x0), (1, .v .str x1), (5, .v U2 x2), (22, .v .bool x3)] (.t 22)) = some x3 := by kernel_rfl
def g110_16 {R : Type} (x0 : V6) (x1 : V1) (x2 : Int) (k0 : V6 → V1 → Int → Option R) : Option R :=
(g110_10 x0 x1 x2 (fun y0 y1 y2 y3 => brB y3 (g110_11 y0 y1 y2 y3 (fun y0 y1 y2 y3 => brB y3 (g110_12 y0 y1 y2 y3) ((fun y0 y1 y2 => (g110_14 y0 y1 y2 (fun y0 y1 y2 => (k0 y0 y1 y2)))) y0 y1 y2))) (k0 y0 y1 y2)))
theorem t110_16 {N cl} {R} (K : KE R) (x0 x1 x2) : exec cl N c110_16 [(0, .v U0 x0), (1, .v .str x1), (5, .v U2 x2)] K = (g110_16 x0 x1 x2 (fun y0 y1 y2 => K .normal [(0, .v U0 y0), (1, .v .str y1), (5, .v U2 y2)])) := by
  simp only [c110_16, exec_seq, seqK_normal, seqK_exit, seqK_ret, t110_10, c110_15, exec_out, exec_cond', hb110_3, Option.bind_some, brB_true, brB_false, t110_11, c110_13, hb110_2, t110_12, exec_skip, kp110_4, t110_14, kp110_5, kp110_6]
  rfl
def g110_17 {R : Type} (x0 : V6) (x1 : V1) (x2 : Int) (k0 : V6 → V1 → Int → V6 → Int → Int → Option R) : Option R :=
k0 x0 x1 x2 x0 (x0.length : Int) (0 : Int)
theorem t110_17 {N cl} {R} (K : KE R) (x0 x1 x2) : exec cl N c110_17 [(0, .v U0 x0), (1, .v .str x1), (5, .v U2 x2)] K = (g110_17 x0 x1 x2 (fun y0 y1 y2 y3 y4 y5 => K .normal [(0, .v U0 y0), (1, .v .str y1), (5, .v U2 y2), (39, .v U0 y3), (40, .v U2 y4), (41, .v U2 y5)])) := by
  kernel_rfl
theorem kp110_7 (x0 x1 x2 x3 x4 x5) : keep [0, 1, 5, 39, 40, 41] [(0, .v U0 x0), (1, .v .str x1), (5, .v U2 x2), (39, .v U0 x3), (40, .v U2 x4), (41, .v U2 x5)] = [(0, .v U0 x0), (1, .v .str x1), (5, .v U2 x2), (39, .v U0 x3), (40, .v U2 x4), (41, .v U2 x5)] := by kernel_rfl
def g110_18 {R : Type} (x0 : V6) (x1 : V1) (x2 : Int) (x3 : V6) (x4 : Int) (x5 : Int) (k0 : V6 → V1 → Int → V6 → Int → Int → Bool → Option R) : Option R :=
k0 x0 x1 x2 x3 x4 x5 (decide (x5 < x4))
theorem t110_18 {N cl} {R} (K : KE R) (x0 x1 x2 x3 x4 x5) : exec cl N c110_18 [(0, .v U0 x0), (1, .v .str x1), (5, .v U2 x2), (39, .v U0 x3), (40, .v U2 x4), (41, .v U2 x5)] K = (g110_18 x0 x1 x2 x3 x4 x5 (fun y0 y1 y2 y3 y4 y5 y6 => K .normal [(0, .v U0 y0), (1, .v .str y1), (5, .v U2 y2), (39, .v U0 y3), (40, .v U2 y4), (41, .v U2 y5), (42, .v .bool y6)])) := by
  kernel_rfl
theorem kp110_8 (x0 x1 x2 x3 x4 x5 x6) : keep [0, 1, 5, 39, 40, 41] [(0, .v U0 x0), (1, .v .str x1), (5, .v U2 x2), (39, .v U0 x3), (40, .v U2 x4), (41, .v U2 x5), (42, .v .bool x6)] = [(0, .v U0 x0), (1, .v .str x1), (5, .v U2 x2), (39, .v U0 x3), (40, .v U2 x4), (41, .v U2 x5)] := by kernel_rfl
theorem hb110_4 (x0 : V6) (x1 : V1) (x2 : Int) (x3 : V6) (x4 : Int) (x5 : Int) (x6 : Bool) : boolOf? (ent [(0, .v U0 x0), (1, .v .str x1), (5, .v U2 x2), (39, .v U0 x3), (40, .v U2 x4), (41, .v U2 x5), (42, .v .bool x6)] (.t 42)) = some x6 := by kernel_rfl
def g110_20 {R : Type} (x0 : V6) (x1 : V1) (x2 : Int) (x3 : V6) (x4 : Int) (x5 : Int) (k0 : V6 → V1 → Int → V1 → V6 → Int → Int → Option R) : Option R :=
if 0 ≤ x5 ∧ x5 < (x3.length : Int) then
k0 x0 x1 x2 (x3.getD x5.toNat []) x3 x4 x5
else none
theorem t110_20 {N cl} {R} (K : KE R) (x0 x1 x2 x3 x4 x5) : exec cl N c110_20 [(0, .v U0 x0), (1, .v .str x1), (5, .v U2 x2), (39, .v U0 x3), (40, .v U2 x4), (41, .v U2 x5)] K = (g110_20 x0 x1 x2 x3 x4 x5 (fun y0 y1 y2 y3 y4 y5 y6 => K .normal [(0, .v U0 y0), (1, .v .str y1), (5, .v U2 y2), (7, .v .str y3), (39, .v U0 y4), (40, .v U2 y5), (41, .v U2 y6)])) := by
  kernel_rfl
def g110_21 {R : Type} (x0 : V6) (x1 : V1) (x2 : Int) (x3 : V1) (x4 : V6) (x5 : Int) (x6 : Int) (k0 : V6 → V1 → Int → V1 → V6 → Int → Int → Bool → Option R) : Option R :=
k0 x0 x1 x2 x3 x4 x5 x6 (decide ((x3.length : Int) > (IntKind.i64.wrap ((9223372036854775807 : Int) - x2))))
theorem t110_21 {N cl} {R} (K : KE R) (x0 x1 x2 x3 x4 x5 x6) : exec cl N c110_21 [(0, .v U0 x0), (1, .v .str x1), (5, .v U2 x2), (7, .v .str x3), (39, .v U0 x4), (40, .v U2 x5), (41, .v U2 x6)] K = (g110_21 x0 x1 x2 x3 x4 x5 x6 (fun y0 y1 y2 y3 y4 y5 y6 y7 => K .normal [(0, .v U0 y0), (1, .v .str y1), (5, .v U2 y2), (7, .v .str y3), (39, .v U0 y4), (40, .v U2 y5), (41, .v U2 y6), (49, .v .bool y7)])) := by
  kernel_rfl
def g110_22 {R : Type} (x0 : V6) (x1 : V1) (x2 : Int) (x3 : V1) (x4 : V6) (x5 : Int) (x6 : Int) (x7 : Bool) : Option R :=
none /- operation makeInterface -/
theorem t110_22 {N cl} {R} (K : KE R) (x0 x1 x2 x3 x4 x5 x6 x7) : exec cl N c110_22 [(0, .v U0 x0), (1, .v .str x1), (5, .v U2 x2), (7, .v .str x3), (39, .v U0 x4), (40, .v U2 x5), (41, .v U2 x6), (49, .v .bool x7)] K = (g110_22 x0 x1 x2 x3 x4 x5 x6 x7) := by
  kernel_rfl
theorem kp110_9 (x0 x1 x2 x3 x4 x5 x6 x7) : keep [0, 1, 5, 7, 39, 40, 41] [(0, .v U0 x0), (1, .v .str x1), (5, .v U2 x2), (7, .v .str x3), (39, .v U0 x4), (40, .v U2 x5), (41, .v U2 x6), (49, .v .bool x7)] = [(0, .v U0 x0), (1, .v .str x1), (5, .v U2 x2), (7, .v .str x3), (39, .v U0 x4), (40, .v U2 x5), (41, .v U2 x6)] := by kernel_rfl
theorem hb110_5 (x0 : V6) (x1 : V1) (x2 : Int) (x3 : V1) (x4 : V6) (x5 : Int) (x6 : Int) (x7 : Bool) : boolOf? (ent [(0, .v U0 x0), (1, .v .str x1), (5, .v U2 x2), (7, .v .str x3), (39, .v U0 x4), (40, .v U2 x5), (41, .v U2 x6), (49, .v .bool x7)] (.t 49)) = some x7 := by kernel_rfl
def g110_24 {R : Type} (x0 : V6) (x1 : V1) (x2 : Int) (x3 : V1) (x4 : V6) (x5 : Int) (x6 : Int) (k0 : V6 → V1 → Int → V6 → Int → Int → Option R) : Option R :=
k0 x0 x1 (IntKind.i64.wrap (x2 + (x3.length : Int))) x4 x5 x6
theorem t110_24 {N cl} {R} (K : KE R) (x0 x1 x2 x3 x4 x5 x6) : exec cl N c110_24 [(0, .v U0 x0), (1, .v .str x1), (5, .v U2 x2), (7, .v .str x3), (39, .v U0 x4), (40, .v U2 x5), (41, .v U2 x6)] K = (g110_24 x0 x1 x2 x3 x4 x5 x6 (fun y0 y1 y2 y3 y4 y5 => K .normal [(0, .v U0 y0), (1, .v .str y1), (5, .v U2 y2), (39, .v U0 y3), (40, .v U2 y4), (41, .v U2 y5)])) := by
  kernel_rfl
def g110_26 {R : Type} (x0 : V6) (x1 : V1) (x2 : Int) (x3 : V6) (x4 : Int) (x5 : Int) (k0 : V6 → V1 → Int → V6 → Int → Int → Option R) : Option R :=
k0 x0 x1 x2 x3 x4 (IntKind.i64.wrap (x5 + (1 : Int)))
theorem t110_26 {N cl} {R} (K : KE R) (x0 x1 x2 x3 x4 x5) : exec cl N c110_26 [(0, .v U0 x0), (1, .v .str x1), (5, .v U2 x2), (39, .v U0 x3), (40, .v U2 x4), (41, .v U2 x5)] K = (g110_26 x0 x1 x2 x3 x4 x5 (fun y0 y1 y2 y3 y4 y5 => K .normal [(0, .v U0 y0), (1, .v .str y1), (5, .v U2 y2), (39, .v U0 y3), (40, .v U2 y4), (41, .v U2 y5)])) := by
  kernel_rfl
def g110_27 {R : Type} (x0 : V6) (x1 : V1) (x2 : Int) (x3 : V6) (x4 : Int) (x5 : Int) (k0 : V6 → V1 → Int → V6 → Int → Int → Option R) (k1 : V6 → V1 → Int → V6 → Int → Int → Option R) : Option R :=
(g110_18 x0 x1 x2 x3 x4 x5 (fun y0 y1 y2 y3 y4 y5 y6 => brB y6 ((fun y0 y1 y2 y3 y4 y5 => (g110_20 y0 y1 y2 y3 y4 y5 (fun y0 y1 y2 y3 y4 y5 y6 => (g110_21 y0 y1 y2 y3 y4 y5 y6 (fun y0 y1 y2 y3 y4 y5 y6 y7 => brB y7 (g110_22 y0 y1 y2 y3 y4 y5 y6 y7) ((fun y0 y1 y2 y3 y4 y5 y6 => (g110_24 y0 y1 y2 y3 y4 y5 y6 (fun y0 y1 y2 y3 y4 y5 => (g110_26 y0 y1 y2 y3 y4 y5 k0)))) y0 y1 y2 y3 y4 y5 y6)))))) y0 y1 y2 y3 y4 y5) (k1 y0 y1 y2 y3 y4 y5)))
theorem t110_27 {N cl} {R} (K : KE R) (x0 x1 x2 x3 x4 x5) : exec cl N c110_27 [(0, .v U0 x0), (1, .v .str x1), (5, .v U2 x2), (39, .v U0 x3), (40, .v U2 x4), (41, .v U2 x5)] K = (g110_27 x0 x1 x2 x3 x4 x5 (fun y0 y1 y2 y3 y4 y5 => K .normal [(0, .v U0 y0), (1, .v .str y1), (5, .v U2 y2), (39, .v U0 y3), (40, .v U2 y4), (41, .v U2 y5)]) (fun y0 y1 y2 y3 y4 y5 => K (.exit 1) [(0, .v U0 y0), (1, .v .str y1), (5, .v U2 y2), (39, .v U0 y3), (40, .v U2 y4), (41, .v U2 y5)])) := by
  simp only [c110_27, exec_seq, seqK_normal, seqK_exit, seqK_ret, t110_18, c110_19, exec_out, exec_cond', hb110_4, Option.bind_some, brB_true, brB_false, exec_skip, exec_exit, kp110_8, c110_25, exec_block, t110_20, t110_21, c110_23, hb110_5, t110_22, kp110_9, t110_24, blockK_normal, blockK_ret, blockK_eq, kp110_7, t110_26]
  rfl
def l110_28 {R : Type} (k0 : V6 → V1 → Int → V6 → Int → Int → Option R) : Nat → V6 → V1 → Int → V6 → Int → Int → Option R
  | 0, _, _, _, _, _, _ => none
  | m + 1, x0, x1, x2, x3, x4, x5 => (g110_27 x0 x1 x2 x3 x4 x5 (fun y0 y1 y2 y3 y4 y5 => l110_28 k0 m y0 y1 y2 y3 y4 y5) k0)
theorem lt110_28 {N cl} {R} (K : KE R) : ∀ (m) (x0 x1 x2 x3 x4 x5), iter [0, 1, 5, 39, 40, 41] (fun env K => exec cl N c110_27 env K) K m [(0, .v U0 x0), (1, .v .str x1), (5, .v U2 x2), (39, .v U0 x3), (40, .v U2 x4), (41, .v U2 x5)] = l110_28 (fun y0 y1 y2 y3 y4 y5 => K (.exit 1) [(0, .v U0 y0), (1, .v .str y1), (5, .v U2 y2), (39, .v U0 y3), (40, .v U2 y4), (41, .v U2 y5)]) m x0 x1 x2 x3 x4 x5 := by
  intro m
  induction m with
  | zero => intros; rfl
  | succ m ih =>
    intro x0 x1 x2 x3 x4 x5
    simp only [iter_succ, t110_27, loopK_normal, loopK_exit, loopK_ret, kp110_7, ih]
    rfl
theorem kp110_10 (x0 x1 x2 x3 x4 x5) : keep [0, 1, 5] [(0, .v U0 x0), (1, .v .str x1), (5, .v U2 x2), (39, .v U0 x3), (40, .v U2 x4), (41, .v U2 x5)] = [(0, .v U0 x0), (1, .v .str x1), (5, .v U2 x2)] := by kernel_rfl
def g110_28 {R : Type} (N : Nat) (x0 : V6) (x1 : V1) (x2 : Int) (x3 : V6) (x4 : Int) (x5 : Int) (k0 : V6 → V1 → Int → Option R) : Option R :=
l110_28 (fun y0 y1 y2 y3 y4 y5 => k0 y0 y1 y2) N x0 x1 x2 x3 x4 x5
theorem t110_28 {N cl} {R} (K : KE R) (x0 x1 x2 x3 x4 x5) : exec cl N c110_28 [(0, .v U0 x0), (1, .v .str x1), (5, .v U2 x2), (39, .v U0 x3), (40, .v U2 x4), (41, .v U2 x5)] K = (g110_28 N x0 x1 x2 x3 x4 x5 (fun y0 y1 y2 => K (.exit 1) [(0, .v U0 y0), (1, .v .str y1), (5, .v U2 y2)])) := by
  simp only [c110_28, exec_out, exec_loop, kp110_7, lt110_28, kp110_10]
  rfl
def g110_30 {R : Type} (x0 : V6) (x1 : V1) (x2 : Int) : Option R :=
none /- type ptr -/
theorem t110_30 {N cl} {R} (K : KE R) (x0 x1 x2) : exec cl N c110_30 [(0, .v U0 x0), (1, .v .str x1), (5, .v U2 x2)] K = (g110_30 x0 x1 x2) := by
  kernel_rfl
def g110_45 {R : Type} (N : Nat) (x0 : V6) (x1 : V1) (k0 : V1 → Option R) : Option R :=
(g110_0 x0 x1 (fun y0 y1 => (g110_1 y0 y1 (fun y0 y1 y2 => (g110_2 y0 y1 y2 (fun y0 y1 y2 y3 => brB y3 (g110_3 y0 y1 y2 y3 (fun y0 => ((fun y0 => (k0 y0)) y0))) (g110_4 y0 y1 y2 y3 (fun y0 y1 y2 => brB y2 (g110_5 y0 y1 y2 (fun y0 => ((fun y0 => (k0 y0)) y0))) ((fun y0 y1 => ((fun y0 y1 => ((fun y0 y1 => (g110_9 y0 y1 (fun y0 y1 y2 => (g110_16 y0 y1 y2 (fun y0 y1 y2 => (g110_17 y0 y1 y2 (fun y0 y1 y2 y3 y4 y5 => (g110_28 N y0 y1 y2 y3 y4 y5 (fun y0 y1 y2 => (g110_30 y0 y1 y2)))))))))) y0 y1)) y0 y1)) y0 y1)))))))))
theorem t110_45 {N cl} {R} (K : KE R) (x0 x1) : exec cl N c110_45 [(0, .v U0 x0), (1, .v .str x1)] K = (g110_45 N x0 x1 (fun y0 => K .ret [(0, .dead), (1, .dead), (4, .v .str y0)])) := by
  simp only [c110_45, exec_seq, seqK_normal, seqK_exit, seqK_ret, t110_0, t110_1, c110_8, exec_out, exec_block, t110_2, c110_7, exec_cond', hb110_1, Option.bind_some, brB_true, brB_false, t110_3, exec_ret, t110_4, c110_6, hb110_0, t110_5, exec_skip, kp110_0, kp110_1, kp110_2, kp110_3, blockK_normal, blockK_ret, blockK_eq, t110_9, t110_16, t110_17, c110_29, t110_28, kp110_5, t110_30]
  rfl
theorem rk110_0 (y0 : V1) : retK d110 .ret [(0, .dead), (1, .dead), (4, .v .str y0)] = some [.v .str y0] := by kernel_rfl
def g110 {R : Type} (N : Nat) (x0 : V6) (x1 : V1) (k : V1 → Option R) : Option R :=
(g110_45 N x0 x1 (fun y0 => k y0))
theorem gen110 {N : Nat} {cl : Cal} (x0 : V6) (x1 : V1) {R : Type} (k : List E → Option R) : exec cl N c110 (params 0 [.v U0 x0, .v .str x1]) (fun e env => (retK d110 e env).bind k) = g110 N x0 x1 (fun (r0 : V1) => k [.v .str r0]) := by
  have e0 : params 0 [.v U0 x0, .v .str x1] = [(0, .v U0 x0), (1, .v .str x1)] := by kernel_rfl
  simp only [c110, e0, t110_45, rk110_0, Option.bind_some]
  rfl
def ctr110 (S : V6 → V1 → Option V5) : Ctr := { A := V6 × V1 × Unit, B := V1, f := 110, enc := fun a => [.v U0 a.1, .v .str a.2.1], dec := (decC (decV U0) (decC (decV .str) dec0)), S := fun a => S a.1 a.2.1, ent := fun b => [.v .str b], ok := (decV_cons (T := U0) (decV_cons (T := .str) (fun es b h => dec0_some h))) }
def S110 (N : Nat) (x0 : V6) (x1 : V1) : Option V5 := g110 N x0 x1 (fun (r0 : V1) => some (r0))
def g95_0 {R : Type} (x0 : V6) (k0 : V6 → Option R) : Option R :=
k0 x0
theorem t95_0 {N cl} {R} (K : KE R) (x0) : exec cl N c95_0 [(0, .v U0 x0)] K = (g95_0 x0 (fun y0 => K .normal [(0, .v U0 y0)])) := by
  kernel_rfl
def g95_1 {R : Type} (x0 : V6) (k0 : V6 → V6 → Int → Int → Option R) : Option R :=
k0 x0 x0 (x0.length : Int) (0 : Int)
theorem t95_1 {N cl} {R} (K : KE R) (x0) : exec cl N c95_1 [(0, .v U0 x0)] K = (g95_1 x0 (fun y0 y1 y2 y3 => K .normal [(0, .v U0 y0), (7, .v U0 y1), (8, .v U2 y2), (9, .v U2 y3)])) := by
  kernel_rfl
theorem kp95_0 (x0 x1 x2 x3) : keep [0, 7, 8, 9] [(0, .v U0 x0), (7, .v U0 x1), (8, .v U2 x2), (9, .v U2 x3)] = [(0, .v U0 x0), (7, .v U0 x1), (8, .v U2 x2), (9, .v U2 x3)] := by kernel_rfl
def g95_2 {R : Type} (x0 : V6) (x1 : V6) (x2 : Int) (x3 : Int) (k0 : V6 → V6 → Int → Int → Bool → Option R) : Option R :=
k0 x0 x1 x2 x3 (decide (x3 < x2))
theorem t95_2 {N cl} {R} (K : KE R) (x0 x1 x2 x3) : exec cl N c95_2 [(0, .v U0 x0), (7, .v U0 x1), (8, .v U2 x2), (9, .v U2 x3)] K = (g95_2 x0 x1 x2 x3 (fun y0 y1 y2 y3 y4 => K .normal [(0, .v U0 y0), (7, .v U0 y1), (8, .v U2 y2), (9, .v U2 y3), (10, .v .bool y4)])) := by
  kernel_rfl
theorem kp95_1 (x0 x1 x2 x3 x4) : keep [0, 7, 8, 9] [(0, .v U0 x0), (7, .v U0 x1), (8, .v U2 x2), (9, .v U2 x3), (10, .v .bool x4)] = [(0, .v U0 x0), (7, .v U0 x1), (8, .v U2 x2), (9, .v U2 x3)] := by kernel_rfl
theorem hb95_0 (x0 : V6) (x1 : V6) (x2 : Int) (x3 : Int) (x4 : Bool) : boolOf? (ent [(0, .v U0 x0), (7, .v U0 x1), (8, .v U2 x2), (9, .v U2 x3), (10, .v .bool x4)] (.t 10)) = some x4 := by kernel_rfl
def g95_4 {R : Type} (x0 : V6) (x1 : V6) (x2 : Int) (x3 : Int) (k0 : V6 → V1 → V6 → Int → Int → Option R) : Option R :=
if 0 ≤ x3 ∧ x3 < (x1.length : Int) then
k0 x0 (x1.getD x3.toNat []) x1 x2 x3
else none
theorem t95_4 {N cl} {R} (K : KE R) (x0 x1 x2 x3) : exec cl N c95_4 [(0, .v U0 x0), (7, .v U0 x1), (8, .v U2 x2), (9, .v U2 x3)] K = (g95_4 x0 x1 x2 x3 (fun y0 y1 y2 y3 y4 => K .normal [(0, .v U0 y0), (5, .v .str y1), (7, .v U0 y2), (8, .v U2 y3), (9, .v U2 y4)])) := by
  kernel_rfl
def g95_5 {R : Type} (x0 : V6) (x1 : V1) (x2 : V6) (x3 : Int) (x4 : Int) (k0 : V6 → V1 → V6 → Int → Int → Bool → Option R) : Option R :=
k0 x0 x1 x2 x3 x4 (x1 == ([] : List UInt8))
theorem t95_5 {N cl} {R} (K : KE R) (x0 x1 x2 x3 x4) : exec cl N c95_5 [(0, .v U0 x0), (5, .v .str x1), (7, .v U0 x2), (8, .v U2 x3), (9, .v U2 x4)] K = (g95_5 x0 x1 x2 x3 x4 (fun y0 y1 y2 y3 y4 y5 => K .normal [(0, .v U0 y0), (5, .v .str y1), (7, .v U0 y2), (8, .v U2 y3), (9, .v U2 y4), (14, .v .bool y5)])) := by
  kernel_rfl
def g95_6 {R : Type} (x0 : V6) (x1 : V1) (x2 : V6) (x3 : Int) (x4 : Int) (x5 : Bool) (k0 : V1 → Int → Option R) : Option R :=
k0 ([] : List UInt8) (7 : Int)
theorem t95_6 {N cl} {R} (K : KE R) (x0 x1 x2 x3 x4 x5) : exec cl N c95_6 [(0, .v U0 x0), (5, .v .str x1), (7, .v U0 x2), (8, .v U2 x3), (9, .v U2 x4), (14, .v .bool x5)] K = (g95_6 x0 x1 x2 x3 x4 x5 (fun y0 y1 => K .normal [(2, .v .str y0), (3, .v U2 y1)])) := by
  kernel_rfl
theorem kp95_2 (x0 x1) : keep [0, 2, 3, 5, 7, 8, 9] [(2, .v .str x0), (3, .v U2 x1)] = [(0, .dead), (2, .v .str x0), (3, .v U2 x1), (5, .dead), (7, .dead), (8, .dead), (9, .dead)] := by kernel_rfl
theorem kp95_3 (x0 x1 x2 x3 x4 x5) : keep [0, 2, 3, 5, 7, 8, 9] [(0, .v U0 x0), (5, .v .str x1), (7, .v U0 x2), (8, .v U2 x3), (9, .v U2 x4), (14, .v .bool x5)] = [(0, .v U0 x0), (2, .dead), (3, .dead), (5, .v .str x1), (7, .v U0 x2), (8, .v U2 x3), (9, .v U2 x4)] := by kernel_rfl
theorem hb95_1 (x0 : V6) (x1 : V1) (x2 : V6) (x3 : Int) (x4 : Int) (x5 : Bool) : boolOf? (ent [(0, .v U0 x0), (5, .v .str x1), (7, .v U0 x2), (8, .v U2 x3), (9, .v U2 x4), (14, .v .bool x5)] (.t 14)) = some x5 := by kernel_rfl
def g95_8 {R : Type} (S107 : V0 → V13 → Option (Bool)) (S108 : Int → Option (Bool)) (x0 : V6) (x1 : V1) (x2 : V6) (x3 : Int) (x4 : Int) (k0 : V6 → V6 → Int → Int → Bool → Option R) : Option R :=
(S107 (x1.map fun b => (b.toNat : Int)) (fun (x198 : V2) => ((S108 x198.1).bind fun b199 => some [.v .bool b199]).bind (unE .bool))).bind fun r200 =>
k0 x0 x2 x3 x4 r200
theorem t95_8 {N cl} (S107) (S108) (h107 : (ctr107 S107).holds cl) (h108 : (ctr108 S108).holds cl) {R} (K : KE R) (x0 x1 x2 x3 x4) : exec cl N c95_8 [(0, .v U0 x0), (2, .dead), (3, .dead), (5, .v .str x1), (7, .v U0 x2), (8, .v U2 x3), (9, .v U2 x4)] K = (g95_8 S107 S108 x0 x1 x2 x3 x4 (fun y0 y1 y2 y3 y4 => K .normal [(0, .v U0 y0), (7, .v U0 y1), (8, .v U2 y2), (9, .v U2 y3), (17, .v .bool y4)])) := by
  rw [← put_eq h107]
  rw [← put_eq h108]
  kernel_rfl
def g95_9 {R : Type} (x0 : V6) (x1 : V6) (x2 : Int) (x3 : Int) (x4 : Bool) (k0 : V1 → Int → Option R) : Option R :=
k0 ([] : List UInt8) (2 : Int)
theorem t95_9 {N cl} {R} (K : KE R) (x0 x1 x2 x3 x4) : exec cl N c95_9 [(0, .v U0 x0), (7, .v U0 x1), (8, .v U2 x2), (9, .v U2 x3), (17, .v .bool x4)] K = (g95_9 x0 x1 x2 x3 x4 (fun y0 y1 => K .normal [(2, .v .str y0), (3, .v U2 y1)])) := by
  kernel_rfl
theorem kp95_4 (x0 x1) : keep [0, 2, 3, 7, 8, 9] [(2, .v .str x0), (3, .v U2 x1)] = [(0, .dead), (2, .v .str x0), (3, .v U2 x1), (7, .dead), (8, .dead), (9, .dead)] := by kernel_rfl
theorem kp95_5 (x0 x1 x2 x3 x4) : keep [0, 2, 3, 7, 8, 9] [(0, .v U0 x0), (7, .v U0 x1), (8, .v U2 x2), (9, .v U2 x3), (17, .v .bool x4)] = [(0, .v U0 x0), (2, .dead), (3, .dead), (7, .v U0 x1), (8, .v U2 x2), (9, .v U2 x3)] := by kernel_rfl
theorem hb95_2 (x0 : V6) (x1 : V6) (x2 : Int) (x3 : Int) (x4 : Bool) : boolOf? (ent [(0, .v U0 x0), (7, .v U0 x1), (8, .v U2 x2), (9, .v U2 x3), (17, .v .bool x4)] (.t 17)) = some x4 := by kernel_rfl
theorem kp95_6 (x0 x1) : keep [0, 2, 3, 7, 8, 9] [(0, .dead), (2, .v .str x0), (3, .v U2 x1), (5, .dead), (7, .dead), (8, .dead), (9, .dead)] = [(0, .dead), (2, .v .str x0), (3, .v U2 x1), (7, .dead), (8, .dead), (9, .dead)] := by kernel_rfl
theorem kp95_7 (x0 x1) : keep [0, 2, 3, 7, 8, 9] [(0, .dead), (2, .v .str x0), (3, .v U2 x1), (7, .dead), (8, .dead), (9, .dead)] = [(0, .dead), (2, .v .str x0), (3, .v U2 x1), (7, .dead), (8, .dead), (9, .dead)] := by kernel_rfl
theorem kp95_8 (x0 x1 x2 x3) : keep [0, 2, 3, 7, 8, 9] [(0, .v U0 x0), (2, .dead), (3, .dead), (7, .v U0 x1), (8, .v U2 x2), (9, .v U2 x3)] = [(0, .v U0 x0), (2, .dead), (3, .dead), (7, .v U0 x1), (8, .v U2 x2), (9, .v U2 x3)] := by kernel_rfl
def g95_12 {R : Type} (x0 : V6) (x1 : V6) (x2 : Int) (x3 : Int) (k0 : V6 → V6 → Int → Int → Option R) : Option R :=
k0 x0 x1 x2 (IntKind.i64.wrap (x3 + (1 : Int)))
theorem t95_12 {N cl} {R} (K : KE R) (x0 x1 x2 x3) : exec cl N c95_12 [(0, .v U0 x0), (2, .dead), (3, .dead), (7, .v U0 x1), (8, .v U2 x2), (9, .v U2 x3)] K = (g95_12 x0 x1 x2 x3 (fun y0 y1 y2 y3 => K .normal [(0, .v U0 y0), (7, .v U0 y1), (8, .v U2 y2), (9, .v U2 y3)])) := by
  kernel_rfl
def g95_13 {R : Type} (S107 : V0 → V13 → Option (Bool)) (S108 : Int → Option (Bool)) (x0 : V6) (x1 : V6) (x2 : Int) (x3 : Int) (k0 : V1 → Int → Option R) (k1 : V6 → V6 → Int → Int → Option R) (k2 : V6 → V6 → Int → Int → Option R) : Option R :=
(g95_2 x0 x1 x2 x3 (fun y0 y1 y2 y3 y4 => brB y4 ((fun y0 y1 y2 y3 => (g95_4 y0 y1 y2 y3 (fun y0 y1 y2 y3 y4 => (g95_5 y0 y1 y2 y3 y4 (fun y0 y1 y2 y3 y4 y5 => brB y5 (g95_6 y0 y1 y2 y3 y4 y5 (fun y0 y1 => ((fun y0 y1 => (k0 y0 y1)) y0 y1))) ((fun y0 y1 y2 y3 y4 => (g95_8 S107 S108 y0 y1 y2 y3 y4 (fun y0 y1 y2 y3 y4 => brB y4 (g95_9 y0 y1 y2 y3 y4 (fun y0 y1 => ((fun y0 y1 => (k0 y0 y1)) y0 y1))) (g95_12 y0 y1 y2 y3 k1)))) y0 y1 y2 y3 y4)))))) y0 y1 y2 y3) (k2 y0 y1 y2 y3)))
theorem t95_13 {N cl} (S107) (S108) (h107 : (ctr107 S107).holds cl) (h108 : (ctr108 S108).holds cl) {R} (K : KE R) (x0 x1 x2 x3) : exec cl N c95_13 [(0, .v U0 x0), (7, .v U0 x1), (8, .v U2 x2), (9, .v U2 x3)] K = (g95_13 S107 S108 x0 x1 x2 x3 (fun y0 y1 => K .ret [(0, .dead), (2, .v .str y0), (3, .v U2 y1), (7, .dead), (8, .dead), (9, .dead)]) (fun y0 y1 y2 y3 => K .normal [(0, .v U0 y0), (7, .v U0 y1), (8, .v U2 y2), (9, .v U2 y3)]) (fun y0 y1 y2 y3 => K (.exit 0) [(0, .v U0 y0), (7, .v U0 y1), (8, .v U2 y2), (9, .v U2 y3)])) := by
  simp only [c95_13, exec_seq, seqK_normal, seqK_exit, seqK_ret, t95_2, c95_3, exec_out, exec_cond', hb95_0, Option.bind_some, brB_true, brB_false, exec_skip, exec_exit, kp95_1, c95_11, exec_block, t95_4, t95_5, c95_7, hb95_1, t95_6, exec_ret, kp95_2, kp95_3, t95_8 S107 S108 h107 h108, c95_10, hb95_2, t95_9, kp95_4, kp95_5, blockK_normal, blockK_ret, blockK_eq, kp95_6, kp95_7, kp95_8, t95_12]
  rfl
def l95_14 {R : Type} (S107 : V0 → V13 → Option (Bool)) (S108 : Int → Option (Bool)) (k0 : V1 → Int → Option R) (k1 : V6 → V6 → Int → Int → Option R) : Nat → V6 → V6 → Int → Int → Option R
  | 0, _, _, _, _ => none
  | m + 1, x0, x1, x2, x3 => (g95_13 S107 S108 x0 x1 x2 x3 k0 (fun y0 y1 y2 y3 => l95_14 S107 S108 k0 k1 m y0 y1 y2 y3) k1)
theorem lt95_14 {N cl} (S107) (S108) (h107 : (ctr107 S107).holds cl) (h108 : (ctr108 S108).holds cl) {R} (K : KE R) : ∀ (m) (x0 x1 x2 x3), iter [0, 7, 8, 9] (fun env K => exec cl N c95_13 env K) K m [(0, .v U0 x0), (7, .v U0 x1), (8, .v U2 x2), (9, .v U2 x3)] = l95_14 S107 S108 (fun y0 y1 => K .ret [(0, .dead), (2, .v .str y0), (3, .v U2 y1), (7, .dead), (8, .dead), (9, .dead)]) (fun y0 y1 y2 y3 => K (.exit 0) [(0, .v U0 y0), (7, .v U0 y1), (8, .v U2 y2), (9, .v U2 y3)]) m x0 x1 x2 x3 := by
  intro m
  induction m with
  | zero => intros; rfl
  | succ m ih =>
    intro x0 x1 x2 x3
    simp only [iter_succ, t95_13 S107 S108 h107 h108, loopK_normal, loopK_exit, loopK_ret, kp95_0, ih]
    rfl
theorem kp95_9 (x0 x1) : keep [0, 2, 3] [(0, .dead), (2, .v .str x0), (3, .v U2 x1), (7, .dead), (8, .dead), (9, .dead)] = [(0, .dead), (2, .v .str x0), (3, .v U2 x1)] := by kernel_rfl
theorem kp95_10 (x0 x1 x2 x3) : keep [0, 2, 3] [(0, .v U0 x0), (7, .v U0 x1), (8, .v U2 x2), (9, .v U2 x3)] = [(0, .v U0 x0), (2, .dead), (3, .dead)] := by kernel_rfl
def g95_14 {R : Type} (N : Nat) (S107 : V0 → V13 → Option (Bool)) (S108 : Int → Option (Bool)) (x0 : V6) (x1 : V6) (x2 : Int) (x3 : Int) (k0 : V1 → Int → Option R) (k1 : V6 → Option R) : Option R :=
l95_14 S107 S108 (fun y0 y1 => k0 y0 y1) (fun y0 y1 y2 y3 => k1 y0) N x0 x1 x2 x3
theorem t95_14 {N cl} (S107) (S108) (h107 : (ctr107 S107).holds cl) (h108 : (ctr108 S108).holds cl) {R} (K : KE R) (x0 x1 x2 x3) : exec cl N c95_14 [(0, .v U0 x0), (7, .v U0 x1), (8, .v U2 x2), (9, .v U2 x3)] K = (g95_14 N S107 S108 x0 x1 x2 x3 (fun y0 y1 => K .ret [(0, .dead), (2, .v .str y0), (3, .v U2 y1)]) (fun y0 => K (.exit 0) [(0, .v U0 y0), (2, .dead), (3, .dead)])) := by
  simp only [c95_14, exec_out, exec_loop, kp95_0, lt95_14 S107 S108 h107 h108, kp95_10, kp95_9]
  rfl
theorem kp95_11 (x0 x1) : keep [0, 2, 3] [(0, .dead), (2, .v .str x0), (3, .v U2 x1)] = [(0, .dead), (2, .v .str x0), (3, .v U2 x1)] := by kernel_rfl
theorem kp95_12 (x0) : keep [0, 2, 3] [(0, .v U0 x0), (2, .dead), (3, .dead)] = [(0, .v U0 x0), (2, .dead), (3, .dead)] := by kernel_rfl
def g95_16 {R : Type} (S110 : V6 → V1 → Option V5) (x0 : V6) (k0 : V1 → Option R) : Option R :=
(S110 x0 ([32] : List UInt8)).bind fun r202 =>
k0 r202
theorem t95_16 {N cl} (S110) (h110 : (ctr110 S110).holds cl) {R} (K : KE R) (x0) : exec cl N c95_16 [(0, .v U0 x0), (2, .dead), (3, .dead)] K = (g95_16 S110 x0 (fun y0 => K .normal [(6, .v .str y0)])) := by
  rw [← put_eq h110]
  kernel_rfl
def g95_17 {R : Type} (x0 : V1) (k0 : V1 → Bool → Option R) : Option R :=
k0 x0 (decide ((x0.length : Int) > (120 : Int)))
theorem t95_17 {N cl} {R} (K : KE R) (x0) : exec cl N c95_17 [(6, .v .str x0)] K = (g95_17 x0 (fun y0 y1 => K .normal [(6, .v .str y0), (23, .v .bool y1)])) := by
  kernel_rfl
def g95_18 {R : Type} (x0 : V1) (x1 : Bool) (k0 : V1 → Int → Option R) : Option R :=
k0 ([] : List UInt8) (3 : Int)
theorem t95_18 {N cl} {R} (K : KE R) (x0 x1) : exec cl N c95_18 [(6, .v .str x0), (23, .v .bool x1)] K = (g95_18 x0 x1 (fun y0 y1 => K .normal [(2, .v .str y0), (3, .v U2 y1)])) := by
  kernel_rfl
theorem kp95_13 (x0 x1) : keep [2, 3, 6] [(2, .v .str x0), (3, .v U2 x1)] = [(2, .v .str x0), (3, .v U2 x1), (6, .dead)] := by kernel_rfl
theorem kp95_14 (x0 x1) : keep [2, 3, 6] [(6, .v .str x0), (23, .v .bool x1)] = [(2, .dead), (3, .dead), (6, .v .str x0)] := by kernel_rfl
theorem hb95_3 (x0 : V1) (x1 : Bool) : boolOf? (ent [(6, .v .str x0), (23, .v .bool x1)] (.t 23)) = some x1 := by kernel_rfl
def g95_20 {R : Type} (x0 : V1) (k0 : V1 → Int → Option R) : Option R :=
k0 x0 (0 : Int)
theorem t95_20 {N cl} {R} (K : KE R) (x0) : exec cl N c95_20 [(2, .dead), (3, .dead), (6, .v .str x0)] K = (g95_20 x0 (fun y0 y1 => K .normal [(2, .v .str y0), (3, .v U2 y1)])) := by
  kernel_rfl
def g95_21 {R : Type} (N : Nat) (S107 : V0 → V13 → Option (Bool)) (S108 : Int → Option (Bool)) (S110 : V6 → V1 → Option V5) (x0 : V6) (k0 : V1 → Int → Option R) (k1 : V1 → Int → Option R) (k2 : V1 → Int → Option R) : Option R :=
(g95_0 x0 (fun y0 => (g95_1 y0 (fun y0 y1 y2 y3 => (g95_14 N S107 S108 y0 y1 y2 y3 (fun y0 y1 => (k0 y0 y1)) (fun y0 => ((fun y0 => (g95_16 S110 y0 (fun y0 => (g95_17 y0 (fun y0 y1 => brB y1 (g95_18 y0 y1 (fun y0 y1 => ((fun y0 y1 => (k1 y0 y1)) y0 y1))) ((fun y0 => (g95_20 y0 (fun y0 y1 => (k2 y0 y1)))) y0)))))) y0)))))))
theorem t95_21 {N cl} (S107) (S108) (S110) (h107 : (ctr107 S107).holds cl) (h108 : (ctr108 S108).holds cl) (h110 : (ctr110 S110).holds cl) {R} (K : KE R) (x0) : exec cl N c95_21 [(0, .v U0 x0)] K = (g95_21 N S107 S108 S110 x0 (fun y0 y1 => K .ret [(0, .dead), (2, .v .str y0), (3, .v U2 y1)]) (fun y0 y1 => K .ret [(2, .v .str y0), (3, .v U2 y1), (6, .dead)]) (fun y0 y1 => K .ret [(2, .v .str y0), (3, .v U2 y1)])) := by
  simp only [c95_21, exec_seq, seqK_normal, seqK_exit, seqK_ret, t95_0, t95_1, c95_15, exec_out, exec_block, t95_14 S107 S108 h107 h108, blockK_normal, blockK_ret, blockK_eq, kp95_11, kp95_12, t95_16 S110 h110, t95_17, c95_19, exec_cond', hb95_3, Option.bind_some, brB_true, brB_false, t95_18, exec_ret, exec_skip, kp95_13, kp95_14, t95_20]
  rfl
theorem rk95_0 (y0 : V1) (y1 : Int) : retK d95 .ret [(0, .dead), (2, .v .str y0), (3, .v U2 y1)] = some [.v .str y0, .v U2 y1] := by kernel_rfl
theorem rk95_1 (y0 : V1) (y1 : Int) : retK d95 .ret [(2, .v .str y0), (3, .v U2 y1), (6, .dead)] = some [.v .str y0, .v U2 y1] := by kernel_rfl
theorem rk95_2 (y0 : V1) (y1 : Int) : retK d95 .ret [(2, .v .str y0), (3, .v U2 y1)] = some [.v .str y0, .v U2 y1] := by kernel_rfl
def g95 {R : Type} (N : Nat) (S107 : V0 → V13 → Option (Bool)) (S108 : Int → Option (Bool)) (S110 : V6 → V1 → Option V5) (x0 : V6) (k : V1 → Int → Option R) : Option R :=
(g95_21 N S107 S108 S110 x0 (fun y0 y1 => k y0 y1) (fun y0 y1 => k y0 y1) (fun y0 y1 => k y0 y1))
theorem gen95 {N : Nat} {cl : Cal} (S107 : V0 → V13 → Option (Bool)) (S108 : Int → Option (Bool)) (S110 : V6 → V1 → Option V5) (h107 : (ctr107 S107).holds cl) (h108 : (ctr108 S108).holds cl) (h110 : (ctr110 S110).holds cl) (x0 : V6) {R : Type} (k : List E → Option R) : exec cl N c95 (params 0 [.v U0 x0]) (fun e env => (retK d95 e env).bind k) = g95 N S107 S108 S110 x0 (fun (r0 : V1) (r1 : Int) => k [.v .str r0, .v U2 r1]) := by
  have e0 : params 0 [.v U0 x0] = [(0, .v U0 x0)] := by kernel_rfl
  simp only [c95, e0, t95_21 S107 S108 S110 h107 h108 h110, rk95_0, rk95_1, rk95_2, Option.bind_some]
  rfl
def ctr95 (S : V6 → Option V8) : Ctr := { A := V6 × Unit, B := V1 × Int, f := 95, enc := fun a => [.v U0 a.1], dec := (decC (decV U0) dec0), S := fun a => S a.1, ent := fun b => [.v .str b.1, .v U2 b.2], ok := (decV_cons (T := U0) (fun es b h => dec0_some h)) }
def S95 (N : Nat) (x0 : V6) : Option V8 := g95 N (S107 N) (S108 N) (S110 N) x0 (fun (r0 : V1) (r1 : Int) => some (r0, r1))
def g62_0 {R : Type} (x0 : V1) (k0 : V1 → Option R) : Option R :=
k0 x0
theorem t62_0 {N cl} {R} (K : KE R) (x0) : exec cl N c62_0 [(0, .v .str x0)] K = (g62_0 x0 (fun y0 => K .normal [(0, .v .str y0)])) := by
  kernel_rfl
def g62_1 {R : Type} (x0 : V1) (k0 : V0 → Option R) : Option R :=
k0 (x0.map fun b => (b.toNat : Int))
theorem t62_1 {N cl} {R} (K : KE R) (x0) : exec cl N c62_1 [(0, .v .str x0)] K = (g62_1 x0 (fun y0 => K .normal [(3, .own true 4294967295 U1 .no y0)])) := by
  kernel_rfl
def g62_2 {R : Type} (x0 : V0) (k0 : V0 → Int → Int → Option R) : Option R :=
k0 x0 (x0.length : Int) (0 : Int)
theorem t62_2 {N cl} {R} (K : KE R) (x0) : exec cl N c62_2 [(3, .own true 4294967295 U1 .no x0)] K = (g62_2 x0 (fun y0 y1 y2 => K .normal [(3, .own true 4294967295 U1 .no y0), (8, .ref 3 []), (9, .v U2 y1), (10, .v U2 y2)])) := by
  kernel_rfl
theorem kp62_0 (x0 x1 x2) : keep [3, 8, 9, 10] [(3, .own true 4294967295 U1 .no x0), (8, .ref 3 []), (9, .v U2 x1), (10, .v U2 x2)] = [(3, .own true 4294967295 U1 .no x0), (8, .ref 3 []), (9, .v U2 x1), (10, .v U2 x2)] := by kernel_rfl
def g62_3 {R : Type} (x0 : V0) (x1 : Int) (x2 : Int) (k0 : V0 → Int → Int → Bool → Option R) : Option R :=
k0 x0 x1 x2 (decide (x2 < x1))
theorem t62_3 {N cl} {R} (K : KE R) (x0 x1 x2) : exec cl N c62_3 [(3, .own true 4294967295 U1 .no x0), (8, .ref 3 []), (9, .v U2 x1), (10, .v U2 x2)] K = (g62_3 x0 x1 x2 (fun y0 y1 y2 y3 => K .normal [(3, .own true 4294967295 U1 .no y0), (8, .ref 3 []), (9, .v U2 y1), (10, .v U2 y2), (11, .v .bool y3)])) := by
  kernel_rfl
theorem kp62_1 (x0 x1 x2 x3) : keep [3, 8, 9, 10] [(3, .own true 4294967295 U1 .no x0), (8, .ref 3 []), (9, .v U2 x1), (10, .v U2 x2), (11, .v .bool x3)] = [(3, .own true 4294967295 U1 .no x0), (8, .ref 3 []), (9, .v U2 x1), (10, .v U2 x2)] := by kernel_rfl
theorem hb62_0 (x0 : V0) (x1 : Int) (x2 : Int) (x3 : Bool) : boolOf? (ent [(3, .own true 4294967295 U1 .no x0), (8, .ref 3 []), (9, .v U2 x1), (10, .v U2 x2), (11, .v .bool x3)] (.t 11)) = some x3 := by kernel_rfl
def g62_5 {R : Type} (x0 : V0) (x1 : Int) (x2 : Int) (k0 : V0 → Int → Int → Int → Int → Option R) : Option R :=
if 0 ≤ x2 ∧ x2 < (x0.length : Int) then
if x2.toNat < x0.length then
k0 x0 x2 (x0.getD x2.toNat (0 : Int)) x1 x2
else none
else none
theorem t62_5 {N cl} {R} (K : KE R) (x0 x1 x2) : exec cl N c62_5 [(3, .own true 4294967295 U1 .no x0), (8, .ref 3 []), (9, .v U2 x1), (10, .v U2 x2)] K = (g62_5 x0 x1 x2 (fun y0 y1 y2 y3 y4 => K .normal [(3, .own true 4294967295 U1 .no y0), (4, .v U2 y1), (5, .v U1 y2), (8, .ref 3 []), (9, .v U2 y3), (10, .v U2 y4)])) := by
  kernel_rfl
def g62_6 {R : Type} (x0 : V0) (x1 : Int) (x2 : Int) (x3 : Int) (x4 : Int) (k0 : V0 → Int → Int → Int → Int → Bool → Option R) : Option R :=
brB (decide (x2 ≥ (65 : Int))) (k0 x0 x1 x2 x3 x4 (decide (x2 ≤ (90 : Int)))) (k0 x0 x1 x2 x3 x4 false)
theorem t62_6 {N cl} {R} (K : KE R) (x0 x1 x2 x3 x4) : exec cl N c62_6 [(3, .own true 4294967295 U1 .no x0), (4, .v U2 x1), (5, .v U1 x2), (8, .ref 3 []), (9, .v U2 x3), (10, .v U2 x4)] K = (g62_6 x0 x1 x2 x3 x4 (fun y0 y1 y2 y3 y4 y5 => K .normal [(3, .own true 4294967295 U1 .no y0), (4, .v U2 y1), (5, .v U1 y2), (8, .ref 3 []), (9, .v U2 y3), (10, .v U2 y4), (20, .v .bool y5)])) := by
  kernel_rfl
def g62_7 {R : Type} (x0 : V0) (x1 : Int) (x2 : Int) (x3 : Int) (x4 : Int) (x5 : Bool) (k0 : V0 → Int → Int → Option R) : Option R :=
if 0 ≤ x1 ∧ x1 < (x0.length : Int) then
if x1.toNat < x0.length then
k0 (x0.set x1.toNat (IntKind.u8.wrap ((IntKind.u8.wrap (x2 - (65 : Int))) + (97 : Int)))) x3 x4
else none
else none
theorem t62_7 {N cl} {R} (K : KE R) (x0 x1 x2 x3 x4 x5) : exec cl N c62_7 [(3, .own true 4294967295 U1 .no x0), (4, .v U2 x1), (5, .v U1 x2), (8, .ref 3 []), (9, .v U2 x3), (10, .v U2 x4), (20, .v .bool x5)] K = (g62_7 x0 x1 x2 x3 x4 x5 (fun y0 y1 y2 => K .normal [(3, .own true 4294967295 U1 .no y0), (8, .ref 3 []), (9, .v U2 y1), (10, .v U2 y2)])) := by
  kernel_rfl
theorem kp62_2 (x0 x1 x2 x3 x4 x5) : keep [3, 8, 9, 10] [(3, .own true 4294967295 U1 .no x0), (4, .v U2 x1), (5, .v U1 x2), (8, .ref 3 []), (9, .v U2 x3), (10, .v U2 x4), (20, .v .bool x5)] = [(3, .own true 4294967295 U1 .no x0), (8, .ref 3 []), (9, .v U2 x3), (10, .v U2 x4)] := by kernel_rfl
theorem hb62_1 (x0 : V0) (x1 : Int) (x2 : Int) (x3 : Int) (x4 : Int) (x5 : Bool) : boolOf? (ent [(3, .own true 4294967295 U1 .no x0), (4, .v U2 x1), (5, .v U1 x2), (8, .ref 3 []), (9, .v U2 x3), (10, .v U2 x4), (20, .v .bool x5)] (.t 20)) = some x5 := by kernel_rfl
def g62_9 {R : Type} (x0 : V0) (x1 : Int) (x2 : Int) (k0 : V0 → Int → Int → Option R) : Option R :=
(g62_5 x0 x1 x2 (fun y0 y1 y2 y3 y4 => (g62_6 y0 y1 y2 y3 y4 (fun y0 y1 y2 y3 y4 y5 => brB y5 (g62_7 y0 y1 y2 y3 y4 y5 (fun y0 y1 y2 => (k0 y0 y1 y2))) (k0 y0 y3 y4)))))
theorem t62_9 {N cl} {R} (K : KE R) (x0 x1 x2) : exec cl N c62_9 [(3, .own true 4294967295 U1 .no x0), (8, .ref 3 []), (9, .v U2 x1), (10, .v U2 x2)] K = (g62_9 x0 x1 x2 (fun y0 y1 y2 => K .normal [(3, .own true 4294967295 U1 .no y0), (8, .ref 3 []), (9, .v U2 y1), (10, .v U2 y2)])) := by
  simp only [c62_9, exec_out, exec_block, exec_seq, seqK_normal, seqK_exit, seqK_ret, t62_5, t62_6, c62_8, exec_cond', hb62_1, Option.bind_some, brB_true, brB_false, t62_7, exec_skip, kp62_0, kp62_2, blockK_normal, blockK_ret, blockK_eq]
  rfl
def g62_10 {R : Type} (x0 : V0) (x1 : Int) (x2 : Int) (k0 : V0 → Int → Int → Option R) : Option R :=
k0 x0 x1 (IntKind.i64.wrap (x2 + (1 : Int)))
theorem t62_10 {N cl} {R} (K : KE R) (x0 x1 x2) : exec cl N c62_10 [(3, .own true 4294967295 U1 .no x0), (8, .ref 3 []), (9, .v U2 x1), (10, .v U2 x2)] K = (g62_10 x0 x1 x2 (fun y0 y1 y2 => K .normal [(3, .own true 4294967295 U1 .no y0), (8, .ref 3 []), (9, .v U2 y1), (10, .v U2 y2)])) := by
  kernel_rfl
def g62_11 {R : Type} (x0 : V0) (x1 : Int) (x2 : Int) (k0 : V0 → Int → Int → Option R) (k1 : V0 → Int → Int → Option R) : Option R :=
(g62_3 x0 x1 x2 (fun y0 y1 y2 y3 => brB y3 ((fun y0 y1 y2 => (g62_9 y0 y1 y2 (fun y0 y1 y2 => (g62_10 y0 y1 y2 k0)))) y0 y1 y2) (k1 y0 y1 y2)))
theorem t62_11 {N cl} {R} (K : KE R) (x0 x1 x2) : exec cl N c62_11 [(3, .own true 4294967295 U1 .no x0), (8, .ref 3 []), (9, .v U2 x1), (10, .v U2 x2)] K = (g62_11 x0 x1 x2 (fun y0 y1 y2 => K .normal [(3, .own true 4294967295 U1 .no y0), (8, .ref 3 []), (9, .v U2 y1), (10, .v U2 y2)]) (fun y0 y1 y2 => K (.exit 0) [(3, .own true 4294967295 U1 .no y0), (8, .ref 3 []), (9, .v U2 y1), (10, .v U2 y2)])) := by
  simp only [c62_11, exec_seq, seqK_normal, seqK_exit, seqK_ret, t62_3, c62_4, exec_out, exec_cond', hb62_0, Option.bind_some, brB_true, brB_false, exec_skip, exec_exit, kp62_1, t62_9, t62_10]
  rfl
def l62_12 {R : Type} (k0 : V0 → Int → Int → Option R) : Nat → V0 → Int → Int → Option R
  | 0, _, _, _ => none
  | m + 1, x0, x1, x2 => (g62_11 x0 x1 x2 (fun y0 y1 y2 => l62_12 k0 m y0 y1 y2) k0)
theorem lt62_12 {N cl} {R} (K : KE R) : ∀ (m) (x0 x1 x2), iter [3, 8, 9, 10] (fun env K => exec cl N c62_11 env K) K m [(3, .own true 4294967295 U1 .no x0), (8, .ref 3 []), (9, .v U2 x1), (10, .v U2 x2)] = l62_12 (fun y0 y1 y2 => K (.exit 0) [(3, .own true 4294967295 U1 .no y0), (8, .ref 3 []), (9, .v U2 y1), (10, .v U2 y2)]) m x0 x1 x2 := by
  intro m
  induction m with
  | zero => intros; rfl
  | succ m ih =>
    intro x0 x1 x2
    simp only [iter_succ, t62_11, loopK_normal, loopK_exit, loopK_ret, kp62_0, ih]
    rfl
theorem kp62_3 (x0 x1 x2) : keep [3] [(3, .own true 4294967295 U1 .no x0), (8, .ref 3 []), (9, .v U2 x1), (10, .v U2 x2)] = [(3, .own true 4294967295 U1 .no x0)] := by kernel_rfl
def g62_12 {R : Type} (N : Nat) (x0 : V0) (x1 : Int) (x2 : Int) (k0 : V0 → Option R) : Option R :=
l62_12 (fun y0 y1 y2 => k0 y0) N x0 x1 x2
theorem t62_12 {N cl} {R} (K : KE R) (x0 x1 x2) : exec cl N c62_12 [(3, .own true 4294967295 U1 .no x0), (8, .ref 3 []), (9, .v U2 x1), (10, .v U2 x2)] K = (g62_12 N x0 x1 x2 (fun y0 => K (.exit 0) [(3, .own true 4294967295 U1 .no y0)])) := by
  simp only [c62_12, exec_out, exec_loop, kp62_0, lt62_12, kp62_3]
  rfl
theorem kp62_4 (x0) : keep [3] [(3, .own true 4294967295 U1 .no x0)] = [(3, .own true 4294967295 U1 .no x0)] := by kernel_rfl
def g62_14 {R : Type} (x0 : V0) (k0 : V1 → Option R) : Option R :=
k0 (x0.map fun n => UInt8.ofNat n.toNat)
theorem t62_14 {N cl} {R} (K : KE R) (x0) : exec cl N c62_14 [(3, .own true 4294967295 U1 .no x0)] K = (g62_14 x0 (fun y0 => K .normal [(2, .v .str y0)])) := by
  kernel_rfl
def g62_15 {R : Type} (N : Nat) (x0 : V1) (k0 : V1 → Option R) : Option R :=
(g62_0 x0 (fun y0 => (g62_1 y0 (fun y0 => (g62_2 y0 (fun y0 y1 y2 => (g62_12 N y0 y1 y2 (fun y0 => ((fun y0 => (g62_14 y0 (fun y0 => (k0 y0)))) y0)))))))))
theorem t62_15 {N cl} {R} (K : KE R) (x0) : exec cl N c62_15 [(0, .v .str x0)] K = (g62_15 N x0 (fun y0 => K .ret [(2, .v .str y0)])) := by
  simp only [c62_15, exec_seq, seqK_normal, seqK_exit, seqK_ret, t62_0, t62_1, t62_2, c62_13, exec_out, exec_block, t62_12, blockK_normal, blockK_ret, blockK_eq, kp62_4, t62_14, exec_ret]
  rfl
theorem rk62_0 (y0 : V1) : retK d62 .ret [(2, .v .str y0)] = some [.v .str y0] := by kernel_rfl
def g62 {R : Type} (N : Nat) (x0 : V1) (k : V1 → Option R) : Option R :=
(g62_15 N x0 (fun y0 => k y0))
theorem gen62 {N : Nat} {cl : Cal} (x0 : V1) {R : Type} (k : List E → Option R) : exec cl N c62 (params 0 [.v .str x0]) (fun e env => (retK d62 e env).bind k) = g62 N x0 (fun (r0 : V1) => k [.v .str r0]) := by
  have e0 : params 0 [.v .str x0] = [(0, .v .str x0)] := by kernel_rfl
  simp only [c62, e0, t62_15, rk62_0, Option.bind_some]
  rfl
def ctr62 (S : V1 → Option V5) : Ctr := { A := V1 × Unit, B := V1, f := 62, enc := fun a => [.v .str a.1], dec := (decC (decV .str) dec0), S := fun a => S a.1, ent := fun b => [.v .str b], ok := (decV_cons (T := .str) (fun es b h => dec0_some h)) }
def S62 (N : Nat) (x0 : V1) : Option V5 := g62 N x0 (fun (r0 : V1) => some (r0))
def g83_0 {R : Type} (x0 : V1) (k0 : V1 → Option R) : Option R :=
k0 x0
theorem t83_0 {N cl} {R} (K : KE R) (x0) : exec cl N c83_0 [(0, .v .str x0)] K = (g83_0 x0 (fun y0 => K .normal [(0, .v .str y0)])) := by
  kernel_rfl
def g83_1 {R : Type} (x0 : V1) (k0 : V1 → Bool → Option R) : Option R :=
k0 x0 (decide ((x0.length : Int) > (16 : Int)))
theorem t83_1 {N cl} {R} (K : KE R) (x0) : exec cl N c83_1 [(0, .v .str x0)] K = (g83_1 x0 (fun y0 y1 => K .normal [(0, .v .str y0), (7, .v .bool y1)])) := by
  kernel_rfl
def g83_2 {R : Type} (x0 : V1) (x1 : Bool) (k0 : Int → Option R) : Option R :=
k0 (3 : Int)
theorem t83_2 {N cl} {R} (K : KE R) (x0 x1) : exec cl N c83_2 [(0, .v .str x0), (7, .v .bool x1)] K = (g83_2 x0 x1 (fun y0 => K .normal [(2, .v U2 y0)])) := by
  kernel_rfl
theorem kp83_0 (x0) : keep [0, 2] [(2, .v U2 x0)] = [(0, .dead), (2, .v U2 x0)] := by kernel_rfl
theorem kp83_1 (x0 x1) : keep [0, 2] [(0, .v .str x0), (7, .v .bool x1)] = [(0, .v .str x0), (2, .dead)] := by kernel_rfl
theorem hb83_0 (x0 : V1) (x1 : Bool) : boolOf? (ent [(0, .v .str x0), (7, .v .bool x1)] (.t 7)) = some x1 := by kernel_rfl
def g83_4 {R : Type} (S95 : V6 → Option V8) (x0 : V1) (k0 : V1 → Int → Option R) : Option R :=
(S95 [x0]).bind fun r224 =>
k0 x0 r224.2
theorem t83_4 {N cl} (S95) (h95 : (ctr95 S95).holds cl) {R} (K : KE R) (x0) : exec cl N c83_4 [(0, .v .str x0), (2, .dead)] K = (g83_4 S95 x0 (fun y0 y1 => K .normal [(0, .v .str y0), (4, .v U2 y1)])) := by
  rw [← put_eq h95]
  kernel_rfl
def g83_5 {R : Type} (S62 : V1 → Option V5) (x0 : V1) (x1 : Int) (k0 : Bool → Option R) : Option R :=
brB (x1 != (0 : Int)) (k0 true) ((S62 x0).bind fun r226 =>
k0 (r226 != x0))
theorem t83_5 {N cl} (S62) (h62 : (ctr62 S62).holds cl) {R} (K : KE R) (x0 x1) : exec cl N c83_5 [(0, .v .str x0), (4, .v U2 x1)] K = (g83_5 S62 x0 x1 (fun y0 => K .normal [(21, .v .bool y0)])) := by
  rw [← put_eq h62]
  kernel_rfl
def g83_6 {R : Type} (x0 : Bool) (k0 : Int → Option R) : Option R :=
k0 (2 : Int)
theorem t83_6 {N cl} {R} (K : KE R) (x0) : exec cl N c83_6 [(21, .v .bool x0)] K = (g83_6 x0 (fun y0 => K .normal [(2, .v U2 y0)])) := by
  kernel_rfl
theorem kp83_2 (x0) : keep [2] [(2, .v U2 x0)] = [(2, .v U2 x0)] := by kernel_rfl
theorem kp83_3 (x0) : keep [2] [(21, .v .bool x0)] = [(2, .dead)] := by kernel_rfl
theorem hb83_1 (x0 : Bool) : boolOf? (ent [(21, .v .bool x0)] (.t 21)) = some x0 := by kernel_rfl
def g83_8 {R : Type} (k0 : Int → Option R) : Option R :=
k0 (0 : Int)
theorem t83_8 {N cl} {R} (K : KE R) : exec cl N c83_8 [(2, .dead)] K = (g83_8 (fun y0 => K .normal [(2, .v U2 y0)])) := by
  kernel_rfl
def g83_9 {R : Type} (S62 : V1 → Option V5) (S95 : V6 → Option V8) (x0 : V1) (k0 : Int → Option R) (k1 : Int → Option R) : Option R :=
(g83_0 x0 (fun y0 => (g83_1 y0 (fun y0 y1 => brB y1 (g83_2 y0 y1 (fun y0 => ((fun y0 => (k0 y0)) y0))) ((fun y0 => (g83_4 S95 y0 (fun y0 y1 => (g83_5 S62 y0 y1 (fun y0 => brB y0 (g83_6 y0 (fun y0 => ((fun y0 => (k1 y0)) y0))) (g83_8 (fun y0 => (k1 y0)))))))) y0)))))
theorem t83_9 {N cl} (S62) (S95) (h62 : (ctr62 S62).holds cl) (h95 : (ctr95 S95).holds cl) {R} (K : KE R) (x0) : exec cl N c83_9 [(0, .v .str x0)] K = (g83_9 S62 S95 x0 (fun y0 => K .ret [(0, .dead), (2, .v U2 y0)]) (fun y0 => K .ret [(2, .v U2 y0)])) := by
  simp only [c83_9, exec_seq, seqK_normal, seqK_exit, seqK_ret, t83_0, t83_1, c83_3, exec_out, exec_cond', hb83_0, Option.bind_some, brB_true, brB_false, t83_2, exec_ret, exec_skip, kp83_0, kp83_1, t83_4 S95 h95, t83_5 S62 h62, c83_7, hb83_1, t83_6, kp83_2, kp83_3, t83_8]
  rfl
theorem rk83_0 (y0 : Int) : retK d83 .ret [(0, .dead), (2, .v U2 y0)] = some [.v U2 y0] := by kernel_rfl
theorem rk83_1 (y0 : Int) : retK d83 .ret [(2, .v U2 y0)] = some [.v U2 y0] := by kernel_rfl
def g83 {R : Type} (S62 : V1 → Option V5) (S95 : V6 → Option V8) (x0 : V1) (k : Int → Option R) : Option R :=
(g83_9 S62 S95 x0 (fun y0 => k y0) (fun y0 => k y0))
theorem gen83 {N : Nat} {cl : Cal} (S62 : V1 → Option V5) (S95 : V6 → Option V8) (h62 : (ctr62 S62).holds cl) (h95 : (ctr95 S95).holds cl) (x0 : V1) {R : Type} (k : List E → Option R) : exec cl N c83 (params 0 [.v .str x0]) (fun e env => (retK d83 e env).bind k) = g83 S62 S95 x0 (fun (r0 : Int) => k [.v U2 r0]) := by
  have e0 : params 0 [.v .str x0] = [(0, .v .str x0)] := by kernel_rfl
  simp only [c83, e0, t83_9 S62 S95 h62 h95, rk83_0, rk83_1, Option.bind_some]
  rfl
def ctr83 (S : V1 → Option (Int)) : Ctr := { A := V1 × Unit, B := Int, f := 83, enc := fun a => [.v .str a.1], dec := (decC (decV .str) dec0), S := fun a => S a.1, ent := fun b => [.v U2 b], ok := (decV_cons (T := .str) (fun es b h => dec0_some h)) }
def S83 (N : Nat) (x0 : V1) : Option (Int) := g83 (S62 N) (S95 N) x0 (fun (r0 : Int) => some (r0))
def g96_0 {R : Type} (x0 : V6) (x1 : V1) (k0 : V6 → V1 → Option R) : Option R :=
k0 x0 x1
theorem t96_0 {N cl} {R} (K : KE R) (x0 x1) : exec cl N c96_0 [(0, .v U0 x0), (1, .v .str x1)] K = (g96_0 x0 x1 (fun y0 y1 => K .normal [(0, .v U0 y0), (1, .v .str y1)])) := by
  kernel_rfl
def g96_1 {R : Type} (x0 : V6) (x1 : V1) (k0 : V6 → V1 → Int → Int → Option R) : Option R :=
k0 x0 x1 (x0.length : Int) (0 : Int)
theorem t96_1 {N cl} {R} (K : KE R) (x0 x1) : exec cl N c96_1 [(0, .v U0 x0), (1, .v .str x1)] K = (g96_1 x0 x1 (fun y0 y1 y2 y3 => K .normal [(0, .v U0 y0), (1, .v .str y1), (7, .v U2 y2), (8, .v U2 y3)])) := by
  kernel_rfl
theorem kp96_0 (x0 x1 x2 x3) : keep [0, 1, 7, 8] [(0, .v U0 x0), (1, .v .str x1), (7, .v U2 x2), (8, .v U2 x3)] = [(0, .v U0 x0), (1, .v .str x1), (7, .v U2 x2), (8, .v U2 x3)] := by kernel_rfl
def g96_2 {R : Type} (x0 : V6) (x1 : V1) (x2 : Int) (x3 : Int) (k0 : V6 → V1 → Int → Int → Bool → Option R) : Option R :=
k0 x0 x1 x2 x3 (decide (x3 < x2))
theorem t96_2 {N cl} {R} (K : KE R) (x0 x1 x2 x3) : exec cl N c96_2 [(0, .v U0 x0), (1, .v .str x1), (7, .v U2 x2), (8, .v U2 x3)] K = (g96_2 x0 x1 x2 x3 (fun y0 y1 y2 y3 y4 => K .normal [(0, .v U0 y0), (1, .v .str y1), (7, .v U2 y2), (8, .v U2 y3), (9, .v .bool y4)])) := by
  kernel_rfl
theorem kp96_1 (x0 x1 x2 x3 x4) : keep [0, 1, 7, 8] [(0, .v U0 x0), (1, .v .str x1), (7, .v U2 x2), (8, .v U2 x3), (9, .v .bool x4)] = [(0, .v U0 x0), (1, .v .str x1), (7, .v U2 x2), (8, .v U2 x3)] := by kernel_rfl
theorem hb96_0 (x0 : V6) (x1 : V1) (x2 : Int) (x3 : Int) (x4 : Bool) : boolOf? (ent [(0, .v U0 x0), (1, .v .str x1), (7, .v U2 x2), (8, .v U2 x3), (9, .v .bool x4)] (.t 9)) = some x4 := by kernel_rfl
def g96_4 {R : Type} (x0 : V6) (x1 : V1) (x2 : Int) (x3 : Int) (k0 : V6 → V1 → Int → Int → Int → Option R) : Option R :=
k0 x0 x1 x3 x2 x3
theorem t96_4 {N cl} {R} (K : KE R) (x0 x1 x2 x3) : exec cl N c96_4 [(0, .v U0 x0), (1, .v .str x1), (7, .v U2 x2), (8, .v U2 x3)] K = (g96_4 x0 x1 x2 x3 (fun y0 y1 y2 y3 y4 => K .normal [(0, .v U0 y0), (1, .v .str y1), (5, .v U2 y2), (7, .v U2 y3), (8, .v U2 y4)])) := by
  kernel_rfl
def g96_5 {R : Type} (x0 : V6) (x1 : V1) (x2 : Int) (x3 : Int) (x4 : Int) (k0 : V6 → V1 → Int → Int → Int → Bool → Option R) : Option R :=
if 0 ≤ x2 ∧ x2 < (x0.length : Int) then
k0 x0 x1 x2 x3 x4 (x1 == (x0.getD x2.toNat []))
else none
theorem t96_5 {N cl} {R} (K : KE R) (x0 x1 x2 x3 x4) : exec cl N c96_5 [(0, .v U0 x0), (1, .v .str x1), (5, .v U2 x2), (7, .v U2 x3), (8, .v U2 x4)] K = (g96_5 x0 x1 x2 x3 x4 (fun y0 y1 y2 y3 y4 y5 => K .normal [(0, .v U0 y0), (1, .v .str y1), (5, .v U2 y2), (7, .v U2 y3), (8, .v U2 y4), (16, .v .bool y5)])) := by
  kernel_rfl
def g96_6 {R : Type} (x0 : V6) (x1 : V1) (x2 : Int) (x3 : Int) (x4 : Int) (x5 : Bool) (k0 : Int → Option R) : Option R :=
k0 x2
theorem t96_6 {N cl} {R} (K : KE R) (x0 x1 x2 x3 x4 x5) : exec cl N c96_6 [(0, .v U0 x0), (1, .v .str x1), (5, .v U2 x2), (7, .v U2 x3), (8, .v U2 x4), (16, .v .bool x5)] K = (g96_6 x0 x1 x2 x3 x4 x5 (fun y0 => K .normal [(4, .v U2 y0)])) := by
  kernel_rfl
theorem kp96_2 (x0) : keep [0, 1, 4, 7, 8] [(4, .v U2 x0)] = [(0, .dead), (1, .dead), (4, .v U2 x0), (7, .dead), (8, .dead)] := by kernel_rfl
theorem kp96_3 (x0 x1 x2 x3 x4 x5) : keep [0, 1, 4, 7, 8] [(0, .v U0 x0), (1, .v .str x1), (5, .v U2 x2), (7, .v U2 x3), (8, .v U2 x4), (16, .v .bool x5)] = [(0, .v U0 x0), (1, .v .str x1), (4, .dead), (7, .v U2 x3), (8, .v U2 x4)] := by kernel_rfl
theorem hb96_1 (x0 : V6) (x1 : V1) (x2 : Int) (x3 : Int) (x4 : Int) (x5 : Bool) : boolOf? (ent [(0, .v U0 x0), (1, .v .str x1), (5, .v U2 x2), (7, .v U2 x3), (8, .v U2 x4), (16, .v .bool x5)] (.t 16)) = some x5 := by kernel_rfl
theorem kp96_4 (x0) : keep [0, 1, 4, 7, 8] [(0, .dead), (1, .dead), (4, .v U2 x0), (7, .dead), (8, .dead)] = [(0, .dead), (1, .dead), (4, .v U2 x0), (7, .dead), (8, .dead)] := by kernel_rfl
theorem kp96_5 (x0 x1 x2 x3) : keep [0, 1, 4, 7, 8] [(0, .v U0 x0), (1, .v .str x1), (4, .dead), (7, .v U2 x2), (8, .v U2 x3)] = [(0, .v U0 x0), (1, .v .str x1), (4, .dead), (7, .v U2 x2), (8, .v U2 x3)] := by kernel_rfl
def g96_9 {R : Type} (x0 : V6) (x1 : V1) (x2 : Int) (x3 : Int) (k0 : V6 → V1 → Int → Int → Option R) : Option R :=
k0 x0 x1 x2 (IntKind.i64.wrap (x3 + (1 : Int)))
theorem t96_9 {N cl} {R} (K : KE R) (x0 x1 x2 x3) : exec cl N c96_9 [(0, .v U0 x0), (1, .v .str x1), (4, .dead), (7, .v U2 x2), (8, .v U2 x3)] K = (g96_9 x0 x1 x2 x3 (fun y0 y1 y2 y3 => K .normal [(0, .v U0 y0), (1, .v .str y1), (7, .v U2 y2), (8, .v U2 y3)])) := by
  kernel_rfl
def g96_10 {R : Type} (x0 : V6) (x1 : V1) (x2 : Int) (x3 : Int) (k0 : Int → Option R) (k1 : V6 → V1 → Int → Int → Option R) (k2 : V6 → V1 → Int → Int → Option R) : Option R :=
(g96_2 x0 x1 x2 x3 (fun y0 y1 y2 y3 y4 => brB y4 ((fun y0 y1 y2 y3 => (g96_4 y0 y1 y2 y3 (fun y0 y1 y2 y3 y4 => (g96_5 y0 y1 y2 y3 y4 (fun y0 y1 y2 y3 y4 y5 => brB y5 (g96_6 y0 y1 y2 y3 y4 y5 (fun y0 => ((fun y0 => (k0 y0)) y0))) (g96_9 y0 y1 y3 y4 k1)))))) y0 y1 y2 y3) (k2 y0 y1 y2 y3)))
theorem t96_10 {N cl} {R} (K : KE R) (x0 x1 x2 x3) : exec cl N c96_10 [(0, .v U0 x0), (1, .v .str x1), (7, .v U2 x2), (8, .v U2 x3)] K = (g96_10 x0 x1 x2 x3 (fun y0 => K .ret [(0, .dead), (1, .dead), (4, .v U2 y0), (7, .dead), (8, .dead)]) (fun y0 y1 y2 y3 => K .normal [(0, .v U0 y0), (1, .v .str y1), (7, .v U2 y2), (8, .v U2 y3)]) (fun y0 y1 y2 y3 => K (.exit 0) [(0, .v U0 y0), (1, .v .str y1), (7, .v U2 y2), (8, .v U2 y3)])) := by
  simp only [c96_10, exec_seq, seqK_normal, seqK_exit, seqK_ret, t96_2, c96_3, exec_out, exec_cond', hb96_0, Option.bind_some, brB_true, brB_false, exec_skip, exec_exit, kp96_1, c96_8, exec_block, t96_4, t96_5, c96_7, hb96_1, t96_6, exec_ret, kp96_2, kp96_3, blockK_normal, blockK_ret, blockK_eq, kp96_4, kp96_5, t96_9]
  rfl
def l96_11 {R : Type} (k0 : Int → Option R) (k1 : V6 → V1 → Int → Int → Option R) : Nat → V6 → V1 → Int → Int → Option R
  | 0, _, _, _, _ => none
  | m + 1, x0, x1, x2, x3 => (g96_10 x0 x1 x2 x3 k0 (fun y0 y1 y2 y3 => l96_11 k0 k1 m y0 y1 y2 y3) k1)
theorem lt96_11 {N cl} {R} (K : KE R) : ∀ (m) (x0 x1 x2 x3), iter [0, 1, 7, 8] (fun env K => exec cl N c96_10 env K) K m [(0, .v U0 x0), (1, .v .str x1), (7, .v U2 x2), (8, .v U2 x3)] = l96_11 (fun y0 => K .ret [(0, .dead), (1, .dead), (4, .v U2 y0), (7, .dead), (8, .dead)]) (fun y0 y1 y2 y3 => K (.exit 0) [(0, .v U0 y0), (1, .v .str y1), (7, .v U2 y2), (8, .v U2 y3)]) m x0 x1 x2 x3 := by
  intro m
  induction m with
  | zero => intros; rfl
  | succ m ih =>
    intro x0 x1 x2 x3
    simp only [iter_succ, t96_10, loopK_normal, loopK_exit, loopK_ret, kp96_0, ih]
    rfl
theorem kp96_6 (x0) : keep [4] [(0, .dead), (1, .dead), (4, .v U2 x0), (7, .dead), (8, .dead)] = [(4, .v U2 x0)] := by kernel_rfl
theorem kp96_7 (x0 x1 x2 x3) : keep [4] [(0, .v U0 x0), (1, .v .str x1), (7, .v U2 x2), (8, .v U2 x3)] = [(4, .dead)] := by kernel_rfl
def g96_11 {R : Type} (N : Nat) (x0 : V6) (x1 : V1) (x2 : Int) (x3 : Int) (k0 : Int → Option R) (k1 : Option R) : Option R :=
l96_11 (fun y0 => k0 y0) (fun y0 y1 y2 y3 => k1) N x0 x1 x2 x3
theorem t96_11 {N cl} {R} (K : KE R) (x0 x1 x2 x3) : exec cl N c96_11 [(0, .v U0 x0), (1, .v .str x1), (7, .v U2 x2), (8, .v U2 x3)] K = (g96_11 N x0 x1 x2 x3 (fun y0 => K .ret [(4, .v U2 y0)]) (K (.exit 0) [(4, .dead)])) := by
  simp only [c96_11, exec_out, exec_loop, kp96_0, lt96_11, kp96_6, kp96_7]
  rfl
theorem kp96_8 (x0) : keep [4] [(4, .v U2 x0)] = [(4, .v U2 x0)] := by kernel_rfl
theorem kp96_9 : keep [4] [(4, .dead)] = [(4, .dead)] := by kernel_rfl
def g96_13 {R : Type} (k0 : Int → Option R) : Option R :=
k0 (-1 : Int)
theorem t96_13 {N cl} {R} (K : KE R) : exec cl N c96_13 [(4, .dead)] K = (g96_13 (fun y0 => K .normal [(4, .v U2 y0)])) := by
  kernel_rfl
def g96_14 {R : Type} (N : Nat) (x0 : V6) (x1 : V1) (k0 : Int → Option R) : Option R :=
(g96_0 x0 x1 (fun y0 y1 => (g96_1 y0 y1 (fun y0 y1 y2 y3 => (g96_11 N y0 y1 y2 y3 (fun y0 => (k0 y0)) (g96_13 (fun y0 => (k0 y0))))))))
theorem t96_14 {N cl} {R} (K : KE R) (x0 x1) : exec cl N c96_14 [(0, .v U0 x0), (1, .v .str x1)] K = (g96_14 N x0 x1 (fun y0 => K .ret [(4, .v U2 y0)])) := by
  simp only [c96_14, exec_seq, seqK_normal, seqK_exit, seqK_ret, t96_0, t96_1, c96_12, exec_out, exec_block, t96_11, blockK_normal, blockK_ret, blockK_eq, kp96_8, kp96_9, t96_13, exec_ret]
  rfl
theorem rk96_0 (y0 : Int) : retK d96 .ret [(4, .v U2 y0)] = some [.v U2 y0] := by kernel_rfl
def g96 {R : Type} (N : Nat) (x0 : V6) (x1 : V1) (k : Int → Option R) : Option R :=
(g96_14 N x0 x1 (fun y0 => k y0))
theorem gen96 {N : Nat} {cl : Cal} (x0 : V6) (x1 : V1) {R : Type} (k : List E → Option R) : exec cl N c96 (params 0 [.v U0 x0, .v .str x1]) (fun e env => (retK d96 e env).bind k) = g96 N x0 x1 (fun (r0 : Int) => k [.v U2 r0]) := by
  have e0 : params 0 [.v U0 x0, .v .str x1] = [(0, .v U0 x0), (1, .v .str x1)] := by kernel_rfl
  simp only [c96, e0, t96_14, rk96_0, Option.bind_some]
  rfl
def ctr96 (S : V6 → V1 → Option (Int)) : Ctr := { A := V6 × V1 × Unit, B := Int, f := 96, enc := fun a => [.v U0 a.1, .v .str a.2.1], dec := (decC (decV U0) (decC (decV .str) dec0)), S := fun a => S a.1 a.2.1, ent := fun b => [.v U2 b], ok := (decV_cons (T := U0) (decV_cons (T := .str) (fun es b h => dec0_some h))) }
def S96 (N : Nat) (x0 : V6) (x1 : V1) : Option (Int) := g96 N x0 x1 (fun (r0 : Int) => some (r0))
def g84_0 {R : Type} (x0 : V6) (x1 : V1) (k0 : V6 → V1 → Option R) : Option R :=
k0 x0 x1
theorem t84_0 {N cl} {R} (K : KE R) (x0 x1) : exec cl N c84_0 [(0, .v U0 x0), (1, .v .str x1)] K = (g84_0 x0 x1 (fun y0 y1 => K .normal [(0, .v U0 y0), (1, .v .str y1)])) := by
  kernel_rfl
def g84_1 {R : Type} (S96 : V6 → V1 → Option (Int)) (x0 : V6) (x1 : V1) (k0 : Bool → Option R) : Option R :=
(S96 x0 x1).bind fun r238 =>
k0 (decide (r238 ≥ (0 : Int)))
theorem t84_1 {N cl} (S96) (h96 : (ctr96 S96).holds cl) {R} (K : KE R) (x0 x1) : exec cl N c84_1 [(0, .v U0 x0), (1, .v .str x1)] K = (g84_1 S96 x0 x1 (fun y0 => K .normal [(4, .v .bool y0)])) := by
  rw [← put_eq h96]
  kernel_rfl
def g84_2 {R : Type} (S96 : V6 → V1 → Option (Int)) (x0 : V6) (x1 : V1) (k0 : Bool → Option R) : Option R :=
(g84_0 x0 x1 (fun y0 y1 => (g84_1 S96 y0 y1 (fun y0 => (k0 y0)))))
theorem t84_2 {N cl} (S96) (h96 : (ctr96 S96).holds cl) {R} (K : KE R) (x0 x1) : exec cl N c84_2 [(0, .v U0 x0), (1, .v .str x1)] K = (g84_2 S96 x0 x1 (fun y0 => K .ret [(4, .v .bool y0)])) := by
  simp only [c84_2, exec_seq, seqK_normal, seqK_exit, seqK_ret, t84_0, t84_1 S96 h96, exec_ret]
  rfl
theorem rk84_0 (y0 : Bool) : retK d84 .ret [(4, .v .bool y0)] = some [.v .bool y0] := by kernel_rfl
def g84 {R : Type} (S96 : V6 → V1 → Option (Int)) (x0 : V6) (x1 : V1) (k : Bool → Option R) : Option R :=
(g84_2 S96 x0 x1 (fun y0 => k y0))
theorem gen84 {N : Nat} {cl : Cal} (S96 : V6 → V1 → Option (Int)) (h96 : (ctr96 S96).holds cl) (x0 : V6) (x1 : V1) {R : Type} (k : List E → Option R) : exec cl N c84 (params 0 [.v U0 x0, .v .str x1]) (fun e env => (retK d84 e env).bind k) = g84 S96 x0 x1 (fun (r0 : Bool) => k [.v .bool r0]) := by
  have e0 : params 0 [.v U0 x0, .v .str x1] = [(0, .v U0 x0), (1, .v .str x1)] := by kernel_rfl
  simp only [c84, e0, t84_2 S96 h96, rk84_0, Option.bind_some]
  rfl
def ctr84 (S : V6 → V1 → Option (Bool)) : Ctr := { A := V6 × V1 × Unit, B := Bool, f := 84, enc := fun a => [.v U0 a.1, .v .str a.2.1], dec := (decC (decV U0) (decC (decV .str) dec0)), S := fun a => S a.1 a.2.1, ent := fun b => [.v .bool b], ok := (decV_cons (T := U0) (decV_cons (T := .str) (fun es b h => dec0_some h))) }
def S84 (N : Nat) (x0 : V6) (x1 : V1) : Option (Bool) := g84 (S96 N) x0 x1 (fun (r0 : Bool) => some (r0))
def g59_0 {R : Type} (x0 : V22) (k0 : V22 → Option R) : Option R :=
k0 x0
theorem t59_0 {N cl} {R} (K : KE R) (x0) : exec cl N c59_0 [(0, .v U20 x0)] K = (g59_0 x0 (fun y0 => K .normal [(1, .loc U20 .no y0)])) := by
  kernel_rfl
def g59_1 {R : Type} (x0 : V22) (k0 : V22 → Bool → Option R) : Option R :=
brB (decide (x0.1 < (1 : Int))) (k0 x0 true) (brB (decide (x0.1 > (12 : Int))) (k0 x0 true) (brB (decide (x0.2.1 < (0 : Int))) (k0 x0 true) (k0 x0 (decide (x0.2.1 > (999 : Int))))))
theorem t59_1 {N cl} {R} (K : KE R) (x0) : exec cl N c59_1 [(1, .loc U20 .no x0)] K = (g59_1 x0 (fun y0 y1 => K .normal [(1, .loc U20 .no y0), (6, .v .bool y1)])) := by
  kernel_rfl
def g59_2 {R : Type} (x0 : V22) (x1 : Bool) (k0 : Int → Option R) : Option R :=
k0 (6 : Int)
theorem t59_2 {N cl} {R} (K : KE R) (x0 x1) : exec cl N c59_2 [(1, .loc U20 .no x0), (6, .v .bool x1)] K = (g59_2 x0 x1 (fun y0 => K .normal [(2, .v U2 y0)])) := by
  kernel_rfl
theorem kp59_0 (x0) : keep [1, 2] [(2, .v U2 x0)] = [(1, .dead), (2, .v U2 x0)] := by kernel_rfl
def g59_3 {R : Type} (x0 : V22) (x1 : Bool) (k0 : V22 → Bool → Option R) : Option R :=
k0 x0 (decide ((x0.2.2.1.length : Int) > (20 : Int)))
theorem t59_3 {N cl} {R} (K : KE R) (x0 x1) : exec cl N c59_3 [(1, .loc U20 .no x0), (6, .v .bool x1)] K = (g59_3 x0 x1 (fun y0 y1 => K .normal [(1, .loc U20 .no y0), (25, .v .bool y1)])) := by
  kernel_rfl
def g59_4 {R : Type} (x0 : V22) (x1 : Bool) (k0 : Int → Option R) : Option R :=
k0 (3 : Int)
theorem t59_4 {N cl} {R} (K : KE R) (x0 x1) : exec cl N c59_4 [(1, .loc U20 .no x0), (25, .v .bool x1)] K = (g59_4 x0 x1 (fun y0 => K .normal [(2, .v U2 y0)])) := by
  kernel_rfl
theorem kp59_1 (x0 x1) : keep [1, 2] [(1, .loc U20 .no x0), (25, .v .bool x1)] = [(1, .loc U20 .no x0), (2, .dead)] := by kernel_rfl
theorem hb59_0 (x0 : V22) (x1 : Bool) : boolOf? (ent [(1, .loc U20 .no x0), (25, .v .bool x1)] (.t 25)) = some x1 := by kernel_rfl
theorem kp59_2 (x0) : keep [1, 2] [(1, .dead), (2, .v U2 x0)] = [(1, .dead), (2, .v U2 x0)] := by kernel_rfl
theorem kp59_3 (x0) : keep [1, 2] [(1, .loc U20 .no x0), (2, .dead)] = [(1, .loc U20 .no x0), (2, .dead)] := by kernel_rfl
theorem hb59_1 (x0 : V22) (x1 : Bool) : boolOf? (ent [(1, .loc U20 .no x0), (6, .v .bool x1)] (.t 6)) = some x1 := by kernel_rfl
def g59_8 {R : Type} (x0 : V22) (k0 : V22 → V6 → Int → Int → Option R) : Option R :=
k0 x0 x0.2.2.1 (x0.2.2.1.length : Int) (0 : Int)
theorem t59_8 {N cl} {R} (K : KE R) (x0) : exec cl N c59_8 [(1, .loc U20 .no x0), (2, .dead)] K = (g59_8 x0 (fun y0 y1 y2 y3 => K .normal [(1, .loc U20 .no y0), (31, .v U0 y1), (32, .v U2 y2), (33, .v U2 y3)])) := by
  kernel_rfl
theorem kp59_4 (x0 x1 x2 x3) : keep [1, 31, 32, 33] [(1, .loc U20 .no x0), (31, .v U0 x1), (32, .v U2 x2), (33, .v U2 x3)] = [(1, .loc U20 .no x0), (31, .v U0 x1), (32, .v U2 x2), (33, .v U2 x3)] := by kernel_rfl
def g59_9 {R : Type} (x0 : V22) (x1 : V6) (x2 : Int) (x3 : Int) (k0 : V22 → V6 → Int → Int → Bool → Option R) : Option R :=
k0 x0 x1 x2 x3 (decide (x3 < x2))
theorem t59_9 {N cl} {R} (K : KE R) (x0 x1 x2 x3) : exec cl N c59_9 [(1, .loc U20 .no x0), (31, .v U0 x1), (32, .v U2 x2), (33, .v U2 x3)] K = (g59_9 x0 x1 x2 x3 (fun y0 y1 y2 y3 y4 => K .normal [(1, .loc U20 .no y0), (31, .v U0 y1), (32, .v U2 y2), (33, .v U2 y3), (34, .v .bool y4)])) := by
  kernel_rfl
theorem kp59_5 (x0 x1 x2 x3 x4) : keep [1, 31, 32, 33] [(1, .loc U20 .no x0), (31, .v U0 x1), (32, .v U2 x2), (33, .v U2 x3), (34, .v .bool x4)] = [(1, .loc U20 .no x0), (31, .v U0 x1), (32, .v U2 x2), (33, .v U2 x3)] := by kernel_rfl
theorem hb59_2 (x0 : V22) (x1 : V6) (x2 : Int) (x3 : Int) (x4 : Bool) : boolOf? (ent [(1, .loc U20 .no x0), (31, .v U0 x1), (32, .v U2 x2), (33, .v U2 x3), (34, .v .bool x4)] (.t 34)) = some x4 := by kernel_rfl
def g59_11 {R : Type} (x0 : V22) (x1 : V6) (x2 : Int) (x3 : Int) (k0 : V22 → Int → V1 → V6 → Int → Int → Option R) : Option R :=
if 0 ≤ x3 ∧ x3 < (x1.length : Int) then
k0 x0 x3 (x1.getD x3.toNat []) x1 x2 x3
else none
theorem t59_11 {N cl} {R} (K : KE R) (x0 x1 x2 x3) : exec cl N c59_11 [(1, .loc U20 .no x0), (31, .v U0 x1), (32, .v U2 x2), (33, .v U2 x3)] K = (g59_11 x0 x1 x2 x3 (fun y0 y1 y2 y3 y4 y5 => K .normal [(1, .loc U20 .no y0), (3, .v U2 y1), (4, .v .str y2), (31, .v U0 y3), (32, .v U2 y4), (33, .v U2 y5)])) := by
  kernel_rfl
def g59_12 {R : Type} (S83 : V1 → Option (Int)) (x0 : V22) (x1 : Int) (x2 : V1) (x3 : V6) (x4 : Int) (x5 : Int) (k0 : V22 → Int → V1 → Int → V6 → Int → Int → Option R) : Option R :=
(S83 x2).bind fun r248 =>
k0 x0 x1 x2 r248 x3 x4 x5
theorem t59_12 {N cl} (S83) (h83 : (ctr83 S83).holds cl) {R} (K : KE R) (x0 x1 x2 x3 x4 x5) : exec cl N c59_12 [(1, .loc U20 .no x0), (3, .v U2 x1), (4, .v .str x2), (31, .v U0 x3), (32, .v U2 x4), (33, .v U2 x5)] K = (g59_12 S83 x0 x1 x2 x3 x4 x5 (fun y0 y1 y2 y3 y4 y5 y6 => K .normal [(1, .loc U20 .no y0), (3, .v U2 y1), (4, .v .str y2), (5, .v U2 y3), (31, .v U0 y4), (32, .v U2 y5), (33, .v U2 y6)])) := by
  rw [← put_eq h83]
  kernel_rfl
def g59_13 {R : Type} (x0 : V22) (x1 : Int) (x2 : V1) (x3 : Int) (x4 : V6) (x5 : Int) (x6 : Int) (k0 : V22 → Int → V1 → Int → V6 → Int → Int → Bool → Option R) : Option R :=
k0 x0 x1 x2 x3 x4 x5 x6 (x3 != (0 : Int))
theorem t59_13 {N cl} {R} (K : KE R) (x0 x1 x2 x3 x4 x5 x6) : exec cl N c59_13 [(1, .loc U20 .no x0), (3, .v U2 x1), (4, .v .str x2), (5, .v U2 x3), (31, .v U0 x4), (32, .v U2 x5), (33, .v U2 x6)] K = (g59_13 x0 x1 x2 x3 x4 x5 x6 (fun y0 y1 y2 y3 y4 y5 y6 y7 => K .normal [(1, .loc U20 .no y0), (3, .v U2 y1), (4, .v .str y2), (5, .v U2 y3), (31, .v U0 y4), (32, .v U2 y5), (33, .v U2 y6), (41, .v .bool y7)])) := by
  kernel_rfl
def g59_14 {R : Type} (x0 : V22) (x1 : Int) (x2 : V1) (x3 : Int) (x4 : V6) (x5 : Int) (x6 : Int) (x7 : Bool) (k0 : Int → Option R) : Option R :=
k0 x3
theorem t59_14 {N cl} {R} (K : KE R) (x0 x1 x2 x3 x4 x5 x6 x7) : exec cl N c59_14 [(1, .loc U20 .no x0), (3, .v U2 x1), (4, .v .str x2), (5, .v U2 x3), (31, .v U0 x4), (32, .v U2 x5), (33, .v U2 x6), (41, .v .bool x7)] K = (g59_14 x0 x1 x2 x3 x4 x5 x6 x7 (fun y0 => K .normal [(2, .v U2 y0)])) := by
  kernel_rfl
theorem kp59_6 (x0) : keep [1, 2, 3, 4, 31, 32, 33] [(2, .v U2 x0)] = [(1, .dead), (2, .v U2 x0), (3, .dead), (4, .dead), (31, .dead), (32, .dead), (33, .dead)] := by kernel_rfl
theorem kp59_7 (x0 x1 x2 x3 x4 x5 x6 x7) : keep [1, 2, 3, 4, 31, 32, 33] [(1, .loc U20 .no x0), (3, .v U2 x1), (4, .v .str x2), (5, .v U2 x3), (31, .v U0 x4), (32, .v U2 x5), (33, .v U2 x6), (41, .v .bool x7)] = [(1, .loc U20 .no x0), (2, .dead), (3, .v U2 x1), (4, .v .str x2), (31, .v U0 x4), (32, .v U2 x5), (33, .v U2 x6)] := by kernel_rfl
theorem hb59_3 (x0 : V22) (x1 : Int) (x2 : V1) (x3 : Int) (x4 : V6) (x5 : Int) (x6 : Int) (x7 : Bool) : boolOf? (ent [(1, .loc U20 .no x0), (3, .v U2 x1), (4, .v .str x2), (5, .v U2 x3), (31, .v U0 x4), (32, .v U2 x5), (33, .v U2 x6), (41, .v .bool x7)] (.t 41)) = some x7 := by kernel_rfl
def g59_16 {R : Type} (S84 : V6 → V1 → Option (Bool)) (x0 : V22) (x1 : Int) (x2 : V1) (x3 : V6) (x4 : Int) (x5 : Int) (k0 : V22 → V6 → Int → Int → Bool → Option R) : Option R :=
if 0 ≤ (0 : Int) ∧ (0 : Int) ≤ x1 ∧ x1 ≤ (x0.2.2.1.length : Int) ∧ (x0.2.2.1.length : Int) ≤ (x0.2.2.1.length : Int) then
(S84 ((x0.2.2.1.drop (0 : Int).toNat).take (x1.toNat - (0 : Int).toNat)) x2).bind fun r251 =>
k0 x0 x3 x4 x5 r251
else none
theorem t59_16 {N cl} (S84) (h84 : (ctr84 S84).holds cl) {R} (K : KE R) (x0 x1 x2 x3 x4 x5) : exec cl N c59_16 [(1, .loc U20 .no x0), (2, .dead), (3, .v U2 x1), (4, .v .str x2), (31, .v U0 x3), (32, .v U2 x4), (33, .v U2 x5)] K = (g59_16 S84 x0 x1 x2 x3 x4 x5 (fun y0 y1 y2 y3 y4 => K .normal [(1, .loc U20 .no y0), (31, .v U0 y1), (32, .v U2 y2), (33, .v U2 y3), (48, .v .bool y4)])) := by
  rw [← put_eq h84]
  kernel_rfl
def g59_17 {R : Type} (x0 : V22) (x1 : V6) (x2 : Int) (x3 : Int) (x4 : Bool) (k0 : Int → Option R) : Option R :=
k0 (5 : Int)
theorem t59_17 {N cl} {R} (K : KE R) (x0 x1 x2 x3 x4) : exec cl N c59_17 [(1, .loc U20 .no x0), (31, .v U0 x1), (32, .v U2 x2), (33, .v U2 x3), (48, .v .bool x4)] K = (g59_17 x0 x1 x2 x3 x4 (fun y0 => K .normal [(2, .v U2 y0)])) := by
  kernel_rfl
theorem kp59_8 (x0) : keep [1, 2, 31, 32, 33] [(2, .v U2 x0)] = [(1, .dead), (2, .v U2 x0), (31, .dead), (32, .dead), (33, .dead)] := by kernel_rfl
theorem kp59_9 (x0 x1 x2 x3 x4) : keep [1, 2, 31, 32, 33] [(1, .loc U20 .no x0), (31, .v U0 x1), (32, .v U2 x2), (33, .v U2 x3), (48, .v .bool x4)] = [(1, .loc U20 .no x0), (2, .dead), (31, .v U0 x1), (32, .v U2 x2), (33, .v U2 x3)] := by kernel_rfl
theorem hb59_4 (x0 : V22) (x1 : V6) (x2 : Int) (x3 : Int) (x4 : Bool) : boolOf? (ent [(1, .loc U20 .no x0), (31, .v U0 x1), (32, .v U2 x2), (33, .v U2 x3), (48, .v .bool x4)] (.t 48)) = some x4 := by kernel_rfl
theorem kp59_10 (x0) : keep [1, 2, 31, 32, 33] [(1, .dead), (2, .v U2 x0), (3, .dead), (4, .dead), (31, .dead), (32, .dead), (33, .dead)] = [(1, .dead), (2, .v U2 x0), (31, .dead), (32, .dead), (33, .dead)] := by kernel_rfl
theorem kp59_11 (x0) : keep [1, 2, 31, 32, 33] [(1, .dead), (2, .v U2 x0), (31, .dead), (32, .dead), (33, .dead)] = [(1, .dead), (2, .v U2 x0), (31, .dead), (32, .dead), (33, .dead)] := by kernel_rfl
theorem kp59_12 (x0 x1 x2 x3) : keep [1, 2, 31, 32, 33] [(1, .loc U20 .no x0), (2, .dead), (31, .v U0 x1), (32, .v U2 x2), (33, .v U2 x3)] = [(1, .loc U20 .no x0), (2, .dead), (31, .v U0 x1), (32, .v U2 x2), (33, .v U2 x3)] := by kernel_rfl
def g59_20 {R : Type} (x0 : V22) (x1 : V6) (x2 : Int) (x3 : Int) (k0 : V22 → V6 → Int → Int → Option R) : Option R :=
k0 x0 x1 x2 (IntKind.i64.wrap (x3 + (1 : Int)))
theorem t59_20 {N cl} {R} (K : KE R) (x0 x1 x2 x3) : exec cl N c59_20 [(1, .loc U20 .no x0), (2, .dead), (31, .v U0 x1), (32, .v U2 x2), (33, .v U2 x3)] K = (g59_20 x0 x1 x2 x3 (fun y0 y1 y2 y3 => K .normal [(1, .loc U20 .no y0), (31, .v U0 y1), (32, .v U2 y2), (33, .v U2 y3)])) := by
  kernel_rfl
def g59_21 {R : Type} (S83 : V1 → Option (Int)) (S84 : V6 → V1 → Option (Bool)) (x0 : V22) (x1 : V6) (x2 : Int) (x3 : Int) (k0 : Int → Option R) (k1 : V22 → V6 → Int → Int → Option R) (k2 : V22 → V6 → Int → Int → Option R) : Option R :=
(g59_9 x0 x1 x2 x3 (fun y0 y1 y2 y3 y4 => brB y4 ((fun y0 y1 y2 y3 => (g59_11 y0 y1 y2 y3 (fun y0 y1 y2 y3 y4 y5 => (g59_12 S83 y0 y1 y2 y3 y4 y5 (fun y0 y1 y2 y3 y4 y5 y6 => (g59_13 y0 y1 y2 y3 y4 y5 y6 (fun y0 y1 y2 y3 y4 y5 y6 y7 => brB y7 (g59_14 y0 y1 y2 y3 y4 y5 y6 y7 (fun y0 => ((fun y0 => (k0 y0)) y0))) ((fun y0 y1 y2 y3 y4 y5 => (g59_16 S84 y0 y1 y2 y3 y4 y5 (fun y0 y1 y2 y3 y4 => brB y4 (g59_17 y0 y1 y2 y3 y4 (fun y0 => ((fun y0 => (k0 y0)) y0))) (g59_20 y0 y1 y2 y3 k1)))) y0 y1 y2 y4 y5 y6)))))))) y0 y1 y2 y3) (k2 y0 y1 y2 y3)))
theorem t59_21 {N cl} (S83) (S84) (h83 : (ctr83 S83).holds cl) (h84 : (ctr84 S84).holds cl) {R} (K : KE R) (x0 x1 x2 x3) : exec cl N c59_21 [(1, .loc U20 .no x0), (31, .v U0 x1), (32, .v U2 x2), (33, .v U2 x3)] K = (g59_21 S83 S84 x0 x1 x2 x3 (fun y0 => K .ret [(1, .dead), (2, .v U2 y0), (31, .dead), (32, .dead), (33, .dead)]) (fun y0 y1 y2 y3 => K .normal [(1, .loc U20 .no y0), (31, .v U0 y1), (32, .v U2 y2), (33, .v U2 y3)]) (fun y0 y1 y2 y3 => K (.exit 1) [(1, .loc U20 .no y0), (31, .v U0 y1), (32, .v U2 y2), (33, .v U2 y3)])) := by
  simp only [c59_21, exec_seq, seqK_normal, seqK_exit, seqK_ret, t59_9, c59_10, exec_out, exec_cond', hb59_2, Option.bind_some, brB_true, brB_false, exec_skip, exec_exit, kp59_5, c59_19, exec_block, t59_11, t59_12 S83 h83, t59_13, c59_15, hb59_3, t59_14, exec_ret, kp59_6, kp59_7, t59_16 S84 h84, c59_18, hb59_4, t59_17, kp59_8, kp59_9, blockK_normal, blockK_ret, blockK_eq, kp59_10, kp59_11, kp59_12, t59_20]
  rfl
def l59_22 {R : Type} (S83 : V1 → Option (Int)) (S84 : V6 → V1 → Option (Bool)) (k0 : Int → Option R) (k1 : V22 → V6 → Int → Int → Option R) : Nat → V22 → V6 → Int → Int → Option R
  | 0, _, _, _, _ => none
  | m + 1, x0, x1, x2, x3 => (g59_21 S83 S84 x0 x1 x2 x3 k0 (fun y0 y1 y2 y3 => l59_22 S83 S84 k0 k1 m y0 y1 y2 y3) k1)
theorem lt59_22 {N cl} (S83) (S84) (h83 : (ctr83 S83).holds cl) (h84 : (ctr84 S84).holds cl) {R} (K : KE R) : ∀ (m) (x0 x1 x2 x3), iter [1, 31, 32, 33] (fun env K => exec cl N c59_21 env K) K m [(1, .loc U20 .no x0), (31, .v U0 x1), (32, .v U2 x2), (33, .v U2 x3)] = l59_22 S83 S84 (fun y0 => K .ret [(1, .dead), (2, .v U2 y0), (31, .dead), (32, .dead), (33, .dead)]) (fun y0 y1 y2 y3 => K (.exit 1) [(1, .loc U20 .no y0), (31, .v U0 y1), (32, .v U2 y2), (33, .v U2 y3)]) m x0 x1 x2 x3 := by
  intro m
  induction m with
  | zero => intros; rfl
  | succ m ih =>
    intro x0 x1 x2 x3
    simp only [iter_succ, t59_21 S83 S84 h83 h84, loopK_normal, loopK_exit, loopK_ret, kp59_4, ih]
    rfl
theorem kp59_13 (x0) : keep [2] [(1, .dead), (2, .v U2 x0), (31, .dead), (32, .dead), (33, .dead)] = [(2, .v U2 x0)] := by kernel_rfl
theorem kp59_14 (x0 x1 x2 x3) : keep [2] [(1, .loc U20 .no x0), (31, .v U0 x1), (32, .v U2 x2), (33, .v U2 x3)] = [(2, .dead)] := by kernel_rfl
def g59_22 {R : Type} (N : Nat) (S83 : V1 → Option (Int)) (S84 : V6 → V1 → Option (Bool)) (x0 : V22) (x1 : V6) (x2 : Int) (x3 : Int) (k0 : Int → Option R) (k1 : Option R) : Option R :=
l59_22 S83 S84 (fun y0 => k0 y0) (fun y0 y1 y2 y3 => k1) N x0 x1 x2 x3
theorem t59_22 {N cl} (S83) (S84) (h83 : (ctr83 S83).holds cl) (h84 : (ctr84 S84).holds cl) {R} (K : KE R) (x0 x1 x2 x3) : exec cl N c59_22 [(1, .loc U20 .no x0), (31, .v U0 x1), (32, .v U2 x2), (33, .v U2 x3)] K = (g59_22 N S83 S84 x0 x1 x2 x3 (fun y0 => K .ret [(2, .v U2 y0)]) (K (.exit 1) [(2, .dead)])) := by
  simp only [c59_22, exec_out, exec_loop, kp59_4, lt59_22 S83 S84 h83 h84, kp59_13, kp59_14]
  rfl
theorem kp59_15 (x0) : keep [2] [(2, .v U2 x0)] = [(2, .v U2 x0)] := by kernel_rfl
theorem kp59_16 : keep [2] [(2, .dead)] = [(2, .dead)] := by kernel_rfl
def g59_24 {R : Type} (k0 : Int → Option R) : Option R :=
k0 (0 : Int)
theorem t59_24 {N cl} {R} (K : KE R) : exec cl N c59_24 [(2, .dead)] K = (g59_24 (fun y0 => K .normal [(2, .v U2 y0)])) := by
  kernel_rfl
def g59_25 {R : Type} (N : Nat) (S83 : V1 → Option (Int)) (S84 : V6 → V1 → Option (Bool)) (x0 : V22) (k0 : Int → Option R) (k1 : Int → Option R) : Option R :=
(g59_0 x0 (fun y0 => (g59_1 y0 (fun y0 y1 => brB y1 (g59_2 y0 y1 (fun y0 => ((fun y0 => (k0 y0)) y0))) (g59_3 y0 y1 (fun y0 y1 => brB y1 (g59_4 y0 y1 (fun y0 => ((fun y0 => (k0 y0)) y0))) ((fun y0 => ((fun y0 => ((fun y0 => (g59_8 y0 (fun y0 y1 y2 y3 => (g59_22 N S83 S84 y0 y1 y2 y3 (fun y0 => (k1 y0)) (g59_24 (fun y0 => (k1 y0))))))) y0)) y0)) y0)))))))
theorem t59_25 {N cl} (S83) (S84) (h83 : (ctr83 S83).holds cl) (h84 : (ctr84 S84).holds cl) {R} (K : KE R) (x0) : exec cl N c59_25 [(0, .v U20 x0)] K = (g59_25 N S83 S84 x0 (fun y0 => K .ret [(1, .dead), (2, .v U2 y0)]) (fun y0 => K .ret [(2, .v U2 y0)])) := by
  simp only [c59_25, exec_seq, seqK_normal, seqK_exit, seqK_ret, t59_0, c59_7, exec_out, exec_block, t59_1, c59_6, exec_cond', hb59_1, Option.bind_some, brB_true, brB_false, t59_2, exec_ret, t59_3, c59_5, hb59_0, t59_4, exec_skip, kp59_0, kp59_1, kp59_2, kp59_3, blockK_normal, blockK_ret, blockK_eq, t59_8, c59_23, t59_22 S83 S84 h83 h84, kp59_15, kp59_16, t59_24]
  rfl
theorem rk59_0 (y0 : Int) : retK d59 .ret [(1, .dead), (2, .v U2 y0)] = some [.v U2 y0] := by kernel_rfl
theorem rk59_1 (y0 : Int) : retK d59 .ret [(2, .v U2 y0)] = some [.v U2 y0] := by kernel_rfl
def g59 {R : Type} (N : Nat) (S83 : V1 → Option (Int)) (S84 : V6 → V1 → Option (Bool)) (x0 : V22) (k : Int → Option R) : Option R :=
(g59_25 N S83 S84 x0 (fun y0 => k y0) (fun y0 => k y0))
theorem gen59 {N : Nat} {cl : Cal} (S83 : V1 → Option (Int)) (S84 : V6 → V1 → Option (Bool)) (h83 : (ctr83 S83).holds cl) (h84 : (ctr84 S84).holds cl) (x0 : V22) {R : Type} (k : List E → Option R) : exec cl N c59 (params 0 [.v U20 x0]) (fun e env => (retK d59 e env).bind k) = g59 N S83 S84 x0 (fun (r0 : Int) => k [.v U2 r0]) := by
  have e0 : params 0 [.v U20 x0] = [(0, .v U20 x0)] := by kernel_rfl
  simp only [c59, e0, t59_25 S83 S84 h83 h84, rk59_0, rk59_1, Option.bind_some]
  rfl
def ctr59 (S : V22 → Option (Int)) : Ctr := { A := V22 × Unit, B := Int, f := 59, enc := fun a => [.v U20 a.1], dec := (decC (decV U20) dec0), S := fun a => S a.1, ent := fun b => [.v U2 b], ok := (decV_cons (T := U20) (fun es b h => dec0_some h)) }
def S59 (N : Nat) (x0 : V22) : Option (Int) := g59 N (S83 N) (S84 N) x0 (fun (r0 : Int) => some (r0))
def g32_0 {R : Type} (x0 : V29) (k0 : V29 → Option R) : Option R :=
k0 x0
theorem t32_0 {N cl} {R} (K : KE R) (x0) : exec cl N c32_0 [(0, .v U27 x0)] K = (g32_0 x0 (fun y0 => K .normal [(1, .loc U27 .no y0)])) := by
  kernel_rfl
def g32_1 {R : Type} (S58 : V1 → Option (Bool)) (x0 : V29) (k0 : V29 → Bool → Option R) : Option R :=
(S58 x0.1).bind fun r256 =>
k0 x0 (!r256)
theorem t32_1 {N cl} (S58) (h58 : (ctr58 S58).holds cl) {R} (K : KE R) (x0) : exec cl N c32_1 [(1, .loc U27 .no x0)] K = (g32_1 S58 x0 (fun y0 y1 => K .normal [(1, .loc U27 .no y0), (6, .v .bool y1)])) := by
  rw [← put_eq h58]
  kernel_rfl
def g32_2 {R : Type} (x0 : V29) (x1 : Bool) (k0 : Int → Option R) : Option R :=
k0 (2 : Int)
theorem t32_2 {N cl} {R} (K : KE R) (x0 x1) : exec cl N c32_2 [(1, .loc U27 .no x0), (6, .v .bool x1)] K = (g32_2 x0 x1 (fun y0 => K .normal [(2, .v U2 y0)])) := by
  kernel_rfl
theorem kp32_0 (x0) : keep [1, 2] [(2, .v U2 x0)] = [(1, .dead), (2, .v U2 x0)] := by kernel_rfl
def g32_3 {R : Type} (x0 : V29) (x1 : Bool) (k0 : V29 → Bool → Option R) : Option R :=
k0 x0 (decide ((x0.2.1.length : Int) > (30 : Int)))
theorem t32_3 {N cl} {R} (K : KE R) (x0 x1) : exec cl N c32_3 [(1, .loc U27 .no x0), (6, .v .bool x1)] K = (g32_3 x0 x1 (fun y0 y1 => K .normal [(1, .loc U27 .no y0), (11, .v .bool y1)])) := by
  kernel_rfl
def g32_4 {R : Type} (x0 : V29) (x1 : Bool) (k0 : Int → Option R) : Option R :=
k0 (3 : Int)
theorem t32_4 {N cl} {R} (K : KE R) (x0 x1) : exec cl N c32_4 [(1, .loc U27 .no x0), (11, .v .bool x1)] K = (g32_4 x0 x1 (fun y0 => K .normal [(2, .v U2 y0)])) := by
  kernel_rfl
theorem kp32_1 (x0 x1) : keep [1, 2] [(1, .loc U27 .no x0), (11, .v .bool x1)] = [(1, .loc U27 .no x0), (2, .dead)] := by kernel_rfl
theorem hb32_0 (x0 : V29) (x1 : Bool) : boolOf? (ent [(1, .loc U27 .no x0), (11, .v .bool x1)] (.t 11)) = some x1 := by kernel_rfl
theorem kp32_2 (x0) : keep [1, 2] [(1, .dead), (2, .v U2 x0)] = [(1, .dead), (2, .v U2 x0)] := by kernel_rfl
theorem kp32_3 (x0) : keep [1, 2] [(1, .loc U27 .no x0), (2, .dead)] = [(1, .loc U27 .no x0), (2, .dead)] := by kernel_rfl
theorem hb32_1 (x0 : V29) (x1 : Bool) : boolOf? (ent [(1, .loc U27 .no x0), (6, .v .bool x1)] (.t 6)) = some x1 := by kernel_rfl
def g32_8 {R : Type} (x0 : V29) (k0 : V25 → Int → Int → Option R) : Option R :=
k0 x0.2.1 (x0.2.1.length : Int) (0 : Int)
theorem t32_8 {N cl} {R} (K : KE R) (x0) : exec cl N c32_8 [(1, .loc U27 .no x0), (2, .dead)] K = (g32_8 x0 (fun y0 y1 y2 => K .normal [(17, .v U22 y0), (18, .v U2 y1), (19, .v U2 y2)])) := by
  kernel_rfl
theorem kp32_4 (x0 x1 x2) : keep [17, 18, 19] [(17, .v U22 x0), (18, .v U2 x1), (19, .v U2 x2)] = [(17, .v U22 x0), (18, .v U2 x1), (19, .v U2 x2)] := by kernel_rfl
def g32_9 {R : Type} (x0 : V25) (x1 : Int) (x2 : Int) (k0 : V25 → Int → Int → Bool → Option R) : Option R :=
k0 x0 x1 x2 (decide (x2 < x1))
theorem t32_9 {N cl} {R} (K : KE R) (x0 x1 x2) : exec cl N c32_9 [(17, .v U22 x0), (18, .v U2 x1), (19, .v U2 x2)] K = (g32_9 x0 x1 x2 (fun y0 y1 y2 y3 => K .normal [(17, .v U22 y0), (18, .v U2 y1), (19, .v U2 y2), (20, .v .bool y3)])) := by
  kernel_rfl
theorem kp32_5 (x0 x1 x2 x3) : keep [17, 18, 19] [(17, .v U22 x0), (18, .v U2 x1), (19, .v U2 x2), (20, .v .bool x3)] = [(17, .v U22 x0), (18, .v U2 x1), (19, .v U2 x2)] := by kernel_rfl
theorem hb32_2 (x0 : V25) (x1 : Int) (x2 : Int) (x3 : Bool) : boolOf? (ent [(17, .v U22 x0), (18, .v U2 x1), (19, .v U2 x2), (20, .v .bool x3)] (.t 20)) = some x3 := by kernel_rfl
def g32_11 {R : Type} (x0 : V25) (x1 : Int) (x2 : Int) (k0 : V22 → V25 → Int → Int → Option R) : Option R :=
if 0 ≤ x2 ∧ x2 < (x0.length : Int) then
k0 (x0.getD x2.toNat ((0 : Int), ((0 : Int), ([], ())))) x0 x1 x2
else none
theorem t32_11 {N cl} {R} (K : KE R) (x0 x1 x2) : exec cl N c32_11 [(17, .v U22 x0), (18, .v U2 x1), (19, .v U2 x2)] K = (g32_11 x0 x1 x2 (fun y0 y1 y2 y3 => K .normal [(4, .loc U20 .no y0), (17, .v U22 y1), (18, .v U2 y2), (19, .v U2 y3)])) := by
  kernel_rfl
def g32_12 {R : Type} (S59 : V22 → Option (Int)) (x0 : V22) (x1 : V25) (x2 : Int) (x3 : Int) (k0 : Int → V25 → Int → Int → Option R) : Option R :=
(S59 x0).bind fun r259 =>
k0 r259 x1 x2 x3
theorem t32_12 {N cl} (S59) (h59 : (ctr59 S59).holds cl) {R} (K : KE R) (x0 x1 x2 x3) : exec cl N c32_12 [(4, .loc U20 .no x0), (17, .v U22 x1), (18, .v U2 x2), (19, .v U2 x3)] K = (g32_12 S59 x0 x1 x2 x3 (fun y0 y1 y2 y3 => K .normal [(5, .v U2 y0), (17, .v U22 y1), (18, .v U2 y2), (19, .v U2 y3)])) := by
  rw [← put_eq h59]
  kernel_rfl
def g32_13 {R : Type} (x0 : Int) (x1 : V25) (x2 : Int) (x3 : Int) (k0 : Int → V25 → Int → Int → Bool → Option R) : Option R :=
k0 x0 x1 x2 x3 (x0 != (0 : Int))
theorem t32_13 {N cl} {R} (K : KE R) (x0 x1 x2 x3) : exec cl N c32_13 [(5, .v U2 x0), (17, .v U22 x1), (18, .v U2 x2), (19, .v U2 x3)] K = (g32_13 x0 x1 x2 x3 (fun y0 y1 y2 y3 y4 => K .normal [(5, .v U2 y0), (17, .v U22 y1), (18, .v U2 y2), (19, .v U2 y3), (26, .v .bool y4)])) := by
  kernel_rfl
def g32_14 {R : Type} (x0 : Int) (x1 : V25) (x2 : Int) (x3 : Int) (x4 : Bool) (k0 : Int → Option R) : Option R :=
k0 x0
theorem t32_14 {N cl} {R} (K : KE R) (x0 x1 x2 x3 x4) : exec cl N c32_14 [(5, .v U2 x0), (17, .v U22 x1), (18, .v U2 x2), (19, .v U2 x3), (26, .v .bool x4)] K = (g32_14 x0 x1 x2 x3 x4 (fun y0 => K .normal [(2, .v U2 y0)])) := by
  kernel_rfl
theorem kp32_6 (x0) : keep [2, 17, 18, 19] [(2, .v U2 x0)] = [(2, .v U2 x0), (17, .dead), (18, .dead), (19, .dead)] := by kernel_rfl
theorem kp32_7 (x0 x1 x2 x3 x4) : keep [2, 17, 18, 19] [(5, .v U2 x0), (17, .v U22 x1), (18, .v U2 x2), (19, .v U2 x3), (26, .v .bool x4)] = [(2, .dead), (17, .v U22 x1), (18, .v U2 x2), (19, .v U2 x3)] := by kernel_rfl
theorem hb32_3 (x0 : Int) (x1 : V25) (x2 : Int) (x3 : Int) (x4 : Bool) : boolOf? (ent [(5, .v U2 x0), (17, .v U22 x1), (18, .v U2 x2), (19, .v U2 x3), (26, .v .bool x4)] (.t 26)) = some x4 := by kernel_rfl
theorem kp32_8 (x0) : keep [2, 17, 18, 19] [(2, .v U2 x0), (17, .dead), (18, .dead), (19, .dead)] = [(2, .v U2 x0), (17, .dead), (18, .dead), (19, .dead)] := by kernel_rfl
theorem kp32_9 (x0 x1 x2) : keep [2, 17, 18, 19] [(2, .dead), (17, .v U22 x0), (18, .v U2 x1), (19, .v U2 x2)] = [(2, .dead), (17, .v U22 x0), (18, .v U2 x1), (19, .v U2 x2)] := by kernel_rfl
def g32_17 {R : Type} (x0 : V25) (x1 : Int) (x2 : Int) (k0 : V25 → Int → Int → Option R) : Option R :=
k0 x0 x1 (IntKind.i64.wrap (x2 + (1 : Int)))
theorem t32_17 {N cl} {R} (K : KE R) (x0 x1 x2) : exec cl N c32_17 [(2, .dead), (17, .v U22 x0), (18, .v U2 x1), (19, .v U2 x2)] K = (g32_17 x0 x1 x2 (fun y0 y1 y2 => K .normal [(17, .v U22 y0), (18, .v U2 y1), (19, .v U2 y2)])) := by
  kernel_rfl
def g32_18 {R : Type} (S59 : V22 → Option (Int)) (x0 : V25) (x1 : Int) (x2 : Int) (k0 : Int → Option R) (k1 : V25 → Int → Int → Option R) (k2 : V25 → Int → Int → Option R) : Option R :=
(g32_9 x0 x1 x2 (fun y0 y1 y2 y3 => brB y3 ((fun y0 y1 y2 => (g32_11 y0 y1 y2 (fun y0 y1 y2 y3 => (g32_12 S59 y0 y1 y2 y3 (fun y0 y1 y2 y3 => (g32_13 y0 y1 y2 y3 (fun y0 y1 y2 y3 y4 => brB y4 (g32_14 y0 y1 y2 y3 y4 (fun y0 => ((fun y0 => (k0 y0)) y0))) (g32_17 y1 y2 y3 k1)))))))) y0 y1 y2) (k2 y0 y1 y2)))
theorem t32_18 {N cl} (S59) (h59 : (ctr59 S59).holds cl) {R} (K : KE R) (x0 x1 x2) : exec cl N c32_18 [(17, .v U22 x0), (18, .v U2 x1), (19, .v U2 x2)] K = (g32_18 S59 x0 x1 x2 (fun y0 => K .ret [(2, .v U2 y0), (17, .dead), (18, .dead), (19, .dead)]) (fun y0 y1 y2 => K .normal [(17, .v U22 y0), (18, .v U2 y1), (19, .v U2 y2)]) (fun y0 y1 y2 => K (.exit 1) [(17, .v U22 y0), (18, .v U2 y1), (19, .v U2 y2)])) := by
  simp only [c32_18, exec_seq, seqK_normal, seqK_exit, seqK_ret, t32_9, c32_10, exec_out, exec_cond', hb32_2, Option.bind_some, brB_true, brB_false, exec_skip, exec_exit, kp32_5, c32_16, exec_block, t32_11, t32_12 S59 h59, t32_13, c32_15, hb32_3, t32_14, exec_ret, kp32_6, kp32_7, blockK_normal, blockK_ret, blockK_eq, kp32_8, kp32_9, t32_17]
  rfl
def l32_19 {R : Type} (S59 : V22 → Option (Int)) (k0 : Int → Option R) (k1 : V25 → Int → Int → Option R) : Nat → V25 → Int → Int → Option R
  | 0, _, _, _ => none
  | m + 1, x0, x1, x2 => (g32_18 S59 x0 x1 x2 k0 (fun y0 y1 y2 => l32_19 S59 k0 k1 m y0 y1 y2) k1)
theorem lt32_19 {N cl} (S59) (h59 : (ctr59 S59).holds cl) {R} (K : KE R) : ∀ (m) (x0 x1 x2), iter [17, 18, 19] (fun env K => exec cl N c32_18 env K) K m [(17, .v U22 x0), (18, .v U2 x1), (19, .v U2 x2)] = l32_19 S59 (fun y0 => K .ret [(2, .v U2 y0), (17, .dead), (18, .dead), (19, .dead)]) (fun y0 y1 y2 => K (.exit 1) [(17, .v U22 y0), (18, .v U2 y1), (19, .v U2 y2)]) m x0 x1 x2 := by
  intro m
  induction m with
  | zero => intros; rfl
  | succ m ih =>
    intro x0 x1 x2
    simp only [iter_succ, t32_18 S59 h59, loopK_normal, loopK_exit, loopK_ret, kp32_4, ih]
    rfl
theorem kp32_10 (x0) : keep [2] [(2, .v U2 x0), (17, .dead), (18, .dead), (19, .dead)] = [(2, .v U2 x0)] := by kernel_rfl
theorem kp32_11 (x0 x1 x2) : keep [2] [(17, .v U22 x0), (18, .v U2 x1), (19, .v U2 x2)] = [(2, .dead)] := by kernel_rfl
def g32_19 {R : Type} (N : Nat) (S59 : V22 → Option (Int)) (x0 : V25) (x1 : Int) (x2 : Int) (k0 : Int → Option R) (k1 : Option R) : Option R :=
l32_19 S59 (fun y0 => k0 y0) (fun y0 y1 y2 => k1) N x0 x1 x2
theorem t32_19 {N cl} (S59) (h59 : (ctr59 S59).holds cl) {R} (K : KE R) (x0 x1 x2) : exec cl N c32_19 [(17, .v U22 x0), (18, .v U2 x1), (19, .v U2 x2)] K = (g32_19 N S59 x0 x1 x2 (fun y0 => K .ret [(2, .v U2 y0)]) (K (.exit 1) [(2, .dead)])) := by
  simp only [c32_19, exec_out, exec_loop, kp32_4, lt32_19 S59 h59, kp32_10, kp32_11]
  rfl
theorem kp32_12 (x0) : keep [2] [(2, .v U2 x0)] = [(2, .v U2 x0)] := by kernel_rfl
theorem kp32_13 : keep [2] [(2, .dead)] = [(2, .dead)] := by kernel_rfl
def g32_21 {R : Type} (k0 : Int → Option R) : Option R :=
k0 (0 : Int)
theorem t32_21 {N cl} {R} (K : KE R) : exec cl N c32_21 [(2, .dead)] K = (g32_21 (fun y0 => K .normal [(2, .v U2 y0)])) := by
  kernel_rfl
def g32_22 {R : Type} (N : Nat) (S58 : V1 → Option (Bool)) (S59 : V22 → Option (Int)) (x0 : V29) (k0 : Int → Option R) (k1 : Int → Option R) : Option R :=
(g32_0 x0 (fun y0 => (g32_1 S58 y0 (fun y0 y1 => brB y1 (g32_2 y0 y1 (fun y0 => ((fun y0 => (k0 y0)) y0))) (g32_3 y0 y1 (fun y0 y1 => brB y1 (g32_4 y0 y1 (fun y0 => ((fun y0 => (k0 y0)) y0))) ((fun y0 => ((fun y0 => ((fun y0 => (g32_8 y0 (fun y0 y1 y2 => (g32_19 N S59 y0 y1 y2 (fun y0 => (k1 y0)) (g32_21 (fun y0 => (k1 y0))))))) y0)) y0)) y0)))))))
theorem t32_22 {N cl} (S58) (S59) (h58 : (ctr58 S58).holds cl) (h59 : (ctr59 S59).holds cl) {R} (K : KE R) (x0) : exec cl N c32_22 [(0, .v U27 x0)] K = (g32_22 N S58 S59 x0 (fun y0 => K .ret [(1, .dead), (2, .v U2 y0)]) (fun y0 => K .ret [(2, .v U2 y0)])) := by
  simp only [c32_22, exec_seq, seqK_normal, seqK_exit, seqK_ret, t32_0, c32_7, exec_out, exec_block, t32_1 S58 h58, c32_6, exec_cond', hb32_1, Option.bind_some, brB_true, brB_false, t32_2, exec_ret, t32_3, c32_5, hb32_0, t32_4, exec_skip, kp32_0, kp32_1, kp32_2, kp32_3, blockK_normal, blockK_ret, blockK_eq, t32_8, c32_20, t32_19 S59 h59, kp32_12, kp32_13, t32_21]
  rfl
theorem rk32_0 (y0 : Int) : retK d32 .ret [(1, .dead), (2, .v U2 y0)] = some [.v U2 y0] := by kernel_rfl
theorem rk32_1 (y0 : Int) : retK d32 .ret [(2, .v U2 y0)] = some [.v U2 y0] := by kernel_rfl
def g32 {R : Type} (N : Nat) (S58 : V1 → Option (Bool)) (S59 : V22 → Option (Int)) (x0 : V29) (k : Int → Option R) : Option R :=
(g32_22 N S58 S59 x0 (fun y0 => k y0) (fun y0 => k y0))
theorem gen32 {N : Nat} {cl : Cal} (S58 : V1 → Option (Bool)) (S59 : V22 → Option (Int)) (h58 : (ctr58 S58).holds cl) (h59 : (ctr59 S59).holds cl) (x0 : V29) {R : Type} (k : List E → Option R) : exec cl N c32 (params 0 [.v U27 x0]) (fun e env => (retK d32 e env).bind k) = g32 N S58 S59 x0 (fun (r0 : Int) => k [.v U2 r0]) := by
  have e0 : params 0 [.v U27 x0] = [(0, .v U27 x0)] := by kernel_rfl
  simp only [c32, e0, t32_22 S58 S59 h58 h59, rk32_0, rk32_1, Option.bind_some]
  rfl
def ctr32 (S : V29 → Option (Int)) : Ctr := { A := V29 × Unit, B := Int, f := 32, enc := fun a => [.v U27 a.1], dec := (decC (decV U27) dec0), S := fun a => S a.1, ent := fun b => [.v U2 b], ok := (decV_cons (T := U27) (fun es b h => dec0_some h)) }
def S32 (N : Nat) (x0 : V29) : Option (Int) := g32 N (S58 N) (S59 N) x0 (fun (r0 : Int) => some (r0))
def g97_0 {R : Type} (x0 : V19) (k0 : V19 → Option R) : Option R :=
k0 x0
theorem t97_0 {N cl} {R} (K : KE R) (x0) : exec cl N c97_0 [(0, .v U17 x0)] K = (g97_0 x0 (fun y0 => K .normal [(1, .loc U17 .no y0)])) := by
  kernel_rfl
def g97_1 {R : Type} (x0 : V19) (k0 : V19 → Int → Option R) : Option R :=
k0 x0 x0.1
theorem t97_1 {N cl} {R} (K : KE R) (x0) : exec cl N c97_1 [(1, .loc U17 .no x0)] K = (g97_1 x0 (fun y0 y1 => K .normal [(1, .loc U17 .no y0), (4, .v U2 y1)])) := by
  kernel_rfl
def g97_2 {R : Type} (x0 : V19) (x1 : Int) (k0 : V19 → Int → Bool → Option R) : Option R :=
k0 x0 x1 (x1 == (1 : Int))
theorem t97_2 {N cl} {R} (K : KE R) (x0 x1) : exec cl N c97_2 [(1, .loc U17 .no x0), (4, .v U2 x1)] K = (g97_2 x0 x1 (fun y0 y1 y2 => K .normal [(1, .loc U17 .no y0), (4, .v U2 y1), (5, .v .bool y2)])) := by
  kernel_rfl
def g97_3 {R : Type} (x0 : V19) (x1 : Int) (x2 : Bool) (k0 : Bool → Option R) : Option R :=
brB (decide (x0.2.1 ≥ (1 : Int))) (k0 (decide (x0.2.1 ≤ (3 : Int)))) (k0 false)
theorem t97_3 {N cl} {R} (K : KE R) (x0 x1 x2) : exec cl N c97_3 [(1, .loc U17 .no x0), (4, .v U2 x1), (5, .v .bool x2)] K = (g97_3 x0 x1 x2 (fun y0 => K .normal [(2, .v .bool y0)])) := by
  kernel_rfl
theorem kp97_0 (x0) : keep [1, 2] [(2, .v .bool x0)] = [(1, .dead), (2, .v .bool x0)] := by kernel_rfl
def g97_4 {R : Type} (x0 : V19) (x1 : Int) (x2 : Bool) (k0 : V19 → Bool → Option R) : Option R :=
k0 x0 (x1 == (2 : Int))
theorem t97_4 {N cl} {R} (K : KE R) (x0 x1 x2) : exec cl N c97_4 [(1, .loc U17 .no x0), (4, .v U2 x1), (5, .v .bool x2)] K = (g97_4 x0 x1 x2 (fun y0 y1 => K .normal [(1, .loc U17 .no y0), (15, .v .bool y1)])) := by
  kernel_rfl
def g97_5 {R : Type} (x0 : V19) (x1 : Bool) (k0 : Bool → Option R) : Option R :=
k0 (x0.2.1 == (2 : Int))
theorem t97_5 {N cl} {R} (K : KE R) (x0 x1) : exec cl N c97_5 [(1, .loc U17 .no x0), (15, .v .bool x1)] K = (g97_5 x0 x1 (fun y0 => K .normal [(2, .v .bool y0)])) := by
  kernel_rfl
theorem kp97_1 (x0 x1) : keep [1, 2] [(1, .loc U17 .no x0), (15, .v .bool x1)] = [(1, .loc U17 .no x0), (2, .dead)] := by kernel_rfl
theorem hb97_0 (x0 : V19) (x1 : Bool) : boolOf? (ent [(1, .loc U17 .no x0), (15, .v .bool x1)] (.t 15)) = some x1 := by kernel_rfl
theorem kp97_2 (x0) : keep [1, 2] [(1, .dead), (2, .v .bool x0)] = [(1, .dead), (2, .v .bool x0)] := by kernel_rfl
theorem kp97_3 (x0) : keep [1, 2] [(1, .loc U17 .no x0), (2, .dead)] = [(1, .loc U17 .no x0), (2, .dead)] := by kernel_rfl
theorem hb97_1 (x0 : V19) (x1 : Int) (x2 : Bool) : boolOf? (ent [(1, .loc U17 .no x0), (4, .v U2 x1), (5, .v .bool x2)] (.t 5)) = some x2 := by kernel_rfl
def g97_9 {R : Type} (x0 : V19) (k0 : Bool → Option R) : Option R :=
k0 (x0.2.1 == (0 : Int))
theorem t97_9 {N cl} {R} (K : KE R) (x0) : exec cl N c97_9 [(1, .loc U17 .no x0), (2, .dead)] K = (g97_9 x0 (fun y0 => K .normal [(2, .v .bool y0)])) := by
  kernel_rfl
def g97_10 {R : Type} (x0 : V19) (k0 : Bool → Option R) (k1 : Bool → Option R) : Option R :=
(g97_0 x0 (fun y0 => (g97_1 y0 (fun y0 y1 => (g97_2 y0 y1 (fun y0 y1 y2 => brB y2 (g97_3 y0 y1 y2 (fun y0 => ((fun y0 => (k0 y0)) y0))) (g97_4 y0 y1 y2 (fun y0 y1 => brB y1 (g97_5 y0 y1 (fun y0 => ((fun y0 => (k0 y0)) y0))) ((fun y0 => ((fun y0 => ((fun y0 => (g97_9 y0 (fun y0 => (k1 y0)))) y0)) y0)) y0)))))))))
theorem t97_10 {N cl} {R} (K : KE R) (x0) : exec cl N c97_10 [(0, .v U17 x0)] K = (g97_10 x0 (fun y0 => K .ret [(1, .dead), (2, .v .bool y0)]) (fun y0 => K .ret [(2, .v .bool y0)])) := by
  simp only [c97_10, exec_seq, seqK_normal, seqK_exit, seqK_ret, t97_0, t97_1, c97_8, exec_out, exec_block, t97_2, c97_7, exec_cond', hb97_1, Option.bind_some, brB_true, brB_false, t97_3, exec_ret, t97_4, c97_6, hb97_0, t97_5, exec_skip, kp97_0, kp97_1, kp97_2, kp97_3, blockK_normal, blockK_ret, blockK_eq, t97_9]
  rfl
theorem rk97_0 (y0 : Bool) : retK d97 .ret [(1, .dead), (2, .v .bool y0)] = some [.v .bool y0] := by kernel_rfl
theorem rk97_1 (y0 : Bool) : retK d97 .ret [(2, .v .bool y0)] = some [.v .bool y0] := by kernel_rfl
def g97 {R : Type} (x0 : V19) (k : Bool → Option R) : Option R :=
(g97_10 x0 (fun y0 => k y0) (fun y0 => k y0))
theorem gen97 {N : Nat} {cl : Cal} (x0 : V19) {R : Type} (k : List E → Option R) : exec cl N c97 (params 0 [.v U17 x0]) (fun e env => (retK d97 e env).bind k) = g97 x0 (fun (r0 : Bool) => k [.v .bool r0]) := by
  have e0 : params 0 [.v U17 x0] = [(0, .v U17 x0)] := by kernel_rfl
  simp only [c97, e0, t97_10, rk97_0, rk97_1, Option.bind_some]
  rfl
def ctr97 (S : V19 → Option (Bool)) : Ctr := { A := V19 × Unit, B := Bool, f := 97, enc := fun a => [.v U17 a.1], dec := (decC (decV U17) dec0), S := fun a => S a.1, ent := fun b => [.v .bool b], ok := (decV_cons (T := U17) (fun es b h => dec0_some h)) }
def S97 (N : Nat) (x0 : V19) : Option (Bool) := g97 x0 (fun (r0 : Bool) => some (r0))
def g100_0 {R : Type} (x0 : Int) (k0 : Int → Option R) : Option R :=
k0 x0
theorem t100_0 {N cl} {R} (K : KE R) (x0) : exec cl N c100_0 [(0, .v U3 x0)] K = (g100_0 x0 (fun y0 => K .normal [(0, .v U3 y0)])) := by
  kernel_rfl
def g100_1 {R : Type} (x0 : Int) (k0 : Bool → Option R) : Option R :=
brB (decide (x0 ≥ (97 : Int))) (brB (decide (x0 ≤ (122 : Int))) (k0 true) (brB (decide (x0 ≥ (48 : Int))) (brB (decide (x0 ≤ (57 : Int))) (k0 true) (brB (x0 == (95 : Int)) (k0 true) (brB (x0 == (94 : Int)) (k0 true) (k0 (x0 == (39 : Int)))))) (brB (x0 == (95 : Int)) (k0 true) (brB (x0 == (94 : Int)) (k0 true) (k0 (x0 == (39 : Int))))))) (brB (decide (x0 ≥ (48 : Int))) (brB (decide (x0 ≤ (57 : Int))) (k0 true) (brB (x0 == (95 : Int)) (k0 true) (brB (x0 == (94 : Int)) (k0 true) (k0 (x0 == (39 : Int)))))) (brB (x0 == (95 : Int)) (k0 true) (brB (x0 == (94 : Int)) (k0 true) (k0 (x0 == (39 : Int))))))
theorem t100_1 {N cl} {R} (K : KE R) (x0) : exec cl N c100_1 [(0, .v U3 x0)] K = (g100_1 x0 (fun y0 => K .normal [(2, .v .bool y0)])) := by
  kernel_rfl
def g100_2 {R : Type} (x0 : Int) (k0 : Bool → Option R) : Option R :=
(g100_0 x0 (fun y0 => (g100_1 y0 (fun y0 => (k0 y0)))))
theorem t100_2 {N cl} {R} (K : KE R) (x0) : exec cl N c100_2 [(0, .v U3 x0)] K = (g100_2 x0 (fun y0 => K .ret [(2, .v .bool y0)])) := by
  simp only [c100_2, exec_seq, seqK_normal, seqK_exit, seqK_ret, t100_0, t100_1, exec_ret]
  rfl
theorem rk100_0 (y0 : Bool) : retK d100 .ret [(2, .v .bool y0)] = some [.v .bool y0] := by kernel_rfl
def g100 {R : Type} (x0 : Int) (k : Bool → Option R) : Option R :=
(g100_2 x0 (fun y0 => k y0))
theorem gen100 {N : Nat} {cl : Cal} (x0 : Int) {R : Type} (k : List E → Option R) : exec cl N c100 (params 0 [.v U3 x0]) (fun e env => (retK d100 e env).bind k) = g100 x0 (fun (r0 : Bool) => k [.v .bool r0]) := by
  have e0 : params 0 [.v U3 x0] = [(0, .v U3 x0)] := by kernel_rfl
  simp only [c100, e0, t100_2, rk100_0, Option.bind_some]
  rfl
def ctr100 (S : Int → Option (Bool)) : Ctr := { A := Int × Unit, B := Bool, f := 100, enc := fun a => [.v U3 a.1], dec := (decC (decV U3) dec0), S := fun a => S a.1, ent := fun b => [.v .bool b], ok := (decV_cons (T := U3) (fun es b h => dec0_some h)) }
def S100 (N : Nat) (x0 : Int) : Option (Bool) := g100 x0 (fun (r0 : Bool) => some (r0))
def g99_0 {R : Type} (x0 : Int) (k0 : Int → Option R) : Option R :=
k0 x0
theorem t99_0 {N cl} {R} (K : KE R) (x0) : exec cl N c99_0 [(0, .v U3 x0)] K = (g99_0 x0 (fun y0 => K .normal [(0, .v U3 y0)])) := by
  kernel_rfl
def g99_1 {R : Type} (S100 : Int → Option (Bool)) (x0 : Int) (k0 : Bool → Option R) : Option R :=
(S100 x0).bind fun r320 =>
k0 (!r320)
theorem t99_1 {N cl} (S100) (h100 : (ctr100 S100).holds cl) {R} (K : KE R) (x0) : exec cl N c99_1 [(0, .v U3 x0)] K = (g99_1 S100 x0 (fun y0 => K .normal [(2, .v .bool y0)])) := by
  rw [← put_eq h100]
  kernel_rfl
def g99_2 {R : Type} (S100 : Int → Option (Bool)) (x0 : Int) (k0 : Bool → Option R) : Option R :=
(g99_0 x0 (fun y0 => (g99_1 S100 y0 (fun y0 => (k0 y0)))))
theorem t99_2 {N cl} (S100) (h100 : (ctr100 S100).holds cl) {R} (K : KE R) (x0) : exec cl N c99_2 [(0, .v U3 x0)] K = (g99_2 S100 x0 (fun y0 => K .ret [(2, .v .bool y0)])) := by
  simp only [c99_2, exec_seq, seqK_normal, seqK_exit, seqK_ret, t99_0, t99_1 S100 h100, exec_ret]
  rfl
theorem rk99_0 (y0 : Bool) : retK d99 .ret [(2, .v .bool y0)] = some [.v .bool y0] := by kernel_rfl
def g99 {R : Type} (S100 : Int → Option (Bool)) (x0 : Int) (k : Bool → Option R) : Option R :=
(g99_2 S100 x0 (fun y0 => k y0))
theorem gen99 {N : Nat} {cl : Cal} (S100 : Int → Option (Bool)) (h100 : (ctr100 S100).holds cl) (x0 : Int) {R : Type} (k : List E → Option R) : exec cl N c99 (params 0 [.v U3 x0]) (fun e env => (retK d99 e env).bind k) = g99 S100 x0 (fun (r0 : Bool) => k [.v .bool r0]) := by
  have e0 : params 0 [.v U3 x0] = [(0, .v U3 x0)] := by kernel_rfl
  simp only [c99, e0, t99_2 S100 h100, rk99_0, Option.bind_some]
  rfl
def ctr99 (S : Int → Option (Bool)) : Ctr := { A := Int × Unit, B := Bool, f := 99, enc := fun a => [.v U3 a.1], dec := (decC (decV U3) dec0), S := fun a => S a.1, ent := fun b => [.v .bool b], ok := (decV_cons (T := U3) (fun es b h => dec0_some h)) }
def S99 (N : Nat) (x0 : Int) : Option (Bool) := g99 (S100 N) x0 (fun (r0 : Bool) => some (r0))
def g118_0 {R : Type} (x0 : V1) (x1 : V13) (x2 : Bool) (k0 : V1 → V13 → Bool → Option R) : Option R :=
k0 x0 x1 x2
theorem t118_0 {N cl} {R} (K : KE R) (x0 x1 x2) : exec cl N c118_0 [(0, .v .str x0), (1, .v U11 x1), (2, .v .bool x2)] K = (g118_0 x0 x1 x2 (fun y0 y1 y2 => K .normal [(0, .v .str y0), (1, .v U11 y1), (2, .v .bool y2)])) := by
  kernel_rfl
def g118_1 {R : Type} (x0 : V1) (x1 : V13) (x2 : Bool) (k0 : V13 → Bool → V1 → Nat → Option R) : Option R :=
k0 x1 x2 x0 (0 : Nat)
theorem t118_1 {N cl} {R} (K : KE R) (x0 x1 x2) : exec cl N c118_1 [(0, .v .str x0), (1, .v U11 x1), (2, .v .bool x2)] K = (g118_1 x0 x1 x2 (fun y0 y1 y2 y3 => K .normal [(1, .v U11 y0), (2, .v .bool y1), (10, .it y2 y3)])) := by
  kernel_rfl
theorem kp118_0 (x0 x1 x2 x3) : keep [1, 2, 10] [(1, .v U11 x0), (2, .v .bool x1), (10, .it x2 x3)] = [(1, .v U11 x0), (2, .v .bool x1), (10, .it x2 x3)] := by kernel_rfl
def g118_2 {R : Type} (x0 : V13) (x1 : Bool) (x2 : V1) (x3 : Nat) (k0 : V13 → Bool → V1 → Nat → Bool → Int → Int → Bool → Option R) (k1 : V13 → Bool → V1 → Nat → Bool → Bool → Option R) : Option R :=
brB (decide (x3 < x2.length)) (k0 x0 x1 x2 (x3 + (Utf8.decode ⟨⟨x2⟩⟩ x3).2) true ((x3 : Nat) : Int) (((Utf8.decode ⟨⟨x2⟩⟩ x3).1 : Nat) : Int) true) (k1 x0 x1 x2 x3 false false)
theorem t118_2 {N cl} {R} (K : KE R) (x0 x1 x2 x3) : exec cl N c118_2 [(1, .v U11 x0), (2, .v .bool x1), (10, .it x2 x3)] K = (g118_2 x0 x1 x2 x3 (fun y0 y1 y2 y3 y4 y5 y6 y7 => K .normal [(1, .v U11 y0), (2, .v .bool y1), (10, .it y2 y3), (11, .tup [.v .bool y4, .v U2 y5, .v U3 y6]), (12, .v .bool y7)]) (fun y0 y1 y2 y3 y4 y5 => K .normal [(1, .v U11 y0), (2, .v .bool y1), (10, .it y2 y3), (11, .tup [.v .bool y4]), (12, .v .bool y5)])) := by
  kernel_rfl
theorem kp118_1 (x0 x1 x2 x3 x4 x5 x6 x7) : keep [1, 2, 10, 11] [(1, .v U11 x0), (2, .v .bool x1), (10, .it x2 x3), (11, .tup [.v .bool x4, .v U2 x5, .v U3 x6]), (12, .v .bool x7)] = [(1, .v U11 x0), (2, .v .bool x1), (10, .it x2 x3), (11, .tup [.v .bool x4, .v U2 x5, .v U3 x6])] := by kernel_rfl
theorem hb118_0 (x0 : V13) (x1 : Bool) (x2 : V1) (x3 : Nat) (x4 : Bool) (x5 : Int) (x6 : Int) (x7 : Bool) : boolOf? (ent [(1, .v U11 x0), (2, .v .bool x1), (10, .it x2 x3), (11, .tup [.v .bool x4, .v U2 x5, .v U3 x6]), (12, .v .bool x7)] (.t 12)) = some x7 := by kernel_rfl
def g118_4 {R : Type} (x0 : V13) (x1 : Bool) (x2 : V1) (x3 : Nat) (x4 : Bool) (x5 : Int) (x6 : Int) (k0 : V13 → Bool → Int → Int → V1 → Nat → Option R) : Option R :=
k0 x0 x1 x5 x6 x2 x3
theorem t118_4 {N cl} {R} (K : KE R) (x0 x1 x2 x3 x4 x5 x6) : exec cl N c118_4 [(1, .v U11 x0), (2, .v .bool x1), (10, .it x2 x3), (11, .tup [.v .bool x4, .v U2 x5, .v U3 x6])] K = (g118_4 x0 x1 x2 x3 x4 x5 x6 (fun y0 y1 y2 y3 y4 y5 => K .normal [(1, .v U11 y0), (2, .v .bool y1), (7, .v U2 y2), (8, .v U3 y3), (10, .it y4 y5)])) := by
  kernel_rfl
def g118_5 {R : Type} (x0 : V13) (x1 : Bool) (x2 : Int) (x3 : Int) (x4 : V1) (x5 : Nat) (k0 : V13 → Bool → Int → V1 → Nat → Bool → Option R) : Option R :=
(x0 (x3, ())).bind fun r326 =>
k0 x0 x1 x2 x4 x5 (r326 == x1)
theorem t118_5 {N cl} {R} (K : KE R) (x0 x1 x2 x3 x4 x5) : exec cl N c118_5 [(1, .v U11 x0), (2, .v .bool x1), (7, .v U2 x2), (8, .v U3 x3), (10, .it x4 x5)] K = (g118_5 x0 x1 x2 x3 x4 x5 (fun y0 y1 y2 y3 y4 y5 => K .normal [(1, .v U11 y0), (2, .v .bool y1), (7, .v U2 y2), (10, .it y3 y4), (19, .v .bool y5)])) := by
  kernel_rfl
def g118_6 {R : Type} (x0 : V13) (x1 : Bool) (x2 : Int) (x3 : V1) (x4 : Nat) (x5 : Bool) (k0 : Int → Option R) : Option R :=
k0 x2
theorem t118_6 {N cl} {R} (K : KE R) (x0 x1 x2 x3 x4 x5) : exec cl N c118_6 [(1, .v U11 x0), (2, .v .bool x1), (7, .v U2 x2), (10, .it x3 x4), (19, .v .bool x5)] K = (g118_6 x0 x1 x2 x3 x4 x5 (fun y0 => K .normal [(6, .v U2 y0)])) := by
  kernel_rfl
theorem kp118_2 (x0) : keep [1, 2, 6, 10] [(6, .v U2 x0)] = [(1, .dead), (2, .dead), (6, .v U2 x0), (10, .dead)] := by kernel_rfl
theorem kp118_3 (x0 x1 x2 x3 x4 x5) : keep [1, 2, 6, 10] [(1, .v U11 x0), (2, .v .bool x1), (7, .v U2 x2), (10, .it x3 x4), (19, .v .bool x5)] = [(1, .v U11 x0), (2, .v .bool x1), (6, .dead), (10, .it x3 x4)] := by kernel_rfl
theorem hb118_1 (x0 : V13) (x1 : Bool) (x2 : Int) (x3 : V1) (x4 : Nat) (x5 : Bool) : boolOf? (ent [(1, .v U11 x0), (2, .v .bool x1), (7, .v U2 x2), (10, .it x3 x4), (19, .v .bool x5)] (.t 19)) = some x5 := by kernel_rfl
theorem kp118_4 (x0) : keep [1, 2, 6, 10] [(1, .dead), (2, .dead), (6, .v U2 x0), (10, .dead)] = [(1, .dead), (2, .dead), (6, .v U2 x0), (10, .dead)] := by kernel_rfl
theorem kp118_5 (x0 x1 x2 x3) : keep [1, 2, 6, 10] [(1, .v U11 x0), (2, .v .bool x1), (6, .dead), (10, .it x2 x3)] = [(1, .v U11 x0), (2, .v .bool x1), (6, .dead), (10, .it x2 x3)] := by kernel_rfl
theorem kp118_6 (x0 x1 x2 x3 x4 x5) : keep [1, 2, 10, 11] [(1, .v U11 x0), (2, .v .bool x1), (10, .it x2 x3), (11, .tup [.v .bool x4]), (12, .v .bool x5)] = [(1, .v U11 x0), (2, .v .bool x1), (10, .it x2 x3), (11, .tup [.v .bool x4])] := by kernel_rfl
theorem hb118_2 (x0 : V13) (x1 : Bool) (x2 : V1) (x3 : Nat) (x4 : Bool) (x5 : Bool) : boolOf? (ent [(1, .v U11 x0), (2, .v .bool x1), (10, .it x2 x3), (11, .tup [.v .bool x4]), (12, .v .bool x5)] (.t 12)) = some x5 := by kernel_rfl
def g118_4b {R : Type} (x0 : V13) (x1 : Bool) (x2 : V1) (x3 : Nat) (x4 : Bool) : Option R :=
none /- extract 1 of 1 -/
theorem t118_4b {N cl} {R} (K : KE R) (x0 x1 x2 x3 x4) : exec cl N c118_4 [(1, .v U11 x0), (2, .v .bool x1), (10, .it x2 x3), (11, .tup [.v .bool x4])] K = (g118_4b x0 x1 x2 x3 x4) := by
  kernel_rfl
def g118_9 {R : Type} (x0 : V13) (x1 : Bool) (x2 : V1) (x3 : Nat) (k0 : Int → Option R) (k1 : V13 → Bool → V1 → Nat → Option R) (k2 : V13 → Bool → V1 → Nat → Bool → Int → Int → Option R) (k3 : V13 → Bool → V1 → Nat → Bool → Option R) : Option R :=
(g118_2 x0 x1 x2 x3 (fun y0 y1 y2 y3 y4 y5 y6 y7 => brB y7 ((fun y0 y1 y2 y3 y4 y5 y6 => (g118_4 y0 y1 y2 y3 y4 y5 y6 (fun y0 y1 y2 y3 y4 y5 => (g118_5 y0 y1 y2 y3 y4 y5 (fun y0 y1 y2 y3 y4 y5 => brB y5 (g118_6 y0 y1 y2 y3 y4 y5 (fun y0 => ((fun y0 => (k0 y0)) y0))) (k1 y0 y1 y3 y4)))))) y0 y1 y2 y3 y4 y5 y6) (k2 y0 y1 y2 y3 y4 y5 y6)) (fun y0 y1 y2 y3 y4 y5 => brB y5 (g118_4b y0 y1 y2 y3 y4) (k3 y0 y1 y2 y3 y4)))
theorem t118_9 {N cl} {R} (K : KE R) (x0 x1 x2 x3) : exec cl N c118_9 [(1, .v U11 x0), (2, .v .bool x1), (10, .it x2 x3)] K = (g118_9 x0 x1 x2 x3 (fun y0 => K .ret [(1, .dead), (2, .dead), (6, .v U2 y0), (10, .dead)]) (fun y0 y1 y2 y3 => K .normal [(1, .v U11 y0), (2, .v .bool y1), (6, .dead), (10, .it y2 y3)]) (fun y0 y1 y2 y3 y4 y5 y6 => K (.exit 0) [(1, .v U11 y0), (2, .v .bool y1), (10, .it y2 y3), (11, .tup [.v .bool y4, .v U2 y5, .v U3 y6])]) (fun y0 y1 y2 y3 y4 => K (.exit 0) [(1, .v U11 y0), (2, .v .bool y1), (10, .it y2 y3), (11, .tup [.v .bool y4])])) := by
  simp only [c118_9, exec_seq, seqK_normal, seqK_exit, seqK_ret, t118_2, c118_3, exec_out, exec_cond', hb118_0, Option.bind_some, brB_true, brB_false, exec_skip, exec_exit, kp118_1, c118_8, exec_block, t118_4, t118_5, c118_7, hb118_1, t118_6, exec_ret, kp118_2, kp118_3, blockK_normal, blockK_ret, blockK_eq, kp118_4, kp118_5, hb118_2, kp118_6, t118_4b]
  rfl
theorem kp118_7 (x0 x1 x2 x3) : keep [1, 2, 10] [(1, .v U11 x0), (2, .v .bool x1), (6, .dead), (10, .it x2 x3)] = [(1, .v U11 x0), (2, .v .bool x1), (10, .it x2 x3)] := by kernel_rfl
def l118_10 {R : Type} (k0 : Int → Option R) (k1 : V13 → Bool → V1 → Nat → Bool → Int → Int → Option R) (k2 : V13 → Bool → V1 → Nat → Bool → Option R) : Nat → V13 → Bool → V1 → Nat → Option R
  | 0, _, _, _, _ => none
  | m + 1, x0, x1, x2, x3 => (g118_9 x0 x1 x2 x3 k0 (fun y0 y1 y2 y3 => l118_10 k0 k1 k2 m y0 y1 y2 y3) k1 k2)
theorem lt118_10 {N cl} {R} (K : KE R) : ∀ (m) (x0 x1 x2 x3), iter [1, 2, 10] (fun env K => exec cl N c118_9 env K) K m [(1, .v U11 x0), (2, .v .bool x1), (10, .it x2 x3)] = l118_10 (fun y0 => K .ret [(1, .dead), (2, .dead), (6, .v U2 y0), (10, .dead)]) (fun y0 y1 y2 y3 y4 y5 y6 => K (.exit 0) [(1, .v U11 y0), (2, .v .bool y1), (10, .it y2 y3), (11, .tup [.v .bool y4, .v U2 y5, .v U3 y6])]) (fun y0 y1 y2 y3 y4 => K (.exit 0) [(1, .v U11 y0), (2, .v .bool y1), (10, .it y2 y3), (11, .tup [.v .bool y4])]) m x0 x1 x2 x3 := by
  intro m
  induction m with
  | zero => intros; rfl
  | succ m ih =>
    intro x0 x1 x2 x3
    simp only [iter_succ, t118_9, loopK_normal, loopK_exit, loopK_ret, kp118_7, ih]
    rfl
theorem kp118_8 (x0) : keep [6] [(1, .dead), (2, .dead), (6, .v U2 x0), (10, .dead)] = [(6, .v U2 x0)] := by kernel_rfl
theorem kp118_9 (x0 x1 x2 x3 x4 x5 x6) : keep [6] [(1, .v U11 x0), (2, .v .bool x1), (10, .it x2 x3), (11, .tup [.v .bool x4, .v U2 x5, .v U3 x6])] = [(6, .dead)] := by kernel_rfl
theorem kp118_10 (x0 x1 x2 x3 x4) : keep [6] [(1, .v U11 x0), (2, .v .bool x1), (10, .it x2 x3), (11, .tup [.v .bool x4])] = [(6, .dead)] := by kernel_rfl
def g118_10 {R : Type} (N : Nat) (x0 : V13) (x1 : Bool) (x2 : V1) (x3 : Nat) (k0 : Int → Option R) (k1 : Option R) : Option R :=
l118_10 (fun y0 => k0 y0) (fun y0 y1 y2 y3 y4 y5 y6 => k1) (fun y0 y1 y2 y3 y4 => k1) N x0 x1 x2 x3
theorem t118_10 {N cl} {R} (K : KE R) (x0 x1 x2 x3) : exec cl N c118_10 [(1, .v U11 x0), (2, .v .bool x1), (10, .it x2 x3)] K = (g118_10 N x0 x1 x2 x3 (fun y0 => K .ret [(6, .v U2 y0)]) (K (.exit 0) [(6, .dead)])) := by
  simp only [c118_10, exec_out, exec_loop, kp118_0, lt118_10, kp118_10, kp118_8, kp118_9]
  rfl
theorem kp118_11 (x0) : keep [6] [(6, .v U2 x0)] = [(6, .v U2 x0)] := by kernel_rfl
theorem kp118_12 : keep [6] [(6, .dead)] = [(6, .dead)] := by kernel_rfl
def g118_12 {R : Type} (k0 : Int → Option R) : Option R :=
k0 (-1 : Int)
theorem t118_12 {N cl} {R} (K : KE R) : exec cl N c118_12 [(6, .dead)] K = (g118_12 (fun y0 => K .normal [(6, .v U2 y0)])) := by
  kernel_rfl
def g118_13 {R : Type} (N : Nat) (x0 : V1) (x1 : V13) (x2 : Bool) (k0 : Int → Option R) : Option R :=
(g118_0 x0 x1 x2 (fun y0 y1 y2 => (g118_1 y0 y1 y2 (fun y0 y1 y2 y3 => (g118_10 N y0 y1 y2 y3 (fun y0 => (k0 y0)) (g118_12 (fun y0 => (k0 y0))))))))
theorem t118_13 {N cl} {R} (K : KE R) (x0 x1 x2) : exec cl N c118_13 [(0, .v .str x0), (1, .v U11 x1), (2, .v .bool x2)] K = (g118_13 N x0 x1 x2 (fun y0 => K .ret [(6, .v U2 y0)])) := by
  simp only [c118_13, exec_seq, seqK_normal, seqK_exit, seqK_ret, t118_0, t118_1, c118_11, exec_out, exec_block, t118_10, blockK_normal, blockK_ret, blockK_eq, kp118_11, kp118_12, t118_12, exec_ret]
  rfl
theorem rk118_0 (y0 : Int) : retK d118 .ret [(6, .v U2 y0)] = some [.v U2 y0] := by kernel_rfl
def g118 {R : Type} (N : Nat) (x0 : V1) (x1 : V13) (x2 : Bool) (k : Int → Option R) : Option R :=
(g118_13 N x0 x1 x2 (fun y0 => k y0))
theorem gen118 {N : Nat} {cl : Cal} (x0 : V1) (x1 : V13) (x2 : Bool) {R : Type} (k : List E → Option R) : exec cl N c118 (params 0 [.v .str x0, .v U11 x1, .v .bool x2]) (fun e env => (retK d118 e env).bind k) = g118 N x0 x1 x2 (fun (r0 : Int) => k [.v U2 r0]) := by
  have e0 : params 0 [.v .str x0, .v U11 x1, .v .bool x2] = [(0, .v .str x0), (1, .v U11 x1), (2, .v .bool x2)] := by kernel_rfl
  simp only [c118, e0, t118_13, rk118_0, Option.bind_some]
  rfl
def ctr118 (S : V1 → V13 → Bool → Option (Int)) : Ctr := { A := V1 × V13 × Bool × Unit, B := Int, f := 118, enc := fun a => [.v .str a.1, .v U11 a.2.1, .v .bool a.2.2.1], dec := (decC (decV .str) (decC (decV U11) (decC (decV .bool) dec0))), S := fun a => S a.1 a.2.1 a.2.2.1, ent := fun b => [.v U2 b], ok := (decV_cons (T := .str) (decV_cons (T := U11) (decV_cons (T := .bool) (fun es b h => dec0_some h)))) }
def S118 (N : Nat) (x0 : V1) (x1 : V13) (x2 : Bool) : Option (Int) := g118 N x0 x1 x2 (fun (r0 : Int) => some (r0))
def g111_0 {R : Type} (x0 : V1) (x1 : V13) (k0 : V1 → V13 → Option R) : Option R :=
k0 x0 x1
theorem t111_0 {N cl} {R} (K : KE R) (x0 x1) : exec cl N c111_0 [(0, .v .str x0), (1, .v U11 x1)] K = (g111_0 x0 x1 (fun y0 y1 => K .normal [(0, .v .str y0), (1, .v U11 y1)])) := by
  kernel_rfl
def g111_1 {R : Type} (S118 : V1 → V13 → Bool → Option (Int)) (x0 : V1) (x1 : V13) (k0 : Int → Option R) : Option R :=
(S118 x0 x1 true).bind fun r328 =>
k0 r328
theorem t111_1 {N cl} (S118) (h118 : (ctr118 S118).holds cl) {R} (K : KE R) (x0 x1) : exec cl N c111_1 [(0, .v .str x0), (1, .v U11 x1)] K = (g111_1 S118 x0 x1 (fun y0 => K .normal [(4, .v U2 y0)])) := by
  rw [← put_eq h118]
  kernel_rfl
def g111_2 {R : Type} (S118 : V1 → V13 → Bool → Option (Int)) (x0 : V1) (x1 : V13) (k0 : Int → Option R) : Option R :=
(g111_0 x0 x1 (fun y0 y1 => (g111_1 S118 y0 y1 (fun y0 => (k0 y0)))))
theorem t111_2 {N cl} (S118) (h118 : (ctr118 S118).holds cl) {R} (K : KE R) (x0 x1) : exec cl N c111_2 [(0, .v .str x0), (1, .v U11 x1)] K = (g111_2 S118 x0 x1 (fun y0 => K .ret [(4, .v U2 y0)])) := by
  simp only [c111_2, exec_seq, seqK_normal, seqK_exit, seqK_ret, t111_0, t111_1 S118 h118, exec_ret]
  rfl
theorem rk111_0 (y0 : Int) : retK d111 .ret [(4, .v U2 y0)] = some [.v U2 y0] := by kernel_rfl
def g111 {R : Type} (S118 : V1 → V13 → Bool → Option (Int)) (x0 : V1) (x1 : V13) (k : Int → Option R) : Option R :=
(g111_2 S118 x0 x1 (fun y0 => k y0))
theorem gen111 {N : Nat} {cl : Cal} (S118 : V1 → V13 → Bool → Option (Int)) (h118 : (ctr118 S118).holds cl) (x0 : V1) (x1 : V13) {R : Type} (k : List E → Option R) : exec cl N c111 (params 0 [.v .str x0, .v U11 x1]) (fun e env => (retK d111 e env).bind k) = g111 S118 x0 x1 (fun (r0 : Int) => k [.v U2 r0]) := by
  have e0 : params 0 [.v .str x0, .v U11 x1] = [(0, .v .str x0), (1, .v U11 x1)] := by kernel_rfl
  simp only [c111, e0, t111_2 S118 h118, rk111_0, Option.bind_some]
  rfl
def ctr111 (S : V1 → V13 → Option (Int)) : Ctr := { A := V1 × V13 × Unit, B := Int, f := 111, enc := fun a => [.v .str a.1, .v U11 a.2.1], dec := (decC (decV .str) (decC (decV U11) dec0)), S := fun a => S a.1 a.2.1, ent := fun b => [.v U2 b], ok := (decV_cons (T := .str) (decV_cons (T := U11) (fun es b h => dec0_some h))) }
def S111 (N : Nat) (x0 : V1) (x1 : V13) : Option (Int) := g111 (S118 N) x0 x1 (fun (r0 : Int) => some (r0))
def g98_0 {R : Type} (x0 : V1) (x1 : V13) (k0 : V1 → V13 → Option R) : Option R :=
k0 x0 x1
theorem t98_0 {N cl} {R} (K : KE R) (x0 x1) : exec cl N c98_0 [(0, .v .str x0), (1, .v U11 x1)] K = (g98_0 x0 x1 (fun y0 y1 => K .normal [(0, .v .str y0), (1, .v U11 y1)])) := by
  kernel_rfl
def g98_1 {R : Type} (S111 : V1 → V13 → Option (Int)) (x0 : V1) (x1 : V13) (k0 : Bool → Option R) : Option R :=
(S111 x0 x1).bind fun r331 =>
k0 (decide (r331 ≥ (0 : Int)))
theorem t98_1 {N cl} (S111) (h111 : (ctr111 S111).holds cl) {R} (K : KE R) (x0 x1) : exec cl N c98_1 [(0, .v .str x0), (1, .v U11 x1)] K = (g98_1 S111 x0 x1 (fun y0 => K .normal [(4, .v .bool y0)])) := by
  rw [← put_eq h111]
  kernel_rfl
def g98_2 {R : Type} (S111 : V1 → V13 → Option (Int)) (x0 : V1) (x1 : V13) (k0 : Bool → Option R) : Option R :=
(g98_0 x0 x1 (fun y0 y1 => (g98_1 S111 y0 y1 (fun y0 => (k0 y0)))))
theorem t98_2 {N cl} (S111) (h111 : (ctr111 S111).holds cl) {R} (K : KE R) (x0 x1) : exec cl N c98_2 [(0, .v .str x0), (1, .v U11 x1)] K = (g98_2 S111 x0 x1 (fun y0 => K .ret [(4, .v .bool y0)])) := by
  simp only [c98_2, exec_seq, seqK_normal, seqK_exit, seqK_ret, t98_0, t98_1 S111 h111, exec_ret]
  rfl
theorem rk98_0 (y0 : Bool) : retK d98 .ret [(4, .v .bool y0)] = some [.v .bool y0] := by kernel_rfl
def g98 {R : Type} (S111 : V1 → V13 → Option (Int)) (x0 : V1) (x1 : V13) (k : Bool → Option R) : Option R :=
(g98_2 S111 x0 x1 (fun y0 => k y0))
theorem gen98 {N : Nat} {cl : Cal} (S111 : V1 → V13 → Option (Int)) (h111 : (ctr111 S111).holds cl) (x0 : V1) (x1 : V13) {R : Type} (k : List E → Option R) : exec cl N c98 (params 0 [.v .str x0, .v U11 x1]) (fun e env => (retK d98 e env).bind k) = g98 S111 x0 x1 (fun (r0 : Bool) => k [.v .bool r0]) := by
  have e0 : params 0 [.v .str x0, .v U11 x1] = [(0, .v .str x0), (1, .v U11 x1)] := by kernel_rfl
  simp only [c98, e0, t98_2 S111 h111, rk98_0, Option.bind_some]
  rfl
def ctr98 (S : V1 → V13 → Option (Bool)) : Ctr := { A := V1 × V13 × Unit, B := Bool, f := 98, enc := fun a => [.v .str a.1, .v U11 a.2.1], dec := (decC (decV .str) (decC (decV U11) dec0)), S := fun a => S a.1 a.2.1, ent := fun b => [.v .bool b], ok := (decV_cons (T := .str) (decV_cons (T := U11) (fun es b h => dec0_some h))) }
def S98 (N : Nat) (x0 : V1) (x1 : V13) : Option (Bool) := g98 (S111 N) x0 x1 (fun (r0 : Bool) => some (r0))
def g85_0 {R : Type} (x0 : V19) (k0 : V19 → Option R) : Option R :=
k0 x0
theorem t85_0 {N cl} {R} (K : KE R) (x0) : exec cl N c85_0 [(0, .v U17 x0)] K = (g85_0 x0 (fun y0 => K .normal [(1, .loc U17 .no y0)])) := by
  kernel_rfl
def g85_1 {R : Type} (x0 : V19) (k0 : V19 → Bool → Option R) : Option R :=
brB (decide (x0.1 < (1 : Int))) (k0 x0 true) (k0 x0 (decide (x0.1 > (9 : Int))))
theorem t85_1 {N cl} {R} (K : KE R) (x0) : exec cl N c85_1 [(1, .loc U17 .no x0)] K = (g85_1 x0 (fun y0 y1 => K .normal [(1, .loc U17 .no y0), (3, .v .bool y1)])) := by
  kernel_rfl
def g85_2 {R : Type} (x0 : V19) (x1 : Bool) (k0 : Int → Option R) : Option R :=
k0 (1 : Int)
theorem t85_2 {N cl} {R} (K : KE R) (x0 x1) : exec cl N c85_2 [(1, .loc U17 .no x0), (3, .v .bool x1)] K = (g85_2 x0 x1 (fun y0 => K .normal [(2, .v U2 y0)])) := by
  kernel_rfl
theorem kp85_0 (x0) : keep [2] [(2, .v U2 x0)] = [(2, .v U2 x0)] := by kernel_rfl
def g85_3 {R : Type} (S97 : V19 → Option (Bool)) (x0 : V19) (x1 : Bool) (k0 : V19 → Bool → Option R) : Option R :=
(S97 x0).bind fun r336 =>
k0 x0 (!r336)
theorem t85_3 {N cl} (S97) (h97 : (ctr97 S97).holds cl) {R} (K : KE R) (x0 x1) : exec cl N c85_3 [(1, .loc U17 .no x0), (3, .v .bool x1)] K = (g85_3 S97 x0 x1 (fun y0 y1 => K .normal [(1, .loc U17 .no y0), (12, .v .bool y1)])) := by
  rw [← put_eq h97]
  kernel_rfl
def g85_4 {R : Type} (x0 : V19) (x1 : Bool) (k0 : Int → Option R) : Option R :=
k0 (6 : Int)
theorem t85_4 {N cl} {R} (K : KE R) (x0 x1) : exec cl N c85_4 [(1, .loc U17 .no x0), (12, .v .bool x1)] K = (g85_4 x0 x1 (fun y0 => K .normal [(2, .v U2 y0)])) := by
  kernel_rfl
def g85_5 {R : Type} (x0 : V19) (x1 : Bool) (k0 : V19 → Bool → Option R) : Option R :=
k0 x0 (x0.2.2.1 == ([] : List UInt8))
theorem t85_5 {N cl} {R} (K : KE R) (x0 x1) : exec cl N c85_5 [(1, .loc U17 .no x0), (12, .v .bool x1)] K = (g85_5 x0 x1 (fun y0 y1 => K .normal [(1, .loc U17 .no y0), (16, .v .bool y1)])) := by
  kernel_rfl
def g85_6 {R : Type} (x0 : V19) (x1 : Bool) (k0 : Int → Option R) : Option R :=
k0 (7 : Int)
theorem t85_6 {N cl} {R} (K : KE R) (x0 x1) : exec cl N c85_6 [(1, .loc U17 .no x0), (16, .v .bool x1)] K = (g85_6 x0 x1 (fun y0 => K .normal [(2, .v U2 y0)])) := by
  kernel_rfl
def g85_7 {R : Type} (x0 : V19) (x1 : Bool) (k0 : V19 → Bool → Option R) : Option R :=
k0 x0 (decide ((x0.2.2.1.length : Int) > (8 : Int)))
theorem t85_7 {N cl} {R} (K : KE R) (x0 x1) : exec cl N c85_7 [(1, .loc U17 .no x0), (16, .v .bool x1)] K = (g85_7 x0 x1 (fun y0 y1 => K .normal [(1, .loc U17 .no y0), (20, .v .bool y1)])) := by
  kernel_rfl
def g85_8 {R : Type} (x0 : V19) (x1 : Bool) (k0 : Int → Option R) : Option R :=
k0 (3 : Int)
theorem t85_8 {N cl} {R} (K : KE R) (x0 x1) : exec cl N c85_8 [(1, .loc U17 .no x0), (20, .v .bool x1)] K = (g85_8 x0 x1 (fun y0 => K .normal [(2, .v U2 y0)])) := by
  kernel_rfl
def g85_9 {R : Type} (S98 : V1 → V13 → Option (Bool)) (S99 : Int → Option (Bool)) (x0 : V19) (x1 : Bool) (k0 : Bool → Option R) : Option R :=
(S98 x0.2.2.1 (fun (x339 : V2) => ((S99 x339.1).bind fun b340 => some [.v .bool b340]).bind (unE .bool))).bind fun r341 =>
k0 r341
theorem t85_9 {N cl} (S98) (S99) (h98 : (ctr98 S98).holds cl) (h99 : (ctr99 S99).holds cl) {R} (K : KE R) (x0 x1) : exec cl N c85_9 [(1, .loc U17 .no x0), (20, .v .bool x1)] K = (g85_9 S98 S99 x0 x1 (fun y0 => K .normal [(25, .v .bool y0)])) := by
  rw [← put_eq h98]
  rw [← put_eq h99]
  kernel_rfl
def g85_10 {R : Type} (x0 : Bool) (k0 : Int → Option R) : Option R :=
k0 (2 : Int)
theorem t85_10 {N cl} {R} (K : KE R) (x0) : exec cl N c85_10 [(25, .v .bool x0)] K = (g85_10 x0 (fun y0 => K .normal [(2, .v U2 y0)])) := by
  kernel_rfl
theorem kp85_1 (x0) : keep [2] [(25, .v .bool x0)] = [(2, .dead)] := by kernel_rfl
theorem hb85_0 (x0 : Bool) : boolOf? (ent [(25, .v .bool x0)] (.t 25)) = some x0 := by kernel_rfl
theorem kp85_2 : keep [2] [(2, .dead)] = [(2, .dead)] := by kernel_rfl
theorem hb85_1 (x0 : V19) (x1 : Bool) : boolOf? (ent [(1, .loc U17 .no x0), (20, .v .bool x1)] (.t 20)) = some x1 := by kernel_rfl
theorem hb85_2 (x0 : V19) (x1 : Bool) : boolOf? (ent [(1, .loc U17 .no x0), (16, .v .bool x1)] (.t 16)) = some x1 := by kernel_rfl
theorem hb85_3 (x0 : V19) (x1 : Bool) : boolOf? (ent [(1, .loc U17 .no x0), (12, .v .bool x1)] (.t 12)) = some x1 := by kernel_rfl
theorem hb85_4 (x0 : V19) (x1 : Bool) : boolOf? (ent [(1, .loc U17 .no x0), (3, .v .bool x1)] (.t 3)) = some x1 := by kernel_rfl
def g85_17 {R : Type} (k0 : Int → Option R) : Option R :=
k0 (0 : Int)
theorem t85_17 {N cl} {R} (K : KE R) : exec cl N c85_17 [(2, .dead)] K = (g85_17 (fun y0 => K .normal [(2, .v U2 y0)])) := by
  kernel_rfl
def g85_18 {R : Type} (S97 : V19 → Option (Bool)) (S98 : V1 → V13 → Option (Bool)) (S99 : Int → Option (Bool)) (x0 : V19) (k0 : Int → Option R) : Option R :=
(g85_0 x0 (fun y0 => (g85_1 y0 (fun y0 y1 => brB y1 (g85_2 y0 y1 (fun y0 => ((fun y0 => (k0 y0)) y0))) (g85_3 S97 y0 y1 (fun y0 y1 => brB y1 (g85_4 y0 y1 (fun y0 => ((fun y0 => (k0 y0)) y0))) (g85_5 y0 y1 (fun y0 y1 => brB y1 (g85_6 y0 y1 (fun y0 => ((fun y0 => (k0 y0)) y0))) (g85_7 y0 y1 (fun y0 y1 => brB y1 (g85_8 y0 y1 (fun y0 => ((fun y0 => (k0 y0)) y0))) (g85_9 S98 S99 y0 y1 (fun y0 => brB y0 (g85_10 y0 (fun y0 => ((fun y0 => (k0 y0)) y0))) (g85_17 (fun y0 => (k0 y0)))))))))))))))
theorem t85_18 {N cl} (S97) (S98) (S99) (h97 : (ctr97 S97).holds cl) (h98 : (ctr98 S98).holds cl) (h99 : (ctr99 S99).holds cl) {R} (K : KE R) (x0) : exec cl N c85_18 [(0, .v U17 x0)] K = (g85_18 S97 S98 S99 x0 (fun y0 => K .ret [(2, .v U2 y0)])) := by
  simp only [c85_18, exec_seq, seqK_normal, seqK_exit, seqK_ret, t85_0, c85_16, exec_out, exec_block, t85_1, c85_15, exec_cond', hb85_4, Option.bind_some, brB_true, brB_false, t85_2, exec_ret, t85_3 S97 h97, c85_14, hb85_3, t85_4, t85_5, c85_13, hb85_2, t85_6, t85_7, c85_12, hb85_1, t85_8, t85_9 S98 S99 h98 h99, c85_11, hb85_0, t85_10, exec_skip, kp85_0, kp85_1, kp85_2, blockK_normal, blockK_ret, blockK_eq, t85_17]
  rfl
theorem rk85_0 (y0 : Int) : retK d85 .ret [(2, .v U2 y0)] = some [.v U2 y0] := by kernel_rfl
def g85 {R : Type} (S97 : V19 → Option (Bool)) (S98 : V1 → V13 → Option (Bool)) (S99 : Int → Option (Bool)) (x0 : V19) (k : Int → Option R) : Option R :=
(g85_18 S97 S98 S99 x0 (fun y0 => k y0))
theorem gen85 {N : Nat} {cl : Cal} (S97 : V19 → Option (Bool)) (S98 : V1 → V13 → Option (Bool)) (S99 : Int → Option (Bool)) (h97 : (ctr97 S97).holds cl) (h98 : (ctr98 S98).holds cl) (h99 : (ctr99 S99).holds cl) (x0 : V19) {R : Type} (k : List E → Option R) : exec cl N c85 (params 0 [.v U17 x0]) (fun e env => (retK d85 e env).bind k) = g85 S97 S98 S99 x0 (fun (r0 : Int) => k [.v U2 r0]) := by
  have e0 : params 0 [.v U17 x0] = [(0, .v U17 x0)] := by kernel_rfl
  simp only [c85, e0, t85_18 S97 S98 S99 h97 h98 h99, rk85_0, Option.bind_some]
  rfl
def ctr85 (S : V19 → Option (Int)) : Ctr := { A := V19 × Unit, B := Int, f := 85, enc := fun a => [.v U17 a.1], dec := (decC (decV U17) dec0), S := fun a => S a.1, ent := fun b => [.v U2 b], ok := (decV_cons (T := U17) (fun es b h => dec0_some h)) }
def S85 (N : Nat) (x0 : V19) : Option (Int) := g85 (S97 N) (S98 N) (S99 N) x0 (fun (r0 : Int) => some (r0))
def g60_0 {R : Type} (x0 : V21) (k0 : V21 → Option R) : Option R :=
k0 x0
theorem t60_0 {N cl} {R} (K : KE R) (x0) : exec cl N c60_0 [(0, .v U21 x0)] K = (g60_0 x0 (fun y0 => K .normal [(0, .v U21 y0)])) := by
  kernel_rfl
def g60_1 {R : Type} (x0 : V21) (k0 : V21 → Bool → Option R) : Option R :=
k0 x0 (decide ((x0.length : Int) > (200 : Int)))
theorem t60_1 {N cl} {R} (K : KE R) (x0) : exec cl N c60_1 [(0, .v U21 x0)] K = (g60_1 x0 (fun y0 y1 => K .normal [(0, .v U21 y0), (8, .v .bool y1)])) := by
  kernel_rfl
def g60_2 {R : Type} (x0 : V21) (x1 : Bool) (k0 : Int → Option R) : Option R :=
k0 (3 : Int)
theorem t60_2 {N cl} {R} (K : KE R) (x0 x1) : exec cl N c60_2 [(0, .v U21 x0), (8, .v .bool x1)] K = (g60_2 x0 x1 (fun y0 => K .normal [(2, .v U2 y0)])) := by
  kernel_rfl
theorem kp60_0 (x0) : keep [0, 2] [(2, .v U2 x0)] = [(0, .dead), (2, .v U2 x0)] := by kernel_rfl
theorem kp60_1 (x0 x1) : keep [0, 2] [(0, .v U21 x0), (8, .v .bool x1)] = [(0, .v U21 x0), (2, .dead)] := by kernel_rfl
theorem hb60_0 (x0 : V21) (x1 : Bool) : boolOf? (ent [(0, .v U21 x0), (8, .v .bool x1)] (.t 8)) = some x1 := by kernel_rfl
def g60_4 {R : Type} (x0 : V21) (k0 : V21 → Int → Int → Option R) : Option R :=
k0 x0 (x0.length : Int) (0 : Int)
theorem t60_4 {N cl} {R} (K : KE R) (x0) : exec cl N c60_4 [(0, .v U21 x0), (2, .dead)] K = (g60_4 x0 (fun y0 y1 y2 => K .normal [(9, .v U21 y0), (10, .v U2 y1), (11, .v U2 y2)])) := by
  kernel_rfl
theorem kp60_2 (x0 x1 x2) : keep [9, 10, 11] [(9, .v U21 x0), (10, .v U2 x1), (11, .v U2 x2)] = [(9, .v U21 x0), (10, .v U2 x1), (11, .v U2 x2)] := by kernel_rfl
def g60_5 {R : Type} (x0 : V21) (x1 : Int) (x2 : Int) (k0 : V21 → Int → Int → Bool → Option R) : Option R :=
k0 x0 x1 x2 (decide (x2 < x1))
theorem t60_5 {N cl} {R} (K : KE R) (x0 x1 x2) : exec cl N c60_5 [(9, .v U21 x0), (10, .v U2 x1), (11, .v U2 x2)] K = (g60_5 x0 x1 x2 (fun y0 y1 y2 y3 => K .normal [(9, .v U21 y0), (10, .v U2 y1), (11, .v U2 y2), (12, .v .bool y3)])) := by
  kernel_rfl
theorem kp60_3 (x0 x1 x2 x3) : keep [9, 10, 11] [(9, .v U21 x0), (10, .v U2 x1), (11, .v U2 x2), (12, .v .bool x3)] = [(9, .v U21 x0), (10, .v U2 x1), (11, .v U2 x2)] := by kernel_rfl
theorem hb60_1 (x0 : V21) (x1 : Int) (x2 : Int) (x3 : Bool) : boolOf? (ent [(9, .v U21 x0), (10, .v U2 x1), (11, .v U2 x2), (12, .v .bool x3)] (.t 12)) = some x3 := by kernel_rfl
def g60_7 {R : Type} (x0 : V21) (x1 : Int) (x2 : Int) (k0 : V19 → V21 → Int → Int → Option R) : Option R :=
if 0 ≤ x2 ∧ x2 < (x0.length : Int) then
k0 (x0.getD x2.toNat ((0 : Int), ((0 : Int), ([], ())))) x0 x1 x2
else none
theorem t60_7 {N cl} {R} (K : KE R) (x0 x1 x2) : exec cl N c60_7 [(9, .v U21 x0), (10, .v U2 x1), (11, .v U2 x2)] K = (g60_7 x0 x1 x2 (fun y0 y1 y2 y3 => K .normal [(4, .loc U17 .no y0), (9, .v U21 y1), (10, .v U2 y2), (11, .v U2 y3)])) := by
  kernel_rfl
def g60_8 {R : Type} (S85 : V19 → Option (Int)) (x0 : V19) (x1 : V21) (x2 : Int) (x3 : Int) (k0 : Int → V21 → Int → Int → Option R) : Option R :=
(S85 x0).bind fun r347 =>
k0 r347 x1 x2 x3
theorem t60_8 {N cl} (S85) (h85 : (ctr85 S85).holds cl) {R} (K : KE R) (x0 x1 x2 x3) : exec cl N c60_8 [(4, .loc U17 .no x0), (9, .v U21 x1), (10, .v U2 x2), (11, .v U2 x3)] K = (g60_8 S85 x0 x1 x2 x3 (fun y0 y1 y2 y3 => K .normal [(5, .v U2 y0), (9, .v U21 y1), (10, .v U2 y2), (11, .v U2 y3)])) := by
  rw [← put_eq h85]
  kernel_rfl
def g60_9 {R : Type} (x0 : Int) (x1 : V21) (x2 : Int) (x3 : Int) (k0 : Int → V21 → Int → Int → Bool → Option R) : Option R :=
k0 x0 x1 x2 x3 (x0 != (0 : Int))
theorem t60_9 {N cl} {R} (K : KE R) (x0 x1 x2 x3) : exec cl N c60_9 [(5, .v U2 x0), (9, .v U21 x1), (10, .v U2 x2), (11, .v U2 x3)] K = (g60_9 x0 x1 x2 x3 (fun y0 y1 y2 y3 y4 => K .normal [(5, .v U2 y0), (9, .v U21 y1), (10, .v U2 y2), (11, .v U2 y3), (18, .v .bool y4)])) := by
  kernel_rfl
def g60_10 {R : Type} (x0 : Int) (x1 : V21) (x2 : Int) (x3 : Int) (x4 : Bool) (k0 : Int → Option R) : Option R :=
k0 x0
theorem t60_10 {N cl} {R} (K : KE R) (x0 x1 x2 x3 x4) : exec cl N c60_10 [(5, .v U2 x0), (9, .v U21 x1), (10, .v U2 x2), (11, .v U2 x3), (18, .v .bool x4)] K = (g60_10 x0 x1 x2 x3 x4 (fun y0 => K .normal [(2, .v U2 y0)])) := by
  kernel_rfl
theorem kp60_4 (x0) : keep [2, 9, 10, 11] [(2, .v U2 x0)] = [(2, .v U2 x0), (9, .dead), (10, .dead), (11, .dead)] := by kernel_rfl
theorem kp60_5 (x0 x1 x2 x3 x4) : keep [2, 9, 10, 11] [(5, .v U2 x0), (9, .v U21 x1), (10, .v U2 x2), (11, .v U2 x3), (18, .v .bool x4)] = [(2, .dead), (9, .v U21 x1), (10, .v U2 x2), (11, .v U2 x3)] := by kernel_rfl
theorem hb60_2 (x0 : Int) (x1 : V21) (x2 : Int) (x3 : Int) (x4 : Bool) : boolOf? (ent [(5, .v U2 x0), (9, .v U21 x1), (10, .v U2 x2), (11, .v U2 x3), (18, .v .bool x4)] (.t 18)) = some x4 := by kernel_rfl
theorem kp60_6 (x0) : keep [2, 9, 10, 11] [(2, .v U2 x0), (9, .dead), (10, .dead), (11, .dead)] = [(2, .v U2 x0), (9, .dead), (10, .dead), (11, .dead)] := by kernel_rfl
theorem kp60_7 (x0 x1 x2) : keep [2, 9, 10, 11] [(2, .dead), (9, .v U21 x0), (10, .v U2 x1), (11, .v U2 x2)] = [(2, .dead), (9, .v U21 x0), (10, .v U2 x1), (11, .v U2 x2)] := by kernel_rfl
def g60_13 {R : Type} (x0 : V21) (x1 : Int) (x2 : Int) (k0 : V21 → Int → Int → Option R) : Option R :=
k0 x0 x1 (IntKind.i64.wrap (x2 + (1 : Int)))
theorem t60_13 {N cl} {R} (K : KE R) (x0 x1 x2) : exec cl N c60_13 [(2, .dead), (9, .v U21 x0), (10, .v U2 x1), (11, .v U2 x2)] K = (g60_13 x0 x1 x2 (fun y0 y1 y2 => K .normal [(9, .v U21 y0), (10, .v U2 y1), (11, .v U2 y2)])) := by
  kernel_rfl
def g60_14 {R : Type} (S85 : V19 → Option (Int)) (x0 : V21) (x1 : Int) (x2 : Int) (k0 : Int → Option R) (k1 : V21 → Int → Int → Option R) (k2 : V21 → Int → Int → Option R) : Option R :=
(g60_5 x0 x1 x2 (fun y0 y1 y2 y3 => brB y3 ((fun y0 y1 y2 => (g60_7 y0 y1 y2 (fun y0 y1 y2 y3 => (g60_8 S85 y0 y1 y2 y3 (fun y0 y1 y2 y3 => (g60_9 y0 y1 y2 y3 (fun y0 y1 y2 y3 y4 => brB y4 (g60_10 y0 y1 y2 y3 y4 (fun y0 => ((fun y0 => (k0 y0)) y0))) (g60_13 y1 y2 y3 k1)))))))) y0 y1 y2) (k2 y0 y1 y2)))
theorem t60_14 {N cl} (S85) (h85 : (ctr85 S85).holds cl) {R} (K : KE R) (x0 x1 x2) : exec cl N c60_14 [(9, .v U21 x0), (10, .v U2 x1), (11, .v U2 x2)] K = (g60_14 S85 x0 x1 x2 (fun y0 => K .ret [(2, .v U2 y0), (9, .dead), (10, .dead), (11, .dead)]) (fun y0 y1 y2 => K .normal [(9, .v U21 y0), (10, .v U2 y1), (11, .v U2 y2)]) (fun y0 y1 y2 => K (.exit 0) [(9, .v U21 y0), (10, .v U2 y1), (11, .v U2 y2)])) := by
  simp only [c60_14, exec_seq, seqK_normal, seqK_exit, seqK_ret, t60_5, c60_6, exec_out, exec_cond', hb60_1, Option.bind_some, brB_true, brB_false, exec_skip, exec_exit, kp60_3, c60_12, exec_block, t60_7, t60_8 S85 h85, t60_9, c60_11, hb60_2, t60_10, exec_ret, kp60_4, kp60_5, blockK_normal, blockK_ret, blockK_eq, kp60_6, kp60_7, t60_13]
  rfl
def l60_15 {R : Type} (S85 : V19 → Option (Int)) (k0 : Int → Option R) (k1 : V21 → Int → Int → Option R) : Nat → V21 → Int → Int → Option R
  | 0, _, _, _ => none
  | m + 1, x0, x1, x2 => (g60_14 S85 x0 x1 x2 k0 (fun y0 y1 y2 => l60_15 S85 k0 k1 m y0 y1 y2) k1)
theorem lt60_15 {N cl} (S85) (h85 : (ctr85 S85).holds cl) {R} (K : KE R) : ∀ (m) (x0 x1 x2), iter [9, 10, 11] (fun env K => exec cl N c60_14 env K) K m [(9, .v U21 x0), (10, .v U2 x1), (11, .v U2 x2)] = l60_15 S85 (fun y0 => K .ret [(2, .v U2 y0), (9, .dead), (10, .dead), (11, .dead)]) (fun y0 y1 y2 => K (.exit 0) [(9, .v U21 y0), (10, .v U2 y1), (11, .v U2 y2)]) m x0 x1 x2 := by
  intro m
  induction m with
  | zero => intros; rfl
  | succ m ih =>
    intro x0 x1 x2
    simp only [iter_succ, t60_14 S85 h85, loopK_normal, loopK_exit, loopK_ret, kp60_2, ih]
    rfl
theorem kp60_8 (x0) : keep [2] [(2, .v U2 x0), (9, .dead), (10, .dead), (11, .dead)] = [(2, .v U2 x0)] := by kernel_rfl
theorem kp60_9 (x0 x1 x2) : keep [2] [(9, .v U21 x0), (10, .v U2 x1), (11, .v U2 x2)] = [(2, .dead)] := by kernel_rfl
def g60_15 {R : Type} (N : Nat) (S85 : V19 → Option (Int)) (x0 : V21) (x1 : Int) (x2 : Int) (k0 : Int → Option R) (k1 : Option R) : Option R :=
l60_15 S85 (fun y0 => k0 y0) (fun y0 y1 y2 => k1) N x0 x1 x2
theorem t60_15 {N cl} (S85) (h85 : (ctr85 S85).holds cl) {R} (K : KE R) (x0 x1 x2) : exec cl N c60_15 [(9, .v U21 x0), (10, .v U2 x1), (11, .v U2 x2)] K = (g60_15 N S85 x0 x1 x2 (fun y0 => K .ret [(2, .v U2 y0)]) (K (.exit 0) [(2, .dead)])) := by
  simp only [c60_15, exec_out, exec_loop, kp60_2, lt60_15 S85 h85, kp60_8, kp60_9]
  rfl
theorem kp60_10 (x0) : keep [2] [(2, .v U2 x0)] = [(2, .v U2 x0)] := by kernel_rfl
theorem kp60_11 : keep [2] [(2, .dead)] = [(2, .dead)] := by kernel_rfl
def g60_17 {R : Type} (k0 : Int → Option R) : Option R :=
k0 (0 : Int)
theorem t60_17 {N cl} {R} (K : KE R) : exec cl N c60_17 [(2, .dead)] K = (g60_17 (fun y0 => K .normal [(2, .v U2 y0)])) := by
  kernel_rfl
def g60_18 {R : Type} (N : Nat) (S85 : V19 → Option (Int)) (x0 : V21) (k0 : Int → Option R) (k1 : Int → Option R) : Option R :=
(g60_0 x0 (fun y0 => (g60_1 y0 (fun y0 y1 => brB y1 (g60_2 y0 y1 (fun y0 => ((fun y0 => (k0 y0)) y0))) ((fun y0 => (g60_4 y0 (fun y0 y1 y2 => (g60_15 N S85 y0 y1 y2 (fun y0 => (k1 y0)) (g60_17 (fun y0 => (k1 y0))))))) y0)))))
theorem t60_18 {N cl} (S85) (h85 : (ctr85 S85).holds cl) {R} (K : KE R) (x0) : exec cl N c60_18 [(0, .v U21 x0)] K = (g60_18 N S85 x0 (fun y0 => K .ret [(0, .dead), (2, .v U2 y0)]) (fun y0 => K .ret [(2, .v U2 y0)])) := by
  simp only [c60_18, exec_seq, seqK_normal, seqK_exit, seqK_ret, t60_0, t60_1, c60_3, exec_out, exec_cond', hb60_0, Option.bind_some, brB_true, brB_false, t60_2, exec_ret, exec_skip, kp60_0, kp60_1, t60_4, c60_16, exec_block, t60_15 S85 h85, blockK_normal, blockK_ret, blockK_eq, kp60_10, kp60_11, t60_17]
  rfl
theorem rk60_0 (y0 : Int) : retK d60 .ret [(0, .dead), (2, .v U2 y0)] = some [.v U2 y0] := by kernel_rfl
theorem rk60_1 (y0 : Int) : retK d60 .ret [(2, .v U2 y0)] = some [.v U2 y0] := by kernel_rfl
def g60 {R : Type} (N : Nat) (S85 : V19 → Option (Int)) (x0 : V21) (k : Int → Option R) : Option R :=
(g60_18 N S85 x0 (fun y0 => k y0) (fun y0 => k y0))
theorem gen60 {N : Nat} {cl : Cal} (S85 : V19 → Option (Int)) (h85 : (ctr85 S85).holds cl) (x0 : V21) {R : Type} (k : List E → Option R) : exec cl N c60 (params 0 [.v U21 x0]) (fun e env => (retK d60 e env).bind k) = g60 N S85 x0 (fun (r0 : Int) => k [.v U2 r0]) := by
  have e0 : params 0 [.v U21 x0] = [(0, .v U21 x0)] := by kernel_rfl
  simp only [c60, e0, t60_18 S85 h85, rk60_0, rk60_1, Option.bind_some]
  rfl
def ctr60 (S : V21 → Option (Int)) : Ctr := { A := V21 × Unit, B := Int, f := 60, enc := fun a => [.v U21 a.1], dec := (decC (decV U21) dec0), S := fun a => S a.1, ent := fun b => [.v U2 b], ok := (decV_cons (T := U21) (fun es b h => dec0_some h)) }
def S60 (N : Nat) (x0 : V21) : Option (Int) := g60 N (S85 N) x0 (fun (r0 : Int) => some (r0))
def g33_0 {R : Type} (x0 : V21) (x1 : V21) (k0 : V21 → V21 → Option R) : Option R :=
k0 x0 x1
theorem t33_0 {N cl} {R} (K : KE R) (x0 x1) : exec cl N c33_0 [(0, .v U21 x0), (1, .v U21 x1)] K = (g33_0 x0 x1 (fun y0 y1 => K .normal [(0, .v U21 y0), (1, .v U21 y1)])) := by
  kernel_rfl
def g33_1 {R : Type} (S60 : V21 → Option (Int)) (x0 : V21) (x1 : V21) (k0 : V21 → Int → Option R) : Option R :=
(S60 x0).bind fun r353 =>
k0 x1 r353
theorem t33_1 {N cl} (S60) (h60 : (ctr60 S60).holds cl) {R} (K : KE R) (x0 x1) : exec cl N c33_1 [(0, .v U21 x0), (1, .v U21 x1)] K = (g33_1 S60 x0 x1 (fun y0 y1 => K .normal [(1, .v U21 y0), (5, .v U2 y1)])) := by
  rw [← put_eq h60]
  kernel_rfl
def g33_2 {R : Type} (x0 : V21) (x1 : Int) (k0 : V21 → Int → Bool → Option R) : Option R :=
k0 x0 x1 (x1 != (0 : Int))
theorem t33_2 {N cl} {R} (K : KE R) (x0 x1) : exec cl N c33_2 [(1, .v U21 x0), (5, .v U2 x1)] K = (g33_2 x0 x1 (fun y0 y1 y2 => K .normal [(1, .v U21 y0), (5, .v U2 y1), (9, .v .bool y2)])) := by
  kernel_rfl
def g33_3 {R : Type} (x0 : V21) (x1 : Int) (x2 : Bool) (k0 : Int → Option R) : Option R :=
k0 x1
theorem t33_3 {N cl} {R} (K : KE R) (x0 x1 x2) : exec cl N c33_3 [(1, .v U21 x0), (5, .v U2 x1), (9, .v .bool x2)] K = (g33_3 x0 x1 x2 (fun y0 => K .normal [(4, .v U2 y0)])) := by
  kernel_rfl
theorem kp33_0 (x0) : keep [1, 4] [(4, .v U2 x0)] = [(1, .dead), (4, .v U2 x0)] := by kernel_rfl
theorem kp33_1 (x0 x1 x2) : keep [1, 4] [(1, .v U21 x0), (5, .v U2 x1), (9, .v .bool x2)] = [(1, .v U21 x0), (4, .dead)] := by kernel_rfl
theorem hb33_0 (x0 : V21) (x1 : Int) (x2 : Bool) : boolOf? (ent [(1, .v U21 x0), (5, .v U2 x1), (9, .v .bool x2)] (.t 9)) = some x2 := by kernel_rfl
def g33_5 {R : Type} (S60 : V21 → Option (Int)) (x0 : V21) (k0 : Int → Option R) : Option R :=
(S60 x0).bind fun r355 =>
k0 r355
theorem t33_5 {N cl} (S60) (h60 : (ctr60 S60).holds cl) {R} (K : KE R) (x0) : exec cl N c33_5 [(1, .v U21 x0), (4, .dead)] K = (g33_5 S60 x0 (fun y0 => K .normal [(4, .v U2 y0)])) := by
  rw [← put_eq h60]
  kernel_rfl
def g33_6 {R : Type} (S60 : V21 → Option (Int)) (x0 : V21) (x1 : V21) (k0 : Int → Option R) (k1 : Int → Option R) : Option R :=
(g33_0 x0 x1 (fun y0 y1 => (g33_1 S60 y0 y1 (fun y0 y1 => (g33_2 y0 y1 (fun y0 y1 y2 => brB y2 (g33_3 y0 y1 y2 (fun y0 => ((fun y0 => (k0 y0)) y0))) ((fun y0 => (g33_5 S60 y0 (fun y0 => (k1 y0)))) y0)))))))
theorem t33_6 {N cl} (S60) (h60 : (ctr60 S60).holds cl) {R} (K : KE R) (x0 x1) : exec cl N c33_6 [(0, .v U21 x0), (1, .v U21 x1)] K = (g33_6 S60 x0 x1 (fun y0 => K .ret [(1, .dead), (4, .v U2 y0)]) (fun y0 => K .ret [(4, .v U2 y0)])) := by
  simp only [c33_6, exec_seq, seqK_normal, seqK_exit, seqK_ret, t33_0, t33_1 S60 h60, t33_2, c33_4, exec_out, exec_cond', hb33_0, Option.bind_some, brB_true, brB_false, t33_3, exec_ret, exec_skip, kp33_0, kp33_1, t33_5 S60 h60]
  rfl
theorem rk33_0 (y0 : Int) : retK d33 .ret [(1, .dead), (4, .v U2 y0)] = some [.v U2 y0] := by kernel_rfl
theorem rk33_1 (y0 : Int) : retK d33 .ret [(4, .v U2 y0)] = some [.v U2 y0] := by kernel_rfl
def g33 {R : Type} (S60 : V21 → Option (Int)) (x0 : V21) (x1 : V21) (k : Int → Option R) : Option R :=
(g33_6 S60 x0 x1 (fun y0 => k y0) (fun y0 => k y0))
theorem gen33 {N : Nat} {cl : Cal} (S60 : V21 → Option (Int)) (h60 : (ctr60 S60).holds cl) (x0 : V21) (x1 : V21) {R : Type} (k : List E → Option R) : exec cl N c33 (params 0 [.v U21 x0, .v U21 x1]) (fun e env => (retK d33 e env).bind k) = g33 S60 x0 x1 (fun (r0 : Int) => k [.v U2 r0]) := by
  have e0 : params 0 [.v U21 x0, .v U21 x1] = [(0, .v U21 x0), (1, .v U21 x1)] := by kernel_rfl
  simp only [c33, e0, t33_6 S60 h60, rk33_0, rk33_1, Option.bind_some]
  rfl
def ctr33 (S : V21 → V21 → Option (Int)) : Ctr := { A := V21 × V21 × Unit, B := Int, f := 33, enc := fun a => [.v U21 a.1, .v U21 a.2.1], dec := (decC (decV U21) (decC (decV U21) dec0)), S := fun a => S a.1 a.2.1, ent := fun b => [.v U2 b], ok := (decV_cons (T := U21) (decV_cons (T := U21) (fun es b h => dec0_some h))) }
def S33 (N : Nat) (x0 : V21) (x1 : V21) : Option (Int) := g33 (S60 N) x0 x1 (fun (r0 : Int) => some (r0))
def g64_0 {R : Type} (x0 : V19) (k0 : V19 → Option R) : Option R :=
k0 x0
theorem t64_0 {N cl} {R} (K : KE R) (x0) : exec cl N c64_0 [(0, .v U17 x0)] K = (g64_0 x0 (fun y0 => K .normal [(1, .loc U17 .no y0)])) := by
  kernel_rfl
def g64_1 {R : Type} (x0 : V19) (k0 : Bool → Option R) : Option R :=
brB (x0.1 == (1 : Int)) (k0 true) (k0 (x0.1 == (2 : Int)))
theorem t64_1 {N cl} {R} (K : KE R) (x0) : exec cl N c64_1 [(1, .loc U17 .no x0)] K = (g64_1 x0 (fun y0 => K .normal [(2, .v .bool y0)])) := by
  kernel_rfl
def g64_2 {R : Type} (x0 : V19) (k0 : Bool → Option R) : Option R :=
(g64_0 x0 (fun y0 => (g64_1 y0 (fun y0 => (k0 y0)))))
theorem t64_2 {N cl} {R} (K : KE R) (x0) : exec cl N c64_2 [(0, .v U17 x0)] K = (g64_2 x0 (fun y0 => K .ret [(2, .v .bool y0)])) := by
  simp only [c64_2, exec_seq, seqK_normal, seqK_exit, seqK_ret, t64_0, t64_1, exec_ret]
  rfl
theorem rk64_0 (y0 : Bool) : retK d64 .ret [(2, .v .bool y0)] = some [.v .bool y0] := by kernel_rfl
def g64 {R : Type} (x0 : V19) (k : Bool → Option R) : Option R :=
(g64_2 x0 (fun y0 => k y0))
theorem gen64 {N : Nat} {cl : Cal} (x0 : V19) {R : Type} (k : List E → Option R) : exec cl N c64 (params 0 [.v U17 x0]) (fun e env => (retK d64 e env).bind k) = g64 x0 (fun (r0 : Bool) => k [.v .bool r0]) := by
  have e0 : params 0 [.v U17 x0] = [(0, .v U17 x0)] := by kernel_rfl
  simp only [c64, e0, t64_2, rk64_0, Option.bind_some]
  rfl
def ctr64 (S : V19 → Option (Bool)) : Ctr := { A := V19 × Unit, B := Bool, f := 64, enc := fun a => [.v U17 a.1], dec := (decC (decV U17) dec0), S := fun a => S a.1, ent := fun b => [.v .bool b], ok := (decV_cons (T := U17) (fun es b h => dec0_some h)) }
def S64 (N : Nat) (x0 : V19) : Option (Bool) := g64 x0 (fun (r0 : Bool) => some (r0))
def g37_0 {R : Type} (x0 : V21) (k0 : V21 → Option R) : Option R :=
k0 x0
theorem t37_0 {N cl} {R} (K : KE R) (x0) : exec cl N c37_0 [(0, .v U21 x0)] K = (g37_0 x0 (fun y0 => K .normal [(0, .v U21 y0)])) := by
  kernel_rfl
def g37_1 {R : Type} (x0 : V21) (k0 : V21 → Int → Option R) : Option R :=
k0 x0 (x0.length : Int)
theorem t37_1 {N cl} {R} (K : KE R) (x0) : exec cl N c37_1 [(0, .v U21 x0)] K = (g37_1 x0 (fun y0 y1 => K .normal [(0, .v U21 y0), (3, .v U2 y1)])) := by
  kernel_rfl
def g37_2 {R : Type} (S64 : V19 → Option (Bool)) (x0 : V21) (x1 : Int) (k0 : V21 → Int → Bool → Option R) : Option R :=
brB (decide (x1 > (0 : Int))) (let v373 : Int := (IntKind.i64.wrap (x1 - (1 : Int)))
if 0 ≤ v373 ∧ v373 < (x0.length : Int) then
(S64 (x0.getD v373.toNat ((0 : Int), ((0 : Int), ([], ()))))).bind fun r374 =>
k0 x0 x1 r374
else none) (k0 x0 x1 false)
theorem t37_2 {N cl} (S64) (h64 : (ctr64 S64).holds cl) {R} (K : KE R) (x0 x1) : exec cl N c37_2 [(0, .v U21 x0), (3, .v U2 x1)] K = (g37_2 S64 x0 x1 (fun y0 y1 y2 => K .normal [(0, .v U21 y0), (3, .v U2 y1), (6, .v .bool y2)])) := by
  rw [← put_eq h64]
  kernel_rfl
def g37_3 {R : Type} (x0 : V21) (x1 : Int) (x2 : Bool) (k0 : Int → Option R) : Option R :=
k0 (1 : Int)
theorem t37_3 {N cl} {R} (K : KE R) (x0 x1 x2) : exec cl N c37_3 [(0, .v U21 x0), (3, .v U2 x1), (6, .v .bool x2)] K = (g37_3 x0 x1 x2 (fun y0 => K .normal [(2, .v U2 y0)])) := by
  kernel_rfl
theorem kp37_0 (x0) : keep [2] [(2, .v U2 x0)] = [(2, .v U2 x0)] := by kernel_rfl
def g37_4 {R : Type} (S64 : V19 → Option (Bool)) (x0 : V21) (x1 : Int) (x2 : Bool) (k0 : Bool → Option R) : Option R :=
brB (decide (x1 > (1 : Int))) (let v376 : Int := (IntKind.i64.wrap (x1 - (2 : Int)))
if 0 ≤ v376 ∧ v376 < (x0.length : Int) then
(S64 (x0.getD v376.toNat ((0 : Int), ((0 : Int), ([], ()))))).bind fun r377 =>
brB r377 (let v378 : Int := (IntKind.i64.wrap (x1 - (1 : Int)))
if 0 ≤ v378 ∧ v378 < (x0.length : Int) then
brB ((x0.getD v378.toNat ((0 : Int), ((0 : Int), ([], ())))).1 == (5 : Int)) (let v380 : Int := (IntKind.i64.wrap (x1 - (1 : Int)))
if 0 ≤ v380 ∧ v380 < (x0.length : Int) then
k0 ((x0.getD v380.toNat ((0 : Int), ((0 : Int), ([], ())))).2.2.1 == ([109] : List UInt8))
else none) (k0 false)
else none) (k0 false)
else none) (k0 false)
theorem t37_4 {N cl} (S64) (h64 : (ctr64 S64).holds cl) {R} (K : KE R) (x0 x1 x2) : exec cl N c37_4 [(0, .v U21 x0), (3, .v U2 x1), (6, .v .bool x2)] K = (g37_4 S64 x0 x1 x2 (fun y0 => K .normal [(17, .v .bool y0)])) := by
  rw [← put_eq h64]
  kernel_rfl
def g37_5 {R : Type} (x0 : Bool) (k0 : Int → Option R) : Option R :=
k0 (2 : Int)
theorem t37_5 {N cl} {R} (K : KE R) (x0) : exec cl N c37_5 [(17, .v .bool x0)] K = (g37_5 x0 (fun y0 => K .normal [(2, .v U2 y0)])) := by
  kernel_rfl
theorem kp37_1 (x0) : keep [2] [(17, .v .bool x0)] = [(2, .dead)] := by kernel_rfl
theorem hb37_0 (x0 : Bool) : boolOf? (ent [(17, .v .bool x0)] (.t 17)) = some x0 := by kernel_rfl
theorem kp37_2 : keep [2] [(2, .dead)] = [(2, .dead)] := by kernel_rfl
theorem hb37_1 (x0 : V21) (x1 : Int) (x2 : Bool) : boolOf? (ent [(0, .v U21 x0), (3, .v U2 x1), (6, .v .bool x2)] (.t 6)) = some x2 := by kernel_rfl
def g37_9 {R : Type} (k0 : Int → Option R) : Option R :=
k0 (0 : Int)
theorem t37_9 {N cl} {R} (K : KE R) : exec cl N c37_9 [(2, .dead)] K = (g37_9 (fun y0 => K .normal [(2, .v U2 y0)])) := by
  kernel_rfl
def g37_10 {R : Type} (S64 : V19 → Option (Bool)) (x0 : V21) (k0 : Int → Option R) : Option R :=
(g37_0 x0 (fun y0 => (g37_1 y0 (fun y0 y1 => (g37_2 S64 y0 y1 (fun y0 y1 y2 => brB y2 (g37_3 y0 y1 y2 (fun y0 => ((fun y0 => (k0 y0)) y0))) (g37_4 S64 y0 y1 y2 (fun y0 => brB y0 (g37_5 y0 (fun y0 => ((fun y0 => (k0 y0)) y0))) (g37_9 (fun y0 => (k0 y0)))))))))))
theorem t37_10 {N cl} (S64) (h64 : (ctr64 S64).holds cl) {R} (K : KE R) (x0) : exec cl N c37_10 [(0, .v U21 x0)] K = (g37_10 S64 x0 (fun y0 => K .ret [(2, .v U2 y0)])) := by
  simp only [c37_10, exec_seq, seqK_normal, seqK_exit, seqK_ret, t37_0, t37_1, c37_8, exec_out, exec_block, t37_2 S64 h64, c37_7, exec_cond', hb37_1, Option.bind_some, brB_true, brB_false, t37_3, exec_ret, t37_4 S64 h64, c37_6, hb37_0, t37_5, exec_skip, kp37_0, kp37_1, kp37_2, blockK_normal, blockK_ret, blockK_eq, t37_9]
  rfl
theorem rk37_0 (y0 : Int) : retK d37 .ret [(2, .v U2 y0)] = some [.v U2 y0] := by kernel_rfl
def g37 {R : Type} (S64 : V19 → Option (Bool)) (x0 : V21) (k : Int → Option R) : Option R :=
(g37_10 S64 x0 (fun y0 => k y0))
theorem gen37 {N : Nat} {cl : Cal} (S64 : V19 → Option (Bool)) (h64 : (ctr64 S64).holds cl) (x0 : V21) {R : Type} (k : List E → Option R) : exec cl N c37 (params 0 [.v U21 x0]) (fun e env => (retK d37 e env).bind k) = g37 S64 x0 (fun (r0 : Int) => k [.v U2 r0]) := by
  have e0 : params 0 [.v U21 x0] = [(0, .v U21 x0)] := by kernel_rfl
  simp only [c37, e0, t37_10 S64 h64, rk37_0, Option.bind_some]
  rfl
def ctr37 (S : V21 → Option (Int)) : Ctr := { A := V21 × Unit, B := Int, f := 37, enc := fun a => [.v U21 a.1], dec := (decC (decV U21) dec0), S := fun a => S a.1, ent := fun b => [.v U2 b], ok := (decV_cons (T := U21) (fun es b h => dec0_some h)) }
def S37 (N : Nat) (x0 : V21) : Option (Int) := g37 (S64 N) x0 (fun (r0 : Int) => some (r0))
def g81_0 {R : Type} (x0 : V19) (k0 : V19 → Option R) : Option R :=
k0 x0
theorem t81_0 {N cl} {R} (K : KE R) (x0) : exec cl N c81_0 [(0, .v U17 x0)] K = (g81_0 x0 (fun y0 => K .normal [(1, .loc U17 .no y0)])) := by
  kernel_rfl
def g81_1 {R : Type} (x0 : V19) (k0 : Bool → Option R) : Option R :=
k0 (x0.1 != (9 : Int))
theorem t81_1 {N cl} {R} (K : KE R) (x0) : exec cl N c81_1 [(1, .loc U17 .no x0)] K = (g81_1 x0 (fun y0 => K .normal [(2, .v .bool y0)])) := by
  kernel_rfl
def g81_2 {R : Type} (x0 : V19) (k0 : Bool → Option R) : Option R :=
(g81_0 x0 (fun y0 => (g81_1 y0 (fun y0 => (k0 y0)))))
theorem t81_2 {N cl} {R} (K : KE R) (x0) : exec cl N c81_2 [(0, .v U17 x0)] K = (g81_2 x0 (fun y0 => K .ret [(2, .v .bool y0)])) := by
  simp only [c81_2, exec_seq, seqK_normal, seqK_exit, seqK_ret, t81_0, t81_1, exec_ret]
  rfl
theorem rk81_0 (y0 : Bool) : retK d81 .ret [(2, .v .bool y0)] = some [.v .bool y0] := by kernel_rfl
def g81 {R : Type} (x0 : V19) (k : Bool → Option R) : Option R :=
(g81_2 x0 (fun y0 => k y0))
theorem gen81 {N : Nat} {cl : Cal} (x0 : V19) {R : Type} (k : List E → Option R) : exec cl N c81 (params 0 [.v U17 x0]) (fun e env => (retK d81 e env).bind k) = g81 x0 (fun (r0 : Bool) => k [.v .bool r0]) := by
  have e0 : params 0 [.v U17 x0] = [(0, .v U17 x0)] := by kernel_rfl
  simp only [c81, e0, t81_2, rk81_0, Option.bind_some]
  rfl
def ctr81 (S : V19 → Option (Bool)) : Ctr := { A := V19 × Unit, B := Bool, f := 81, enc := fun a => [.v U17 a.1], dec := (decC (decV U17) dec0), S := fun a => S a.1, ent := fun b => [.v .bool b], ok := (decV_cons (T := U17) (fun es b h => dec0_some h)) }
def S81 (N : Nat) (x0 : V19) : Option (Bool) := g81 x0 (fun (r0 : Bool) => some (r0))
def g80_0 {R : Type} (x0 : V21) (x1 : V27) (k0 : V21 → V27 → Option R) : Option R :=
k0 x0 x1
theorem t80_0 {N cl} {R} (K : KE R) (x0 x1) : exec cl N c80_0 [(0, .v U21 x0), (1, .v U26 x1)] K = (g80_0 x0 x1 (fun y0 y1 => K .normal [(0, .v U21 y0), (1, .v U26 y1)])) := by
  kernel_rfl
def g80_1 {R : Type} (x0 : V21) (x1 : V27) (k0 : V21 → V27 → Int → Int → Option R) : Option R :=
k0 x0 x1 (x0.length : Int) (0 : Int)
theorem t80_1 {N cl} {R} (K : KE R) (x0 x1) : exec cl N c80_1 [(0, .v U21 x0), (1, .v U26 x1)] K = (g80_1 x0 x1 (fun y0 y1 y2 y3 => K .normal [(0, .v U21 y0), (1, .v U26 y1), (7, .v U2 y2), (8, .v U2 y3)])) := by
  kernel_rfl
theorem kp80_0 (x0 x1 x2 x3) : keep [0, 1, 7, 8] [(0, .v U21 x0), (1, .v U26 x1), (7, .v U2 x2), (8, .v U2 x3)] = [(0, .v U21 x0), (1, .v U26 x1), (7, .v U2 x2), (8, .v U2 x3)] := by kernel_rfl
def g80_2 {R : Type} (x0 : V21) (x1 : V27) (x2 : Int) (x3 : Int) (k0 : V21 → V27 → Int → Int → Bool → Option R) : Option R :=
k0 x0 x1 x2 x3 (decide (x3 < x2))
theorem t80_2 {N cl} {R} (K : KE R) (x0 x1 x2 x3) : exec cl N c80_2 [(0, .v U21 x0), (1, .v U26 x1), (7, .v U2 x2), (8, .v U2 x3)] K = (g80_2 x0 x1 x2 x3 (fun y0 y1 y2 y3 y4 => K .normal [(0, .v U21 y0), (1, .v U26 y1), (7, .v U2 y2), (8, .v U2 y3), (9, .v .bool y4)])) := by
  kernel_rfl
theorem kp80_1 (x0 x1 x2 x3 x4) : keep [0, 1, 7, 8] [(0, .v U21 x0), (1, .v U26 x1), (7, .v U2 x2), (8, .v U2 x3), (9, .v .bool x4)] = [(0, .v U21 x0), (1, .v U26 x1), (7, .v U2 x2), (8, .v U2 x3)] := by kernel_rfl
theorem hb80_0 (x0 : V21) (x1 : V27) (x2 : Int) (x3 : Int) (x4 : Bool) : boolOf? (ent [(0, .v U21 x0), (1, .v U26 x1), (7, .v U2 x2), (8, .v U2 x3), (9, .v .bool x4)] (.t 9)) = some x4 := by kernel_rfl
def g80_4 {R : Type} (x0 : V21) (x1 : V27) (x2 : Int) (x3 : Int) (k0 : V21 → V27 → Int → Int → Int → Option R) : Option R :=
k0 x0 x1 x3 x2 x3
theorem t80_4 {N cl} {R} (K : KE R) (x0 x1 x2 x3) : exec cl N c80_4 [(0, .v U21 x0), (1, .v U26 x1), (7, .v U2 x2), (8, .v U2 x3)] K = (g80_4 x0 x1 x2 x3 (fun y0 y1 y2 y3 y4 => K .normal [(0, .v U21 y0), (1, .v U26 y1), (5, .v U2 y2), (7, .v U2 y3), (8, .v U2 y4)])) := by
  kernel_rfl
def g80_5 {R : Type} (x0 : V21) (x1 : V27) (x2 : Int) (x3 : Int) (x4 : Int) (k0 : V21 → V27 → Int → Int → Int → Bool → Option R) : Option R :=
if 0 ≤ x2 ∧ x2 < (x0.length : Int) then
(x1 ((x0.getD x2.toNat ((0 : Int), ((0 : Int), ([], ())))), ())).bind fun r392 =>
k0 x0 x1 x2 x3 x4 r392
else none
theorem t80_5 {N cl} {R} (K : KE R) (x0 x1 x2 x3 x4) : exec cl N c80_5 [(0, .v U21 x0), (1, .v U26 x1), (5, .v U2 x2), (7, .v U2 x3), (8, .v U2 x4)] K = (g80_5 x0 x1 x2 x3 x4 (fun y0 y1 y2 y3 y4 y5 => K .normal [(0, .v U21 y0), (1, .v U26 y1), (5, .v U2 y2), (7, .v U2 y3), (8, .v U2 y4), (16, .v .bool y5)])) := by
  kernel_rfl
def g80_6 {R : Type} (x0 : V21) (x1 : V27) (x2 : Int) (x3 : Int) (x4 : Int) (x5 : Bool) (k0 : Int → Option R) : Option R :=
k0 x2
theorem t80_6 {N cl} {R} (K : KE R) (x0 x1 x2 x3 x4 x5) : exec cl N c80_6 [(0, .v U21 x0), (1, .v U26 x1), (5, .v U2 x2), (7, .v U2 x3), (8, .v U2 x4), (16, .v .bool x5)] K = (g80_6 x0 x1 x2 x3 x4 x5 (fun y0 => K .normal [(4, .v U2 y0)])) := by
  kernel_rfl
theorem kp80_2 (x0) : keep [0, 1, 4, 7, 8] [(4, .v U2 x0)] = [(0, .dead), (1, .dead), (4, .v U2 x0), (7, .dead), (8, .dead)] := by kernel_rfl
theorem kp80_3 (x0 x1 x2 x3 x4 x5) : keep [0, 1, 4, 7, 8] [(0, .v U21 x0), (1, .v U26 x1), (5, .v U2 x2), (7, .v U2 x3), (8, .v U2 x4), (16, .v .bool x5)] = [(0, .v U21 x0), (1, .v U26 x1), (4, .dead), (7, .v U2 x3), (8, .v U2 x4)] := by kernel_rfl
theorem hb80_1 (x0 : V21) (x1 : V27) (x2 : Int) (x3 : Int) (x4 : Int) (x5 : Bool) : boolOf? (ent [(0, .v U21 x0), (1, .v U26 x1), (5, .v U2 x2), (7, .v U2 x3), (8, .v U2 x4), (16, .v .bool x5)] (.t 16)) = some x5 := by kernel_rfl
theorem kp80_4 (x0) : keep [0, 1, 4, 7, 8] [(0, .dead), (1, .dead), (4, .v U2 x0), (7, .dead), (8, .dead)] = [(0, .dead), (1, .dead), (4, .v U2 x0), (7, .dead), (8, .dead)] := by kernel_rfl
theorem kp80_5 (x0 x1 x2 x3) : keep [0, 1, 4, 7, 8] [(0, .v U21 x0), (1, .v U26 x1), (4, .dead), (7, .v U2 x2), (8, .v U2 x3)] = [(0, .v U21 x0), (1, .v U26 x1), (4, .dead), (7, .v U2 x2), (8, .v U2 x3)] := by kernel_rfl
def g80_9 {R : Type} (x0 : V21) (x1 : V27) (x2 : Int) (x3 : Int) (k0 : V21 → V27 → Int → Int → Option R) : Option R :=
k0 x0 x1 x2 (IntKind.i64.wrap (x3 + (1 : Int)))
theorem t80_9 {N cl} {R} (K : KE R) (x0 x1 x2 x3) : exec cl N c80_9 [(0, .v U21 x0), (1, .v U26 x1), (4, .dead), (7, .v U2 x2), (8, .v U2 x3)] K = (g80_9 x0 x1 x2 x3 (fun y0 y1 y2 y3 => K .normal [(0, .v U21 y0), (1, .v U26 y1), (7, .v U2 y2), (8, .v U2 y3)])) := by
  kernel_rfl
def g80_10 {R : Type} (x0 : V21) (x1 : V27) (x2 : Int) (x3 : Int) (k0 : Int → Option R) (k1 : V21 → V27 → Int → Int → Option R) (k2 : V21 → V27 → Int → Int → Option R) : Option R :=
(g80_2 x0 x1 x2 x3 (fun y0 y1 y2 y3 y4 => brB y4 ((fun y0 y1 y2 y3 => (g80_4 y0 y1 y2 y3 (fun y0 y1 y2 y3 y4 => (g80_5 y0 y1 y2 y3 y4 (fun y0 y1 y2 y3 y4 y5 => brB y5 (g80_6 y0 y1 y2 y3 y4 y5 (fun y0 => ((fun y0 => (k0 y0)) y0))) (g80_9 y0 y1 y3 y4 k1)))))) y0 y1 y2 y3) (k2 y0 y1 y2 y3)))
theorem t80_10 {N cl} {R} (K : KE R) (x0 x1 x2 x3) : exec cl N c80_10 [(0, .v U21 x0), (1, .v U26 x1), (7, .v U2 x2), (8, .v U2 x3)] K = (g80_10 x0 x1 x2 x3 (fun y0 => K .ret [(0, .dead), (1, .dead), (4, .v U2 y0), (7, .dead), (8, .dead)]) (fun y0 y1 y2 y3 => K .normal [(0, .v U21 y0), (1, .v U26 y1), (7, .v U2 y2), (8, .v U2 y3)]) (fun y0 y1 y2 y3 => K (.exit 0) [(0, .v U21 y0), (1, .v U26 y1), (7, .v U2 y2), (8, .v U2 y3)])) := by
  simp only [c80_10, exec_seq, seqK_normal, seqK_exit, seqK_ret, t80_2, c80_3, exec_out, exec_cond', hb80_0, Option.bind_some, brB_true, brB_false, exec_skip, exec_exit, kp80_1, c80_8, exec_block, t80_4, t80_5, c80_7, hb80_1, t80_6, exec_ret, kp80_2, kp80_3, blockK_normal, blockK_ret, blockK_eq, kp80_4, kp80_5, t80_9]
  rfl
def l80_11 {R : Type} (k0 : Int → Option R) (k1 : V21 → V27 → Int → Int → Option R) : Nat → V21 → V27 → Int → Int → Option R
  | 0, _, _, _, _ => none
  | m + 1, x0, x1, x2, x3 => (g80_10 x0 x1 x2 x3 k0 (fun y0 y1 y2 y3 => l80_11 k0 k1 m y0 y1 y2 y3) k1)
theorem lt80_11 {N cl} {R} (K : KE R) : ∀ (m) (x0 x1 x2 x3), iter [0, 1, 7, 8] (fun env K => exec cl N c80_10 env K) K m [(0, .v U21 x0), (1, .v U26 x1), (7, .v U2 x2), (8, .v U2 x3)] = l80_11 (fun y0 => K .ret [(0, .dead), (1, .dead), (4, .v U2 y0), (7, .dead), (8, .dead)]) (fun y0 y1 y2 y3 => K (.exit 0) [(0, .v U21 y0), (1, .v U26 y1), (7, .v U2 y2), (8, .v U2 y3)]) m x0 x1 x2 x3 := by
  intro m
  induction m with
  | zero => intros; rfl
  | succ m ih =>
    intro x0 x1 x2 x3
    simp only [iter_succ, t80_10, loopK_normal, loopK_exit, loopK_ret, kp80_0, ih]
    rfl
theorem kp80_6 (x0) : keep [4] [(0, .dead), (1, .dead), (4, .v U2 x0), (7, .dead), (8, .dead)] = [(4, .v U2 x0)] := by kernel_rfl
theorem kp80_7 (x0 x1 x2 x3) : keep [4] [(0, .v U21 x0), (1, .v U26 x1), (7, .v U2 x2), (8, .v U2 x3)] = [(4, .dead)] := by kernel_rfl
def g80_11 {R : Type} (N : Nat) (x0 : V21) (x1 : V27) (x2 : Int) (x3 : Int) (k0 : Int → Option R) (k1 : Option R) : Option R :=
l80_11 (fun y0 => k0 y0) (fun y0 y1 y2 y3 => k1) N x0 x1 x2 x3
theorem t80_11 {N cl} {R} (K : KE R) (x0 x1 x2 x3) : exec cl N c80_11 [(0, .v U21 x0), (1, .v U26 x1), (7, .v U2 x2), (8, .v U2 x3)] K = (g80_11 N x0 x1 x2 x3 (fun y0 => K .ret [(4, .v U2 y0)]) (K (.exit 0) [(4, .dead)])) := by
  simp only [c80_11, exec_out, exec_loop, kp80_0, lt80_11, kp80_6, kp80_7]
  rfl
theorem kp80_8 (x0) : keep [4] [(4, .v U2 x0)] = [(4, .v U2 x0)] := by kernel_rfl
theorem kp80_9 : keep [4] [(4, .dead)] = [(4, .dead)] := by kernel_rfl
def g80_13 {R : Type} (k0 : Int → Option R) : Option R :=
k0 (-1 : Int)
theorem t80_13 {N cl} {R} (K : KE R) : exec cl N c80_13 [(4, .dead)] K = (g80_13 (fun y0 => K .normal [(4, .v U2 y0)])) := by
  kernel_rfl
def g80_14 {R : Type} (N : Nat) (x0 : V21) (x1 : V27) (k0 : Int → Option R) : Option R :=
(g80_0 x0 x1 (fun y0 y1 => (g80_1 y0 y1 (fun y0 y1 y2 y3 => (g80_11 N y0 y1 y2 y3 (fun y0 => (k0 y0)) (g80_13 (fun y0 => (k0 y0))))))))
theorem t80_14 {N cl} {R} (K : KE R) (x0 x1) : exec cl N c80_14 [(0, .v U21 x0), (1, .v U26 x1)] K = (g80_14 N x0 x1 (fun y0 => K .ret [(4, .v U2 y0)])) := by
  simp only [c80_14, exec_seq, seqK_normal, seqK_exit, seqK_ret, t80_0, t80_1, c80_12, exec_out, exec_block, t80_11, blockK_normal, blockK_ret, blockK_eq, kp80_8, kp80_9, t80_13, exec_ret]
  rfl
theorem rk80_0 (y0 : Int) : retK d80 .ret [(4, .v U2 y0)] = some [.v U2 y0] := by kernel_rfl
def g80 {R : Type} (N : Nat) (x0 : V21) (x1 : V27) (k : Int → Option R) : Option R :=
(g80_14 N x0 x1 (fun y0 => k y0))
theorem gen80 {N : Nat} {cl : Cal} (x0 : V21) (x1 : V27) {R : Type} (k : List E → Option R) : exec cl N c80 (params 0 [.v U21 x0, .v U26 x1]) (fun e env => (retK d80 e env).bind k) = g80 N x0 x1 (fun (r0 : Int) => k [.v U2 r0]) := by
  have e0 : params 0 [.v U21 x0, .v U26 x1] = [(0, .v U21 x0), (1, .v U26 x1)] := by kernel_rfl
  simp only [c80, e0, t80_14, rk80_0, Option.bind_some]
  rfl
def ctr80 (S : V21 → V27 → Option (Int)) : Ctr := { A := V21 × V27 × Unit, B := Int, f := 80, enc := fun a => [.v U21 a.1, .v U26 a.2.1], dec := (decC (decV U21) (decC (decV U26) dec0)), S := fun a => S a.1 a.2.1, ent := fun b => [.v U2 b], ok := (decV_cons (T := U21) (decV_cons (T := U26) (fun es b h => dec0_some h))) }
def S80 (N : Nat) (x0 : V21) (x1 : V27) : Option (Int) := g80 N x0 x1 (fun (r0 : Int) => some (r0))
def g53_0 {R : Type} (x0 : V21) (k0 : V21 → Option R) : Option R :=
k0 x0
theorem t53_0 {N cl} {R} (K : KE R) (x0) : exec cl N c53_0 [(0, .v U21 x0)] K = (g53_0 x0 (fun y0 => K .normal [(0, .v U21 y0)])) := by
  kernel_rfl
def g53_1 {R : Type} (S80 : V21 → V27 → Option (Int)) (S81 : V19 → Option (Bool)) (x0 : V21) (k0 : V21 → Int → Option R) : Option R :=
(S80 x0 (fun (x396 : (V19 × Unit)) => ((S81 x396.1).bind fun b397 => some [.v .bool b397]).bind (unE .bool))).bind fun r398 =>
k0 x0 r398
theorem t53_1 {N cl} (S80) (S81) (h80 : (ctr80 S80).holds cl) (h81 : (ctr81 S81).holds cl) {R} (K : KE R) (x0) : exec cl N c53_1 [(0, .v U21 x0)] K = (g53_1 S80 S81 x0 (fun y0 y1 => K .normal [(0, .v U21 y0), (3, .v U2 y1)])) := by
  rw [← put_eq h80]
  rw [← put_eq h81]
  kernel_rfl
def g53_2 {R : Type} (x0 : V21) (x1 : Int) (k0 : V21 → Int → Bool → Option R) : Option R :=
k0 x0 x1 (decide (x1 < (0 : Int)))
theorem t53_2 {N cl} {R} (K : KE R) (x0 x1) : exec cl N c53_2 [(0, .v U21 x0), (3, .v U2 x1)] K = (g53_2 x0 x1 (fun y0 y1 y2 => K .normal [(0, .v U21 y0), (3, .v U2 y1), (7, .v .bool y2)])) := by
  kernel_rfl
def g53_3 {R : Type} (x0 : V21) (x1 : Int) (x2 : Bool) (k0 : Int → Option R) : Option R :=
k0 (x0.length : Int)
theorem t53_3 {N cl} {R} (K : KE R) (x0 x1 x2) : exec cl N c53_3 [(0, .v U21 x0), (3, .v U2 x1), (7, .v .bool x2)] K = (g53_3 x0 x1 x2 (fun y0 => K .normal [(2, .v U2 y0)])) := by
  kernel_rfl
theorem kp53_0 (x0) : keep [2, 3] [(2, .v U2 x0)] = [(2, .v U2 x0), (3, .dead)] := by kernel_rfl
theorem kp53_1 (x0 x1 x2) : keep [2, 3] [(0, .v U21 x0), (3, .v U2 x1), (7, .v .bool x2)] = [(2, .dead), (3, .v U2 x1)] := by kernel_rfl
theorem hb53_0 (x0 : V21) (x1 : Int) (x2 : Bool) : boolOf? (ent [(0, .v U21 x0), (3, .v U2 x1), (7, .v .bool x2)] (.t 7)) = some x2 := by kernel_rfl
def g53_5 {R : Type} (x0 : Int) (k0 : Int → Option R) : Option R :=
k0 x0
theorem t53_5 {N cl} {R} (K : KE R) (x0) : exec cl N c53_5 [(2, .dead), (3, .v U2 x0)] K = (g53_5 x0 (fun y0 => K .normal [(2, .v U2 y0)])) := by
  kernel_rfl
def g53_6 {R : Type} (S80 : V21 → V27 → Option (Int)) (S81 : V19 → Option (Bool)) (x0 : V21) (k0 : Int → Option R) (k1 : Int → Option R) : Option R :=
(g53_0 x0 (fun y0 => (g53_1 S80 S81 y0 (fun y0 y1 => (g53_2 y0 y1 (fun y0 y1 y2 => brB y2 (g53_3 y0 y1 y2 (fun y0 => ((fun y0 => (k0 y0)) y0))) ((fun y0 => (g53_5 y0 (fun y0 => (k1 y0)))) y1)))))))
theorem t53_6 {N cl} (S80) (S81) (h80 : (ctr80 S80).holds cl) (h81 : (ctr81 S81).holds cl) {R} (K : KE R) (x0) : exec cl N c53_6 [(0, .v U21 x0)] K = (g53_6 S80 S81 x0 (fun y0 => K .ret [(2, .v U2 y0), (3, .dead)]) (fun y0 => K .ret [(2, .v U2 y0)])) := by
  simp only [c53_6, exec_seq, seqK_normal, seqK_exit, seqK_ret, t53_0, t53_1 S80 S81 h80 h81, t53_2, c53_4, exec_out, exec_cond', hb53_0, Option.bind_some, brB_true, brB_false, t53_3, exec_ret, exec_skip, kp53_0, kp53_1, t53_5]
  rfl
theorem rk53_0 (y0 : Int) : retK d53 .ret [(2, .v U2 y0), (3, .dead)] = some [.v U2 y0] := by kernel_rfl
theorem rk53_1 (y0 : Int) : retK d53 .ret [(2, .v U2 y0)] = some [.v U2 y0] := by kernel_rfl
def g53 {R : Type} (S80 : V21 → V27 → Option (Int)) (S81 : V19 → Option (Bool)) (x0 : V21) (k : Int → Option R) : Option R :=
(g53_6 S80 S81 x0 (fun y0 => k y0) (fun y0 => k y0))
theorem gen53 {N : Nat} {cl : Cal} (S80 : V21 → V27 → Option (Int)) (S81 : V19 → Option (Bool)) (h80 : (ctr80 S80).holds cl) (h81 : (ctr81 S81).holds cl) (x0 : V21) {R : Type} (k : List E → Option R) : exec cl N c53 (params 0 [.v U21 x0]) (fun e env => (retK d53 e env).bind k) = g53 S80 S81 x0 (fun (r0 : Int) => k [.v U2 r0]) := by
  have e0 : params 0 [.v U21 x0] = [(0, .v U21 x0)] := by kernel_rfl
  simp only [c53, e0, t53_6 S80 S81 h80 h81, rk53_0, rk53_1, Option.bind_some]
  rfl
def ctr53 (S : V21 → Option (Int)) : Ctr := { A := V21 × Unit, B := Int, f := 53, enc := fun a => [.v U21 a.1], dec := (decC (decV U21) dec0), S := fun a => S a.1, ent := fun b => [.v U2 b], ok := (decV_cons (T := U21) (fun es b h => dec0_some h)) }
def S53 (N : Nat) (x0 : V21) : Option (Int) := g53 (S80 N) (S81 N) x0 (fun (r0 : Int) => some (r0))
def g61_0 {R : Type} (x0 : V21) (k0 : V21 → Option R) : Option R :=
k0 x0
theorem t61_0 {N cl} {R} (K : KE R) (x0) : exec cl N c61_0 [(0, .v U21 x0)] K = (g61_0 x0 (fun y0 => K .normal [(0, .v U21 y0)])) := by
  kernel_rfl
def g61_1 {R : Type} (S53 : V21 → Option (Int)) (x0 : V21) (k0 : V21 → Int → Option R) : Option R :=
(S53 x0).bind fun r403 =>
k0 x0 r403
theorem t61_1 {N cl} (S53) (h53 : (ctr53 S53).holds cl) {R} (K : KE R) (x0) : exec cl N c61_1 [(0, .v U21 x0)] K = (g61_1 S53 x0 (fun y0 y1 => K .normal [(0, .v U21 y0), (3, .v U2 y1)])) := by
  rw [← put_eq h53]
  kernel_rfl
def g61_2 {R : Type} (S64 : V19 → Option (Bool)) (x0 : V21) (x1 : Int) (k0 : Bool → Option R) : Option R :=
brB (decide (x1 < (x0.length : Int))) (if 0 ≤ x1 ∧ x1 < (x0.length : Int) then
(S64 (x0.getD x1.toNat ((0 : Int), ((0 : Int), ([], ()))))).bind fun r405 =>
k0 r405
else none) (k0 false)
theorem t61_2 {N cl} (S64) (h64 : (ctr64 S64).holds cl) {R} (K : KE R) (x0 x1) : exec cl N c61_2 [(0, .v U21 x0), (3, .v U2 x1)] K = (g61_2 S64 x0 x1 (fun y0 => K .normal [(2, .v .bool y0)])) := by
  rw [← put_eq h64]
  kernel_rfl
def g61_3 {R : Type} (S53 : V21 → Option (Int)) (S64 : V19 → Option (Bool)) (x0 : V21) (k0 : Bool → Option R) : Option R :=
(g61_0 x0 (fun y0 => (g61_1 S53 y0 (fun y0 y1 => (g61_2 S64 y0 y1 (fun y0 => (k0 y0)))))))
theorem t61_3 {N cl} (S53) (S64) (h53 : (ctr53 S53).holds cl) (h64 : (ctr64 S64).holds cl) {R} (K : KE R) (x0) : exec cl N c61_3 [(0, .v U21 x0)] K = (g61_3 S53 S64 x0 (fun y0 => K .ret [(2, .v .bool y0)])) := by
  simp only [c61_3, exec_seq, seqK_normal, seqK_exit, seqK_ret, t61_0, t61_1 S53 h53, t61_2 S64 h64, exec_ret]
  rfl
theorem rk61_0 (y0 : Bool) : retK d61 .ret [(2, .v .bool y0)] = some [.v .bool y0] := by kernel_rfl
def g61 {R : Type} (S53 : V21 → Option (Int)) (S64 : V19 → Option (Bool)) (x0 : V21) (k : Bool → Option R) : Option R :=
(g61_3 S53 S64 x0 (fun y0 => k y0))
theorem gen61 {N : Nat} {cl : Cal} (S53 : V21 → Option (Int)) (S64 : V19 → Option (Bool)) (h53 : (ctr53 S53).holds cl) (h64 : (ctr64 S64).holds cl) (x0 : V21) {R : Type} (k : List E → Option R) : exec cl N c61 (params 0 [.v U21 x0]) (fun e env => (retK d61 e env).bind k) = g61 S53 S64 x0 (fun (r0 : Bool) => k [.v .bool r0]) := by
  have e0 : params 0 [.v U21 x0] = [(0, .v U21 x0)] := by kernel_rfl
  simp only [c61, e0, t61_3 S53 S64 h53 h64, rk61_0, Option.bind_some]
  rfl
def ctr61 (S : V21 → Option (Bool)) : Ctr := { A := V21 × Unit, B := Bool, f := 61, enc := fun a => [.v U21 a.1], dec := (decC (decV U21) dec0), S := fun a => S a.1, ent := fun b => [.v .bool b], ok := (decV_cons (T := U21) (fun es b h => dec0_some h)) }
def S61 (N : Nat) (x0 : V21) : Option (Bool) := g61 (S53 N) (S64 N) x0 (fun (r0 : Bool) => some (r0))
def g34_0 {R : Type} (x0 : V21) (x1 : V21) (k0 : V21 → V21 → Option R) : Option R :=
k0 x0 x1
theorem t34_0 {N cl} {R} (K : KE R) (x0 x1) : exec cl N c34_0 [(0, .v U21 x0), (1, .v U21 x1)] K = (g34_0 x0 x1 (fun y0 y1 => K .normal [(0, .v U21 y0), (1, .v U21 y1)])) := by
  kernel_rfl
def g34_1 {R : Type} (S37 : V21 → Option (Int)) (x0 : V21) (x1 : V21) (k0 : V21 → V21 → Int → Option R) : Option R :=
(S37 x0).bind fun r410 =>
k0 x0 x1 r410
theorem t34_1 {N cl} (S37) (h37 : (ctr37 S37).holds cl) {R} (K : KE R) (x0 x1) : exec cl N c34_1 [(0, .v U21 x0), (1, .v U21 x1)] K = (g34_1 S37 x0 x1 (fun y0 y1 y2 => K .normal [(0, .v U21 y0), (1, .v U21 y1), (5, .v U2 y2)])) := by
  rw [← put_eq h37]
  kernel_rfl
def g34_2 {R : Type} (S61 : V21 → Option (Bool)) (x0 : V21) (x1 : V21) (x2 : Int) (k0 : V21 → Int → Bool → Option R) : Option R :=
brB (x2 == (0 : Int)) (k0 x0 x2 true) ((S61 x1).bind fun r412 =>
k0 x0 x2 (!r412))
theorem t34_2 {N cl} (S61) (h61 : (ctr61 S61).holds cl) {R} (K : KE R) (x0 x1 x2) : exec cl N c34_2 [(0, .v U21 x0), (1, .v U21 x1), (5, .v U2 x2)] K = (g34_2 S61 x0 x1 x2 (fun y0 y1 y2 => K .normal [(0, .v U21 y0), (5, .v U2 y1), (8, .v .bool y2)])) := by
  rw [← put_eq h61]
  kernel_rfl
def g34_3 {R : Type} (x0 : V21) (x1 : Int) (x2 : Bool) (k0 : V0 → Option R) : Option R :=
k0 [(0 : Int)]
theorem t34_3 {N cl} {R} (K : KE R) (x0 x1 x2) : exec cl N c34_3 [(0, .v U21 x0), (5, .v U2 x1), (8, .v .bool x2)] K = (g34_3 x0 x1 x2 (fun y0 => K .normal [(4, .own true 3 U2 .no y0)])) := by
  kernel_rfl
theorem kp34_0 (x0) : keep [4] [(4, .own true 3 U2 .no x0)] = [(4, .own true 3 U2 .no x0)] := by kernel_rfl
def g34_4 {R : Type} (x0 : V21) (x1 : Int) (x2 : Bool) (k0 : V21 → Bool → Option R) : Option R :=
k0 x0 (x1 == (2 : Int))
theorem t34_4 {N cl} {R} (K : KE R) (x0 x1 x2) : exec cl N c34_4 [(0, .v U21 x0), (5, .v U2 x1), (8, .v .bool x2)] K = (g34_4 x0 x1 x2 (fun y0 y1 => K .normal [(0, .v U21 y0), (17, .v .bool y1)])) := by
  kernel_rfl
def g34_5 {R : Type} (x0 : V21) (x1 : Bool) (k0 : V0 → Option R) : Option R :=
k0 [(1 : Int), (3 : Int)]
theorem t34_5 {N cl} {R} (K : KE R) (x0 x1) : exec cl N c34_5 [(0, .v U21 x0), (17, .v .bool x1)] K = (g34_5 x0 x1 (fun y0 => K .normal [(4, .own true 3 U2 .no y0)])) := by
  kernel_rfl
def g34_6 {R : Type} (x0 : V21) (x1 : Bool) (k0 : Bool → Option R) : Option R :=
let v414 : Int := (IntKind.i64.wrap ((x0.length : Int) - (1 : Int)))
if 0 ≤ v414 ∧ v414 < (x0.length : Int) then
k0 ((x0.getD v414.toNat ((0 : Int), ((0 : Int), ([], ())))).2.1 == (1 : Int))
else none
theorem t34_6 {N cl} {R} (K : KE R) (x0 x1) : exec cl N c34_6 [(0, .v U21 x0), (17, .v .bool x1)] K = (g34_6 x0 x1 (fun y0 => K .normal [(21, .v .bool y0)])) := by
  kernel_rfl
def g34_7 {R : Type} (x0 : Bool) (k0 : V0 → Option R) : Option R :=
k0 [(1 : Int), (2 : Int), (3 : Int)]
theorem t34_7 {N cl} {R} (K : KE R) (x0) : exec cl N c34_7 [(21, .v .bool x0)] K = (g34_7 x0 (fun y0 => K .normal [(4, .own true 3 U2 .no y0)])) := by
  kernel_rfl
theorem kp34_1 (x0) : keep [4] [(21, .v .bool x0)] = [(4, .dead)] := by kernel_rfl
theorem hb34_0 (x0 : Bool) : boolOf? (ent [(21, .v .bool x0)] (.t 21)) = some x0 := by kernel_rfl
theorem kp34_2 : keep [4] [(4, .dead)] = [(4, .dead)] := by kernel_rfl
theorem hb34_1 (x0 : V21) (x1 : Bool) : boolOf? (ent [(0, .v U21 x0), (17, .v .bool x1)] (.t 17)) = some x1 := by kernel_rfl
theorem hb34_2 (x0 : V21) (x1 : Int) (x2 : Bool) : boolOf? (ent [(0, .v U21 x0), (5, .v U2 x1), (8, .v .bool x2)] (.t 8)) = some x2 := by kernel_rfl
def g34_12 {R : Type} (k0 : V0 → Option R) : Option R :=
k0 [(1 : Int), (2 : Int), (3 : Int), (4 : Int)]
theorem t34_12 {N cl} {R} (K : KE R) : exec cl N c34_12 [(4, .dead)] K = (g34_12 (fun y0 => K .normal [(4, .own true 3 U2 .no y0)])) := by
  kernel_rfl
def g34_13 {R : Type} (S37 : V21 → Option (Int)) (S61 : V21 → Option (Bool)) (x0 : V21) (x1 : V21) (k0 : V0 → Option R) : Option R :=
(g34_0 x0 x1 (fun y0 y1 => (g34_1 S37 y0 y1 (fun y0 y1 y2 => (g34_2 S61 y0 y1 y2 (fun y0 y1 y2 => brB y2 (g34_3 y0 y1 y2 (fun y0 => ((fun y0 => (k0 y0)) y0))) (g34_4 y0 y1 y2 (fun y0 y1 => brB y1 (g34_5 y0 y1 (fun y0 => ((fun y0 => (k0 y0)) y0))) (g34_6 y0 y1 (fun y0 => brB y0 (g34_7 y0 (fun y0 => ((fun y0 => (k0 y0)) y0))) (g34_12 (fun y0 => (k0 y0)))))))))))))
theorem t34_13 {N cl} (S37) (S61) (h37 : (ctr37 S37).holds cl) (h61 : (ctr61 S61).holds cl) {R} (K : KE R) (x0 x1) : exec cl N c34_13 [(0, .v U21 x0), (1, .v U21 x1)] K = (g34_13 S37 S61 x0 x1 (fun y0 => K .ret [(4, .own true 3 U2 .no y0)])) := by
  simp only [c34_13, exec_seq, seqK_normal, seqK_exit, seqK_ret, t34_0, t34_1 S37 h37, c34_11, exec_out, exec_block, t34_2 S61 h61, c34_10, exec_cond', hb34_2, Option.bind_some, brB_true, brB_false, t34_3, exec_ret, t34_4, c34_9, hb34_1, t34_5, t34_6, c34_8, hb34_0, t34_7, exec_skip, kp34_0, kp34_1, kp34_2, blockK_normal, blockK_ret, blockK_eq, t34_12]
  rfl
theorem rk34_0 (y0 : V0) : retK d34 .ret [(4, .own true 3 U2 .no y0)] = some [.own true 3 U2 .no y0] := by kernel_rfl
def g34 {R : Type} (S37 : V21 → Option (Int)) (S61 : V21 → Option (Bool)) (x0 : V21) (x1 : V21) (k : V0 → Option R) : Option R :=
(g34_13 S37 S61 x0 x1 (fun y0 => k y0))
theorem gen34 {N : Nat} {cl : Cal} (S37 : V21 → Option (Int)) (S61 : V21 → Option (Bool)) (h37 : (ctr37 S37).holds cl) (h61 : (ctr61 S61).holds cl) (x0 : V21) (x1 : V21) {R : Type} (k : List E → Option R) : exec cl N c34 (params 0 [.v U21 x0, .v U21 x1]) (fun e env => (retK d34 e env).bind k) = g34 S37 S61 x0 x1 (fun (r0 : V0) => k [.own true 3 U2 .no r0]) := by
  have e0 : params 0 [.v U21 x0, .v U21 x1] = [(0, .v U21 x0), (1, .v U21 x1)] := by kernel_rfl
  simp only [c34, e0, t34_13 S37 S61 h37 h61, rk34_0, Option.bind_some]
  rfl
def ctr34 (S : V21 → V21 → Option V3) : Ctr := { A := V21 × V21 × Unit, B := V0, f := 34, enc := fun a => [.v U21 a.1, .v U21 a.2.1], dec := (decC (decV U21) (decC (decV U21) dec0)), S := fun a => S a.1 a.2.1, ent := fun b => [.own true 3 U2 .no b], ok := (decV_cons (T := U21) (decV_cons (T := U21) (fun es b h => dec0_some h))) }
def S34 (N : Nat) (x0 : V21) (x1 : V21) : Option V3 := g34 (S37 N) (S61 N) x0 x1 (fun (r0 : V0) => some (r0))
def g36_0 {R : Type} (x0 : Int) (x1 : Int) (k0 : Int → Int → Option R) : Option R :=
k0 x0 x1
theorem t36_0 {N cl} {R} (K : KE R) (x0 x1) : exec cl N c36_0 [(0, .v U2 x0), (1, .v U2 x1)] K = (g36_0 x0 x1 (fun y0 y1 => K .normal [(0, .v U2 y0), (1, .v U2 y1)])) := by
  kernel_rfl
def g36_1 {R : Type} (x0 : Int) (x1 : Int) (k0 : Int → Int → Option R) : Option R :=
k0 x1 x0
theorem t36_1 {N cl} {R} (K : KE R) (x0 x1) : exec cl N c36_1 [(0, .v U2 x0), (1, .v U2 x1)] K = (g36_1 x0 x1 (fun y0 y1 => K .normal [(1, .v U2 y0), (5, .v U2 y1)])) := by
  kernel_rfl
def g36_2 {R : Type} (x0 : Int) (x1 : Int) (k0 : Int → Int → Bool → Option R) : Option R :=
k0 x0 x1 (x1 == (2 : Int))
theorem t36_2 {N cl} {R} (K : KE R) (x0 x1) : exec cl N c36_2 [(1, .v U2 x0), (5, .v U2 x1)] K = (g36_2 x0 x1 (fun y0 y1 y2 => K .normal [(1, .v U2 y0), (5, .v U2 y1), (6, .v .bool y2)])) := by
  kernel_rfl
def g36_3 {R : Type} (x0 : Int) (x1 : Int) (x2 : Bool) (k0 : Int → Option R) : Option R :=
k0 (10 : Int)
theorem t36_3 {N cl} {R} (K : KE R) (x0 x1 x2) : exec cl N c36_3 [(1, .v U2 x0), (5, .v U2 x1), (6, .v .bool x2)] K = (g36_3 x0 x1 x2 (fun y0 => K .normal [(4, .v U2 y0)])) := by
  kernel_rfl
theorem kp36_0 (x0) : keep [1, 4] [(4, .v U2 x0)] = [(1, .dead), (4, .v U2 x0)] := by kernel_rfl
def g36_4 {R : Type} (x0 : Int) (x1 : Int) (x2 : Bool) (k0 : Int → Int → Bool → Option R) : Option R :=
k0 x0 x1 (x1 == (3 : Int))
theorem t36_4 {N cl} {R} (K : KE R) (x0 x1 x2) : exec cl N c36_4 [(1, .v U2 x0), (5, .v U2 x1), (6, .v .bool x2)] K = (g36_4 x0 x1 x2 (fun y0 y1 y2 => K .normal [(1, .v U2 y0), (5, .v U2 y1), (8, .v .bool y2)])) := by
  kernel_rfl
def g36_5 {R : Type} (x0 : Int) (x1 : Int) (x2 : Bool) (k0 : Int → Option R) : Option R :=
k0 (11 : Int)
theorem t36_5 {N cl} {R} (K : KE R) (x0 x1 x2) : exec cl N c36_5 [(1, .v U2 x0), (5, .v U2 x1), (8, .v .bool x2)] K = (g36_5 x0 x1 x2 (fun y0 => K .normal [(4, .v U2 y0)])) := by
  kernel_rfl
def g36_6 {R : Type} (x0 : Int) (x1 : Int) (x2 : Bool) (k0 : Int → Bool → Option R) : Option R :=
k0 x0 (x1 == (4 : Int))
theorem t36_6 {N cl} {R} (K : KE R) (x0 x1 x2) : exec cl N c36_6 [(1, .v U2 x0), (5, .v U2 x1), (8, .v .bool x2)] K = (g36_6 x0 x1 x2 (fun y0 y1 => K .normal [(1, .v U2 y0), (10, .v .bool y1)])) := by
  kernel_rfl
def g36_7 {R : Type} (x0 : Int) (x1 : Bool) (k0 : Int → Option R) : Option R :=
k0 (12 : Int)
theorem t36_7 {N cl} {R} (K : KE R) (x0 x1) : exec cl N c36_7 [(1, .v U2 x0), (10, .v .bool x1)] K = (g36_7 x0 x1 (fun y0 => K .normal [(4, .v U2 y0)])) := by
  kernel_rfl
theorem kp36_1 (x0 x1) : keep [1, 4] [(1, .v U2 x0), (10, .v .bool x1)] = [(1, .v U2 x0), (4, .dead)] := by kernel_rfl
theorem hb36_0 (x0 : Int) (x1 : Bool) : boolOf? (ent [(1, .v U2 x0), (10, .v .bool x1)] (.t 10)) = some x1 := by kernel_rfl
theorem kp36_2 (x0) : keep [1, 4] [(1, .dead), (4, .v U2 x0)] = [(1, .dead), (4, .v U2 x0)] := by kernel_rfl
theorem kp36_3 (x0) : keep [1, 4] [(1, .v U2 x0), (4, .dead)] = [(1, .v U2 x0), (4, .dead)] := by kernel_rfl
theorem hb36_1 (x0 : Int) (x1 : Int) (x2 : Bool) : boolOf? (ent [(1, .v U2 x0), (5, .v U2 x1), (8, .v .bool x2)] (.t 8)) = some x2 := by kernel_rfl
theorem hb36_2 (x0 : Int) (x1 : Int) (x2 : Bool) : boolOf? (ent [(1, .v U2 x0), (5, .v U2 x1), (6, .v .bool x2)] (.t 6)) = some x2 := by kernel_rfl
def g36_12 {R : Type} (x0 : Int) (k0 : Bool → Option R) : Option R :=
k0 (x0 == (2 : Int))
theorem t36_12 {N cl} {R} (K : KE R) (x0) : exec cl N c36_12 [(1, .v U2 x0), (4, .dead)] K = (g36_12 x0 (fun y0 => K .normal [(13, .v .bool y0)])) := by
  kernel_rfl
def g36_13 {R : Type} (x0 : Bool) (k0 : Int → Option R) : Option R :=
k0 (9 : Int)
theorem t36_13 {N cl} {R} (K : KE R) (x0) : exec cl N c36_13 [(13, .v .bool x0)] K = (g36_13 x0 (fun y0 => K .normal [(4, .v U2 y0)])) := by
  kernel_rfl
theorem kp36_4 (x0) : keep [4] [(4, .v U2 x0)] = [(4, .v U2 x0)] := by kernel_rfl
theorem kp36_5 (x0) : keep [4] [(13, .v .bool x0)] = [(4, .dead)] := by kernel_rfl
theorem hb36_3 (x0 : Bool) : boolOf? (ent [(13, .v .bool x0)] (.t 13)) = some x0 := by kernel_rfl
def g36_15 {R : Type} (k0 : Int → Option R) : Option R :=
k0 (8 : Int)
theorem t36_15 {N cl} {R} (K : KE R) : exec cl N c36_15 [(4, .dead)] K = (g36_15 (fun y0 => K .normal [(4, .v U2 y0)])) := by
  kernel_rfl
def g36_16 {R : Type} (x0 : Int) (x1 : Int) (k0 : Int → Option R) (k1 : Int → Option R) : Option R :=
(g36_0 x0 x1 (fun y0 y1 => (g36_1 y0 y1 (fun y0 y1 => (g36_2 y0 y1 (fun y0 y1 y2 => brB y2 (g36_3 y0 y1 y2 (fun y0 => ((fun y0 => (k0 y0)) y0))) (g36_4 y0 y1 y2 (fun y0 y1 y2 => brB y2 (g36_5 y0 y1 y2 (fun y0 => ((fun y0 => (k0 y0)) y0))) (g36_6 y0 y1 y2 (fun y0 y1 => brB y1 (g36_7 y0 y1 (fun y0 => ((fun y0 => (k0 y0)) y0))) ((fun y0 => ((fun y0 => ((fun y0 => ((fun y0 => (g36_12 y0 (fun y0 => brB y0 (g36_13 y0 (fun y0 => ((fun y0 => (k1 y0)) y0))) (g36_15 (fun y0 => (k1 y0)))))) y0)) y0)) y0)) y0)))))))))))
theorem t36_16 {N cl} {R} (K : KE R) (x0 x1) : exec cl N c36_16 [(0, .v U2 x0), (1, .v U2 x1)] K = (g36_16 x0 x1 (fun y0 => K .ret [(1, .dead), (4, .v U2 y0)]) (fun y0 => K .ret [(4, .v U2 y0)])) := by
  simp only [c36_16, exec_seq, seqK_normal, seqK_exit, seqK_ret, t36_0, t36_1, c36_11, exec_out, exec_block, t36_2, c36_10, exec_cond', hb36_2, Option.bind_some, brB_true, brB_false, t36_3, exec_ret, t36_4, c36_9, hb36_1, t36_5, t36_6, c36_8, hb36_0, t36_7, exec_skip, kp36_0, kp36_1, kp36_2, kp36_3, blockK_normal, blockK_ret, blockK_eq, t36_12, c36_14, hb36_3, t36_13, kp36_4, kp36_5, t36_15]
  rfl
theorem rk36_0 (y0 : Int) : retK d36 .ret [(1, .dead), (4, .v U2 y0)] = some [.v U2 y0] := by kernel_rfl
theorem rk36_1 (y0 : Int) : retK d36 .ret [(4, .v U2 y0)] = some [.v U2 y0] := by kernel_rfl
def g36 {R : Type} (x0 : Int) (x1 : Int) (k : Int → Option R) : Option R :=
(g36_16 x0 x1 (fun y0 => k y0) (fun y0 => k y0))
theorem gen36 {N : Nat} {cl : Cal} (x0 : Int) (x1 : Int) {R : Type} (k : List E → Option R) : exec cl N c36 (params 0 [.v U2 x0, .v U2 x1]) (fun e env => (retK d36 e env).bind k) = g36 x0 x1 (fun (r0 : Int) => k [.v U2 r0]) := by
  have e0 : params 0 [.v U2 x0, .v U2 x1] = [(0, .v U2 x0), (1, .v U2 x1)] := by kernel_rfl
  simp only [c36, e0, t36_16, rk36_0, rk36_1, Option.bind_some]
  rfl
def ctr36 (S : Int → Int → Option (Int)) : Ctr := { A := Int × Int × Unit, B := Int, f := 36, enc := fun a => [.v U2 a.1, .v U2 a.2.1], dec := (decC (decV U2) (decC (decV U2) dec0)), S := fun a => S a.1 a.2.1, ent := fun b => [.v U2 b], ok := (decV_cons (T := U2) (decV_cons (T := U2) (fun es b h => dec0_some h))) }
def S36 (N : Nat) (x0 : Int) (x1 : Int) : Option (Int) := g36 x0 x1 (fun (r0 : Int) => some (r0))
end Go.Fw.L19
