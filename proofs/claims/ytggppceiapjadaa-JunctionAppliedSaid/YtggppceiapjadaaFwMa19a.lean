/- Printed by an own program for this claim: the machine's code of functions, or their typed forms with their equations; no conditions. -/
import Derived.Test.YtggppceiapjadaaFwYa19
import Derived.Test.YtggppceiapjadaaFwB1
set_option linter.unusedVariables false
set_option linter.unusedSimpArgs false
namespace Go.Fw.L19
open Go Go.Fw
set_option maxRecDepth 100000
set_option linter.unusedVariables false
set_option linter.unusedSimpArgs false
def g33_0 {R : Type} (x0 : V6) (x1 : Int) (k0 : V6 → Int → Option R) : Option R :=
k0 x0 x1
theorem t33_0 {N cl} {R} (K : KE R) (x0 x1) : exec cl N c33_0 [(0, .v U0 x0), (1, .v U2 x1)] K = (g33_0 x0 x1 (fun y0 y1 => K .normal [(0, .v U0 y0), (1, .v U2 y1)])) := by
  kernel_rfl
def g33_1 {R : Type} (x0 : V6) (x1 : Int) (k0 : V6 → Int → Int → Option R) : Option R :=
k0 x0 x1 (0 : Int)
theorem t33_1 {N cl} {R} (K : KE R) (x0 x1) : exec cl N c33_1 [(0, .v U0 x0), (1, .v U2 x1)] K = (g33_1 x0 x1 (fun y0 y1 y2 => K .normal [(0, .v U0 y0), (1, .v U2 y1), (5, .v U2 y2)])) := by
  kernel_rfl
def g33_2 {R : Type} (x0 : V6) (x1 : Int) (x2 : Int) (k0 : V6 → Int → Int → Int → Option R) : Option R :=
k0 x0 x1 x2 (0 : Int)
theorem t33_2 {N cl} {R} (K : KE R) (x0 x1 x2) : exec cl N c33_2 [(0, .v U0 x0), (1, .v U2 x1), (5, .v U2 x2)] K = (g33_2 x0 x1 x2 (fun y0 y1 y2 y3 => K .normal [(0, .v U0 y0), (1, .v U2 y1), (5, .v U2 y2), (6, .v U2 y3)])) := by
  kernel_rfl
theorem kp33_0 (x0 x1 x2 x3) : keep [0, 1, 5, 6] [(0, .v U0 x0), (1, .v U2 x1), (5, .v U2 x2), (6, .v U2 x3)] = [(0, .v U0 x0), (1, .v U2 x1), (5, .v U2 x2), (6, .v U2 x3)] := by kernel_rfl
def g33_3 {R : Type} (x0 : V6) (x1 : Int) (x2 : Int) (x3 : Int) (k0 : V6 → Int → Int → Int → Bool → Option R) : Option R :=
brB (decide (x3 < (x0.length : Int))) (k0 x0 x1 x2 x3 (decide (x2 ≤ x1))) (k0 x0 x1 x2 x3 false)
theorem t33_3 {N cl} {R} (K : KE R) (x0 x1 x2 x3) : exec cl N c33_3 [(0, .v U0 x0), (1, .v U2 x1), (5, .v U2 x2), (6, .v U2 x3)] K = (g33_3 x0 x1 x2 x3 (fun y0 y1 y2 y3 y4 => K .normal [(0, .v U0 y0), (1, .v U2 y1), (5, .v U2 y2), (6, .v U2 y3), (15, .v .bool y4)])) := by
  kernel_rfl
theorem kp33_1 (x0 x1 x2 x3 x4) : keep [0, 1, 5, 6] [(0, .v U0 x0), (1, .v U2 x1), (5, .v U2 x2), (6, .v U2 x3), (15, .v .bool x4)] = [(0, .v U0 x0), (1, .v U2 x1), (5, .v U2 x2), (6, .v U2 x3)] := by kernel_rfl
theorem hb33_0 (x0 : V6) (x1 : Int) (x2 : Int) (x3 : Int) (x4 : Bool) : boolOf? (ent [(0, .v U0 x0), (1, .v U2 x1), (5, .v U2 x2), (6, .v U2 x3), (15, .v .bool x4)] (.t 15)) = some x4 := by kernel_rfl
def g33_5 {R : Type} (x0 : V6) (x1 : Int) (x2 : Int) (x3 : Int) (k0 : V6 → Int → Int → Int → Option R) : Option R :=
if 0 ≤ x3 ∧ x3 < (x0.length : Int) then
k0 x0 x1 (IntKind.i64.wrap ((IntKind.i64.wrap (x2 + (1 : Int))) + ((x0.getD x3.toNat []).length : Int))) x3
else none
theorem t33_5 {N cl} {R} (K : KE R) (x0 x1 x2 x3) : exec cl N c33_5 [(0, .v U0 x0), (1, .v U2 x1), (5, .v U2 x2), (6, .v U2 x3)] K = (g33_5 x0 x1 x2 x3 (fun y0 y1 y2 y3 => K .normal [(0, .v U0 y0), (1, .v U2 y1), (5, .v U2 y2), (6, .v U2 y3)])) := by
  kernel_rfl
def g33_7 {R : Type} (x0 : V6) (x1 : Int) (x2 : Int) (x3 : Int) (k0 : V6 → Int → Int → Int → Option R) : Option R :=
k0 x0 x1 x2 (IntKind.i64.wrap (x3 + (1 : Int)))
theorem t33_7 {N cl} {R} (K : KE R) (x0 x1 x2 x3) : exec cl N c33_7 [(0, .v U0 x0), (1, .v U2 x1), (5, .v U2 x2), (6, .v U2 x3)] K = (g33_7 x0 x1 x2 x3 (fun y0 y1 y2 y3 => K .normal [(0, .v U0 y0), (1, .v U2 y1), (5, .v U2 y2), (6, .v U2 y3)])) := by
  kernel_rfl
def g33_8 {R : Type} (x0 : V6) (x1 : Int) (x2 : Int) (x3 : Int) (k0 : V6 → Int → Int → Int → Option R) (k1 : V6 → Int → Int → Int → Option R) : Option R :=
(g33_3 x0 x1 x2 x3 (fun y0 y1 y2 y3 y4 => brB y4 ((fun y0 y1 y2 y3 => (g33_5 y0 y1 y2 y3 (fun y0 y1 y2 y3 => (g33_7 y0 y1 y2 y3 k0)))) y0 y1 y2 y3) (k1 y0 y1 y2 y3)))
theorem t33_8 {N cl} {R} (K : KE R) (x0 x1 x2 x3) : exec cl N c33_8 [(0, .v U0 x0), (1, .v U2 x1), (5, .v U2 x2), (6, .v U2 x3)] K = (g33_8 x0 x1 x2 x3 (fun y0 y1 y2 y3 => K .normal [(0, .v U0 y0), (1, .v U2 y1), (5, .v U2 y2), (6, .v U2 y3)]) (fun y0 y1 y2 y3 => K (.exit 0) [(0, .v U0 y0), (1, .v U2 y1), (5, .v U2 y2), (6, .v U2 y3)])) := by
  simp only [c33_8, exec_seq, seqK_normal, seqK_exit, seqK_ret, t33_3, c33_4, exec_out, exec_cond', hb33_0, Option.bind_some, brB_true, brB_false, exec_skip, exec_exit, kp33_1, c33_6, exec_block, t33_5, blockK_normal, blockK_ret, blockK_eq, kp33_0, t33_7]
  rfl
def l33_9 {R : Type} (k0 : V6 → Int → Int → Int → Option R) : Nat → V6 → Int → Int → Int → Option R
  | 0, _, _, _, _ => none
  | m + 1, x0, x1, x2, x3 => (g33_8 x0 x1 x2 x3 (fun y0 y1 y2 y3 => l33_9 k0 m y0 y1 y2 y3) k0)
theorem lt33_9 {N cl} {R} (K : KE R) : ∀ (m) (x0 x1 x2 x3), iter [0, 1, 5, 6] (fun env K => exec cl N c33_8 env K) K m [(0, .v U0 x0), (1, .v U2 x1), (5, .v U2 x2), (6, .v U2 x3)] = l33_9 (fun y0 y1 y2 y3 => K (.exit 0) [(0, .v U0 y0), (1, .v U2 y1), (5, .v U2 y2), (6, .v U2 y3)]) m x0 x1 x2 x3 := by
  intro m
  induction m with
  | zero => intros; rfl
  | succ m ih =>
    intro x0 x1 x2 x3
    simp only [iter_succ, t33_8, loopK_normal, loopK_exit, loopK_ret, kp33_0, ih]
    rfl
theorem kp33_2 (x0 x1 x2 x3) : keep [5] [(0, .v U0 x0), (1, .v U2 x1), (5, .v U2 x2), (6, .v U2 x3)] = [(5, .v U2 x2)] := by kernel_rfl
def g33_9 {R : Type} (N : Nat) (x0 : V6) (x1 : Int) (x2 : Int) (x3 : Int) (k0 : Int → Option R) : Option R :=
l33_9 (fun y0 y1 y2 y3 => k0 y2) N x0 x1 x2 x3
theorem t33_9 {N cl} {R} (K : KE R) (x0 x1 x2 x3) : exec cl N c33_9 [(0, .v U0 x0), (1, .v U2 x1), (5, .v U2 x2), (6, .v U2 x3)] K = (g33_9 N x0 x1 x2 x3 (fun y0 => K (.exit 0) [(5, .v U2 y0)])) := by
  simp only [c33_9, exec_out, exec_loop, kp33_0, lt33_9, kp33_2]
  rfl
theorem kp33_3 (x0) : keep [5] [(5, .v U2 x0)] = [(5, .v U2 x0)] := by kernel_rfl
def g33_11 {R : Type} (x0 : Int) (k0 : Int → Option R) : Option R :=
k0 x0
theorem t33_11 {N cl} {R} (K : KE R) (x0) : exec cl N c33_11 [(5, .v U2 x0)] K = (g33_11 x0 (fun y0 => K .normal [(4, .v U2 y0)])) := by
  kernel_rfl
def g33_12 {R : Type} (N : Nat) (x0 : V6) (x1 : Int) (k0 : Int → Option R) : Option R :=
(g33_0 x0 x1 (fun y0 y1 => (g33_1 y0 y1 (fun y0 y1 y2 => (g33_2 y0 y1 y2 (fun y0 y1 y2 y3 => (g33_9 N y0 y1 y2 y3 (fun y0 => ((fun y0 => (g33_11 y0 (fun y0 => (k0 y0)))) y0)))))))))
theorem t33_12 {N cl} {R} (K : KE R) (x0 x1) : exec cl N c33_12 [(0, .v U0 x0), (1, .v U2 x1)] K = (g33_12 N x0 x1 (fun y0 => K .ret [(4, .v U2 y0)])) := by
  simp only [c33_12, exec_seq, seqK_normal, seqK_exit, seqK_ret, t33_0, t33_1, t33_2, c33_10, exec_out, exec_block, t33_9, blockK_normal, blockK_ret, blockK_eq, kp33_3, t33_11, exec_ret]
  rfl
theorem rk33_0 (y0 : Int) : retK d33 .ret [(4, .v U2 y0)] = some [.v U2 y0] := by kernel_rfl
def g33 {R : Type} (N : Nat) (x0 : V6) (x1 : Int) (k : Int → Option R) : Option R :=
(g33_12 N x0 x1 (fun y0 => k y0))
theorem gen33 {N : Nat} {cl : Cal} (x0 : V6) (x1 : Int) {R : Type} (k : List E → Option R) : exec cl N c33 (params 0 [.v U0 x0, .v U2 x1]) (fun e env => (retK d33 e env).bind k) = g33 N x0 x1 (fun (r0 : Int) => k [.v U2 r0]) := by
  have e0 : params 0 [.v U0 x0, .v U2 x1] = [(0, .v U0 x0), (1, .v U2 x1)] := by kernel_rfl
  simp only [c33, e0, t33_12, rk33_0, Option.bind_some]
  rfl
def ctr33 (S : V6 → Int → Option (Int)) : Ctr := { A := V6 × Int × Unit, B := Int, f := 33, enc := fun a => [.v U0 a.1, .v U2 a.2.1], dec := (decC (decV U0) (decC (decV U2) dec0)), S := fun a => S a.1 a.2.1, ent := fun b => [.v U2 b], ok := (decV_cons (T := U0) (decV_cons (T := U2) (fun es b h => dec0_some h))) }
def S33 (N : Nat) (x0 : V6) (x1 : Int) : Option (Int) := g33 N x0 x1 (fun (r0 : Int) => some (r0))
def g9_0 {R : Type} (x0 : V24) (k0 : V24 → Option R) : Option R :=
k0 x0
theorem t9_0 {N cl} {R} (K : KE R) (x0) : exec cl N c9_0 [(0, .v U26 x0)] K = (g9_0 x0 (fun y0 => K .normal [(1, .loc U26 .no y0)])) := by
  kernel_rfl
def g9_1 {R : Type} (x0 : V24) (k0 : V24 → Int → Option R) : Option R :=
k0 x0 (x0.1.length : Int)
theorem t9_1 {N cl} {R} (K : KE R) (x0) : exec cl N c9_1 [(1, .loc U26 .no x0)] K = (g9_1 x0 (fun y0 y1 => K .normal [(1, .loc U26 .no y0), (3, .v U2 y1)])) := by
  kernel_rfl
def g9_2 {R : Type} (x0 : V24) (x1 : Int) (k0 : V24 → Int → Int → Option R) : Option R :=
k0 x0 x1 (0 : Int)
theorem t9_2 {N cl} {R} (K : KE R) (x0 x1) : exec cl N c9_2 [(1, .loc U26 .no x0), (3, .v U2 x1)] K = (g9_2 x0 x1 (fun y0 y1 y2 => K .normal [(1, .loc U26 .no y0), (3, .v U2 y1), (4, .v U2 y2)])) := by
  kernel_rfl
theorem kp9_0 (x0 x1 x2) : keep [1, 3, 4] [(1, .loc U26 .no x0), (3, .v U2 x1), (4, .v U2 x2)] = [(1, .loc U26 .no x0), (3, .v U2 x1), (4, .v U2 x2)] := by kernel_rfl
def g9_3 {R : Type} (x0 : V24) (x1 : Int) (x2 : Int) (k0 : V24 → Int → Int → Bool → Option R) : Option R :=
brB (decide (x2 < (x0.2.1.length : Int))) (k0 x0 x1 x2 (decide (x2 < (50 : Int)))) (k0 x0 x1 x2 false)
theorem t9_3 {N cl} {R} (K : KE R) (x0 x1 x2) : exec cl N c9_3 [(1, .loc U26 .no x0), (3, .v U2 x1), (4, .v U2 x2)] K = (g9_3 x0 x1 x2 (fun y0 y1 y2 y3 => K .normal [(1, .loc U26 .no y0), (3, .v U2 y1), (4, .v U2 y2), (16, .v .bool y3)])) := by
  kernel_rfl
theorem kp9_1 (x0 x1 x2 x3) : keep [1, 3, 4] [(1, .loc U26 .no x0), (3, .v U2 x1), (4, .v U2 x2), (16, .v .bool x3)] = [(1, .loc U26 .no x0), (3, .v U2 x1), (4, .v U2 x2)] := by kernel_rfl
theorem hb9_0 (x0 : V24) (x1 : Int) (x2 : Int) (x3 : Bool) : boolOf? (ent [(1, .loc U26 .no x0), (3, .v U2 x1), (4, .v U2 x2), (16, .v .bool x3)] (.t 16)) = some x3 := by kernel_rfl
def g9_5 {R : Type} (S33 : V6 → Int → Option (Int)) (x0 : V24) (x1 : Int) (x2 : Int) (k0 : V24 → Int → Int → Option R) : Option R :=
if 0 ≤ x2 ∧ x2 < (x0.2.1.length : Int) then
(S33 ((x0.2.1.getD x2.toNat ((0 : Int), ((0 : Int), ([], ())))).2.2.1) (1500 : Int)).bind fun r21 =>
k0 x0 (IntKind.i64.wrap (x1 + r21)) x2
else none
theorem t9_5 {N cl} (S33) (h33 : (ctr33 S33).holds cl) {R} (K : KE R) (x0 x1 x2) : exec cl N c9_5 [(1, .loc U26 .no x0), (3, .v U2 x1), (4, .v U2 x2)] K = (g9_5 S33 x0 x1 x2 (fun y0 y1 y2 => K .normal [(1, .loc U26 .no y0), (3, .v U2 y1), (4, .v U2 y2)])) := by
  rw [← put_eq h33]
  kernel_rfl
def g9_7 {R : Type} (x0 : V24) (x1 : Int) (x2 : Int) (k0 : V24 → Int → Int → Option R) : Option R :=
k0 x0 x1 (IntKind.i64.wrap (x2 + (1 : Int)))
theorem t9_7 {N cl} {R} (K : KE R) (x0 x1 x2) : exec cl N c9_7 [(1, .loc U26 .no x0), (3, .v U2 x1), (4, .v U2 x2)] K = (g9_7 x0 x1 x2 (fun y0 y1 y2 => K .normal [(1, .loc U26 .no y0), (3, .v U2 y1), (4, .v U2 y2)])) := by
  kernel_rfl
def g9_8 {R : Type} (S33 : V6 → Int → Option (Int)) (x0 : V24) (x1 : Int) (x2 : Int) (k0 : V24 → Int → Int → Option R) (k1 : V24 → Int → Int → Option R) : Option R :=
(g9_3 x0 x1 x2 (fun y0 y1 y2 y3 => brB y3 ((fun y0 y1 y2 => (g9_5 S33 y0 y1 y2 (fun y0 y1 y2 => (g9_7 y0 y1 y2 k0)))) y0 y1 y2) (k1 y0 y1 y2)))
theorem t9_8 {N cl} (S33) (h33 : (ctr33 S33).holds cl) {R} (K : KE R) (x0 x1 x2) : exec cl N c9_8 [(1, .loc U26 .no x0), (3, .v U2 x1), (4, .v U2 x2)] K = (g9_8 S33 x0 x1 x2 (fun y0 y1 y2 => K .normal [(1, .loc U26 .no y0), (3, .v U2 y1), (4, .v U2 y2)]) (fun y0 y1 y2 => K (.exit 0) [(1, .loc U26 .no y0), (3, .v U2 y1), (4, .v U2 y2)])) := by
  simp only [c9_8, exec_seq, seqK_normal, seqK_exit, seqK_ret, t9_3, c9_4, exec_out, exec_cond', hb9_0, Option.bind_some, brB_true, brB_false, exec_skip, exec_exit, kp9_1, c9_6, exec_block, t9_5 S33 h33, blockK_normal, blockK_ret, blockK_eq, kp9_0, t9_7]
  rfl
def l9_9 {R : Type} (S33 : V6 → Int → Option (Int)) (k0 : V24 → Int → Int → Option R) : Nat → V24 → Int → Int → Option R
  | 0, _, _, _ => none
  | m + 1, x0, x1, x2 => (g9_8 S33 x0 x1 x2 (fun y0 y1 y2 => l9_9 S33 k0 m y0 y1 y2) k0)
theorem lt9_9 {N cl} (S33) (h33 : (ctr33 S33).holds cl) {R} (K : KE R) : ∀ (m) (x0 x1 x2), iter [1, 3, 4] (fun env K => exec cl N c9_8 env K) K m [(1, .loc U26 .no x0), (3, .v U2 x1), (4, .v U2 x2)] = l9_9 S33 (fun y0 y1 y2 => K (.exit 0) [(1, .loc U26 .no y0), (3, .v U2 y1), (4, .v U2 y2)]) m x0 x1 x2 := by
  intro m
  induction m with
  | zero => intros; rfl
  | succ m ih =>
    intro x0 x1 x2
    simp only [iter_succ, t9_8 S33 h33, loopK_normal, loopK_exit, loopK_ret, kp9_0, ih]
    rfl
theorem kp9_2 (x0 x1 x2) : keep [1, 3] [(1, .loc U26 .no x0), (3, .v U2 x1), (4, .v U2 x2)] = [(1, .loc U26 .no x0), (3, .v U2 x1)] := by kernel_rfl
def g9_9 {R : Type} (N : Nat) (S33 : V6 → Int → Option (Int)) (x0 : V24) (x1 : Int) (x2 : Int) (k0 : V24 → Int → Option R) : Option R :=
l9_9 S33 (fun y0 y1 y2 => k0 y0 y1) N x0 x1 x2
theorem t9_9 {N cl} (S33) (h33 : (ctr33 S33).holds cl) {R} (K : KE R) (x0 x1 x2) : exec cl N c9_9 [(1, .loc U26 .no x0), (3, .v U2 x1), (4, .v U2 x2)] K = (g9_9 N S33 x0 x1 x2 (fun y0 y1 => K (.exit 0) [(1, .loc U26 .no y0), (3, .v U2 y1)])) := by
  simp only [c9_9, exec_out, exec_loop, kp9_0, lt9_9 S33 h33, kp9_2]
  rfl
theorem kp9_3 (x0 x1) : keep [1, 3] [(1, .loc U26 .no x0), (3, .v U2 x1)] = [(1, .loc U26 .no x0), (3, .v U2 x1)] := by kernel_rfl
def g9_11 {R : Type} (x0 : V24) (x1 : Int) (k0 : Bool → Option R) : Option R :=
brB (decide ((x0.2.1.length : Int) ≤ (40 : Int))) (k0 (decide (x1 ≤ (1500 : Int)))) (k0 false)
theorem t9_11 {N cl} {R} (K : KE R) (x0 x1) : exec cl N c9_11 [(1, .loc U26 .no x0), (3, .v U2 x1)] K = (g9_11 x0 x1 (fun y0 => K .normal [(2, .v .bool y0)])) := by
  kernel_rfl
def g9_12 {R : Type} (N : Nat) (S33 : V6 → Int → Option (Int)) (x0 : V24) (k0 : Bool → Option R) : Option R :=
(g9_0 x0 (fun y0 => (g9_1 y0 (fun y0 y1 => (g9_2 y0 y1 (fun y0 y1 y2 => (g9_9 N S33 y0 y1 y2 (fun y0 y1 => ((fun y0 y1 => (g9_11 y0 y1 (fun y0 => (k0 y0)))) y0 y1)))))))))
theorem t9_12 {N cl} (S33) (h33 : (ctr33 S33).holds cl) {R} (K : KE R) (x0) : exec cl N c9_12 [(0, .v U26 x0)] K = (g9_12 N S33 x0 (fun y0 => K .ret [(2, .v .bool y0)])) := by
  simp only [c9_12, exec_seq, seqK_normal, seqK_exit, seqK_ret, t9_0, t9_1, t9_2, c9_10, exec_out, exec_block, t9_9 S33 h33, blockK_normal, blockK_ret, blockK_eq, kp9_3, t9_11, exec_ret]
  rfl
theorem rk9_0 (y0 : Bool) : retK d9 .ret [(2, .v .bool y0)] = some [.v .bool y0] := by kernel_rfl
def g9 {R : Type} (N : Nat) (S33 : V6 → Int → Option (Int)) (x0 : V24) (k : Bool → Option R) : Option R :=
(g9_12 N S33 x0 (fun y0 => k y0))
theorem gen9 {N : Nat} {cl : Cal} (S33 : V6 → Int → Option (Int)) (h33 : (ctr33 S33).holds cl) (x0 : V24) {R : Type} (k : List E → Option R) : exec cl N c9 (params 0 [.v U26 x0]) (fun e env => (retK d9 e env).bind k) = g9 N S33 x0 (fun (r0 : Bool) => k [.v .bool r0]) := by
  have e0 : params 0 [.v U26 x0] = [(0, .v U26 x0)] := by kernel_rfl
  simp only [c9, e0, t9_12 S33 h33, rk9_0, Option.bind_some]
  rfl
def ctr9 (S : V24 → Option (Bool)) : Ctr := { A := V24 × Unit, B := Bool, f := 9, enc := fun a => [.v U26 a.1], dec := (decC (decV U26) dec0), S := fun a => S a.1, ent := fun b => [.v .bool b], ok := (decV_cons (T := U26) (fun es b h => dec0_some h)) }
def S9 (N : Nat) (x0 : V24) : Option (Bool) := g9 N (S33 N) x0 (fun (r0 : Bool) => some (r0))
def g34_0 {R : Type} (x0 : Int) (k0 : Int → V16 → Option R) : Option R :=
k0 x0 ((0 : Int), ((0 : Int), ([], ())))
theorem t34_0 {N cl} {R} (K : KE R) (x0) : exec cl N c34_0 [(0, .v U1 x0)] K = (g34_0 x0 (fun y0 y1 => K .normal [(0, .v U1 y0), (2, .loc U18 .no y1)])) := by
  kernel_rfl
def g34_1 {R : Type} (x0 : Int) (x1 : V16) (k0 : Int → V16 → V18 → Option R) : Option R :=
k0 x0 x1 [((1 : Int), (3 : Int), ([97] : List UInt8), ()), ((1 : Int), (1 : Int), ([101] : List UInt8), ()), ((1 : Int), (2 : Int), ([111] : List UInt8), ()), ((1 : Int), (3 : Int), ([105] : List UInt8), ()), ((2 : Int), (2 : Int), ([97, 101] : List UInt8), ()), ((3 : Int), (0 : Int), ([116] : List UInt8), ()), ((3 : Int), (0 : Int), ([98] : List UInt8), ()), ((4 : Int), (0 : Int), ([114] : List UInt8), ()), ((4 : Int), (0 : Int), ([108] : List UInt8), ()), ((5 : Int), (0 : Int), ([109] : List UInt8), ()), ((5 : Int), (0 : Int), ([110] : List UInt8), ()), ((6 : Int), (0 : Int), ([115] : List UInt8), ()), ((7 : Int), (0 : Int), ([120] : List UInt8), ()), ((8 : Int), (0 : Int), ([118] : List UInt8), ()), ((9 : Int), (0 : Int), ([104] : List UInt8), ()), ((1 : Int), (3 : Int), ([117] : List UInt8), ())]
theorem t34_1 {N cl} {R} (K : KE R) (x0 x1) : exec cl N c34_1 [(0, .v U1 x0), (2, .loc U18 .no x1)] K = (g34_1 x0 x1 (fun y0 y1 y2 => K .normal [(0, .v U1 y0), (2, .loc U18 .no y1), (3, .own true 55 U18 .no y2)])) := by
  kernel_rfl
def g34_2 {R : Type} (x0 : Int) (x1 : V16) (x2 : V18) (k0 : V16 → Option R) : Option R :=
if (x2.length : Int) = 0 then none else
let v67 : Int := (Int.tmod (IntKind.i64.wrap x0) (x2.length : Int))
if 0 ≤ v67 ∧ v67 < (x2.length : Int) then
if v67.toNat < x2.length then
k0 (x2.getD v67.toNat ((0 : Int), ((0 : Int), ([], ()))))
else none
else none
theorem t34_2 {N cl} {R} (K : KE R) (x0 x1 x2) : exec cl N c34_2 [(0, .v U1 x0), (2, .loc U18 .no x1), (3, .own true 55 U18 .no x2)] K = (g34_2 x0 x1 x2 (fun y0 => K .normal [(2, .loc U18 .no y0)])) := by
  kernel_rfl
def g34_3 {R : Type} (x0 : Int) (k0 : V16 → Option R) : Option R :=
(g34_0 x0 (fun y0 y1 => (g34_1 y0 y1 (fun y0 y1 y2 => (g34_2 y0 y1 y2 (fun y0 => (k0 y0)))))))
theorem t34_3 {N cl} {R} (K : KE R) (x0) : exec cl N c34_3 [(0, .v U1 x0)] K = (g34_3 x0 (fun y0 => K .ret [(2, .loc U18 .no y0)])) := by
  simp only [c34_3, exec_seq, seqK_normal, seqK_exit, seqK_ret, t34_0, t34_1, t34_2, exec_ret]
  rfl
theorem rk34_0 (y0 : V16) : retK d34 .ret [(2, .loc U18 .no y0)] = some [.v U18 y0] := by kernel_rfl
def g34 {R : Type} (x0 : Int) (k : V16 → Option R) : Option R :=
(g34_3 x0 (fun y0 => k y0))
theorem gen34 {N : Nat} {cl : Cal} (x0 : Int) {R : Type} (k : List E → Option R) : exec cl N c34 (params 0 [.v U1 x0]) (fun e env => (retK d34 e env).bind k) = g34 x0 (fun (r0 : V16) => k [.v U18 r0]) := by
  have e0 : params 0 [.v U1 x0] = [(0, .v U1 x0)] := by kernel_rfl
  simp only [c34, e0, t34_3, rk34_0, Option.bind_some]
  rfl
def ctr34 (S : Int → Option V17) : Ctr := { A := Int × Unit, B := V16, f := 34, enc := fun a => [.v U1 a.1], dec := (decC (decV U1) dec0), S := fun a => S a.1, ent := fun b => [.v U18 b], ok := (decV_cons (T := U1) (fun es b h => dec0_some h)) }
def S34 (N : Nat) (x0 : Int) : Option V17 := g34 x0 (fun (r0 : V16) => some (r0))
def g10_0 {R : Type} (x0 : V0) (k0 : V0 → Option R) : Option R :=
k0 x0
theorem t10_0 {N cl} {R} (K : KE R) (x0) : exec cl N c10_0 [(0, .v U4 x0)] K = (g10_0 x0 (fun y0 => K .normal [(0, .v U4 y0)])) := by
  kernel_rfl
def g10_1 {R : Type} (x0 : V0) (k0 : V0 → V18 → Option R) : Option R :=
k0 x0 []
theorem t10_1 {N cl} {R} (K : KE R) (x0) : exec cl N c10_1 [(0, .v U4 x0)] K = (g10_1 x0 (fun y0 y1 => K .normal [(0, .v U4 y0), (3, .own true 55 U18 .no y1)])) := by
  kernel_rfl
def g10_2 {R : Type} (x0 : V0) (x1 : V18) (k0 : V0 → V18 → Int → Option R) : Option R :=
k0 x0 x1 (0 : Int)
theorem t10_2 {N cl} {R} (K : KE R) (x0 x1) : exec cl N c10_2 [(0, .v U4 x0), (3, .own true 55 U18 .no x1)] K = (g10_2 x0 x1 (fun y0 y1 y2 => K .normal [(0, .v U4 y0), (3, .own true 55 U18 .no y1), (4, .v U2 y2)])) := by
  kernel_rfl
theorem kp10_0 (x0 x1 x2) : keep [0, 3, 4] [(0, .v U4 x0), (3, .own true 55 U18 .no x1), (4, .v U2 x2)] = [(0, .v U4 x0), (3, .own true 55 U18 .no x1), (4, .v U2 x2)] := by kernel_rfl
def g10_3 {R : Type} (x0 : V0) (x1 : V18) (x2 : Int) (k0 : V0 → V18 → Int → Bool → Option R) : Option R :=
k0 x0 x1 x2 (decide (x2 < (x0.length : Int)))
theorem t10_3 {N cl} {R} (K : KE R) (x0 x1 x2) : exec cl N c10_3 [(0, .v U4 x0), (3, .own true 55 U18 .no x1), (4, .v U2 x2)] K = (g10_3 x0 x1 x2 (fun y0 y1 y2 y3 => K .normal [(0, .v U4 y0), (3, .own true 55 U18 .no y1), (4, .v U2 y2), (8, .v .bool y3)])) := by
  kernel_rfl
theorem kp10_1 (x0 x1 x2 x3) : keep [0, 3, 4] [(0, .v U4 x0), (3, .own true 55 U18 .no x1), (4, .v U2 x2), (8, .v .bool x3)] = [(0, .v U4 x0), (3, .own true 55 U18 .no x1), (4, .v U2 x2)] := by kernel_rfl
theorem hb10_0 (x0 : V0) (x1 : V18) (x2 : Int) (x3 : Bool) : boolOf? (ent [(0, .v U4 x0), (3, .own true 55 U18 .no x1), (4, .v U2 x2), (8, .v .bool x3)] (.t 8)) = some x3 := by kernel_rfl
def g10_5 {R : Type} (S34 : Int → Option V17) (x0 : V0) (x1 : V18) (x2 : Int) (k0 : V0 → V18 → Int → Option R) : Option R :=
if 0 ≤ x2 ∧ x2 < (x0.length : Int) then
(S34 (x0.getD x2.toNat (0 : Int))).bind fun r72 =>
if x1.length + [r72].length ≤ 4398046511104 then
k0 x0 (x1 ++ [r72]) x2
else none
else none
theorem t10_5 {N cl} (S34) (h34 : (ctr34 S34).holds cl) {R} (K : KE R) (x0 x1 x2) : exec cl N c10_5 [(0, .v U4 x0), (3, .own true 55 U18 .no x1), (4, .v U2 x2)] K = (g10_5 S34 x0 x1 x2 (fun y0 y1 y2 => K .normal [(0, .v U4 y0), (3, .own true 55 U18 .no y1), (4, .v U2 y2)])) := by
  rw [← put_eq h34]
  kernel_rfl
def g10_7 {R : Type} (x0 : V0) (x1 : V18) (x2 : Int) (k0 : V0 → V18 → Int → Option R) : Option R :=
k0 x0 x1 (IntKind.i64.wrap (x2 + (1 : Int)))
theorem t10_7 {N cl} {R} (K : KE R) (x0 x1 x2) : exec cl N c10_7 [(0, .v U4 x0), (3, .own true 55 U18 .no x1), (4, .v U2 x2)] K = (g10_7 x0 x1 x2 (fun y0 y1 y2 => K .normal [(0, .v U4 y0), (3, .own true 55 U18 .no y1), (4, .v U2 y2)])) := by
  kernel_rfl
def g10_8 {R : Type} (S34 : Int → Option V17) (x0 : V0) (x1 : V18) (x2 : Int) (k0 : V0 → V18 → Int → Option R) (k1 : V0 → V18 → Int → Option R) : Option R :=
(g10_3 x0 x1 x2 (fun y0 y1 y2 y3 => brB y3 ((fun y0 y1 y2 => (g10_5 S34 y0 y1 y2 (fun y0 y1 y2 => (g10_7 y0 y1 y2 k0)))) y0 y1 y2) (k1 y0 y1 y2)))
theorem t10_8 {N cl} (S34) (h34 : (ctr34 S34).holds cl) {R} (K : KE R) (x0 x1 x2) : exec cl N c10_8 [(0, .v U4 x0), (3, .own true 55 U18 .no x1), (4, .v U2 x2)] K = (g10_8 S34 x0 x1 x2 (fun y0 y1 y2 => K .normal [(0, .v U4 y0), (3, .own true 55 U18 .no y1), (4, .v U2 y2)]) (fun y0 y1 y2 => K (.exit 0) [(0, .v U4 y0), (3, .own true 55 U18 .no y1), (4, .v U2 y2)])) := by
  simp only [c10_8, exec_seq, seqK_normal, seqK_exit, seqK_ret, t10_3, c10_4, exec_out, exec_cond', hb10_0, Option.bind_some, brB_true, brB_false, exec_skip, exec_exit, kp10_1, c10_6, exec_block, t10_5 S34 h34, blockK_normal, blockK_ret, blockK_eq, kp10_0, t10_7]
  rfl
def l10_9 {R : Type} (S34 : Int → Option V17) (k0 : V0 → V18 → Int → Option R) : Nat → V0 → V18 → Int → Option R
  | 0, _, _, _ => none
  | m + 1, x0, x1, x2 => (g10_8 S34 x0 x1 x2 (fun y0 y1 y2 => l10_9 S34 k0 m y0 y1 y2) k0)
theorem lt10_9 {N cl} (S34) (h34 : (ctr34 S34).holds cl) {R} (K : KE R) : ∀ (m) (x0 x1 x2), iter [0, 3, 4] (fun env K => exec cl N c10_8 env K) K m [(0, .v U4 x0), (3, .own true 55 U18 .no x1), (4, .v U2 x2)] = l10_9 S34 (fun y0 y1 y2 => K (.exit 0) [(0, .v U4 y0), (3, .own true 55 U18 .no y1), (4, .v U2 y2)]) m x0 x1 x2 := by
  intro m
  induction m with
  | zero => intros; rfl
  | succ m ih =>
    intro x0 x1 x2
    simp only [iter_succ, t10_8 S34 h34, loopK_normal, loopK_exit, loopK_ret, kp10_0, ih]
    rfl
theorem kp10_2 (x0 x1 x2) : keep [3] [(0, .v U4 x0), (3, .own true 55 U18 .no x1), (4, .v U2 x2)] = [(3, .own true 55 U18 .no x1)] := by kernel_rfl
def g10_9 {R : Type} (N : Nat) (S34 : Int → Option V17) (x0 : V0) (x1 : V18) (x2 : Int) (k0 : V18 → Option R) : Option R :=
l10_9 S34 (fun y0 y1 y2 => k0 y1) N x0 x1 x2
theorem t10_9 {N cl} (S34) (h34 : (ctr34 S34).holds cl) {R} (K : KE R) (x0 x1 x2) : exec cl N c10_9 [(0, .v U4 x0), (3, .own true 55 U18 .no x1), (4, .v U2 x2)] K = (g10_9 N S34 x0 x1 x2 (fun y0 => K (.exit 0) [(3, .own true 55 U18 .no y0)])) := by
  simp only [c10_9, exec_out, exec_loop, kp10_0, lt10_9 S34 h34, kp10_2]
  rfl
theorem kp10_3 (x0) : keep [3] [(3, .own true 55 U18 .no x0)] = [(3, .own true 55 U18 .no x0)] := by kernel_rfl
def g10_11 {R : Type} (x0 : V18) (k0 : V18 → Option R) : Option R :=
k0 x0
theorem t10_11 {N cl} {R} (K : KE R) (x0) : exec cl N c10_11 [(3, .own true 55 U18 .no x0)] K = (g10_11 x0 (fun y0 => K .normal [(2, .ref 3 []), (3, .own true 55 U18 .no y0)])) := by
  kernel_rfl
def g10_12 {R : Type} (N : Nat) (S34 : Int → Option V17) (x0 : V0) (k0 : V18 → Option R) : Option R :=
(g10_0 x0 (fun y0 => (g10_1 y0 (fun y0 y1 => (g10_2 y0 y1 (fun y0 y1 y2 => (g10_9 N S34 y0 y1 y2 (fun y0 => ((fun y0 => (g10_11 y0 (fun y0 => (k0 y0)))) y0)))))))))
theorem t10_12 {N cl} (S34) (h34 : (ctr34 S34).holds cl) {R} (K : KE R) (x0) : exec cl N c10_12 [(0, .v U4 x0)] K = (g10_12 N S34 x0 (fun y0 => K .ret [(2, .ref 3 []), (3, .own true 55 U18 .no y0)])) := by
  simp only [c10_12, exec_seq, seqK_normal, seqK_exit, seqK_ret, t10_0, t10_1, t10_2, c10_10, exec_out, exec_block, t10_9 S34 h34, blockK_normal, blockK_ret, blockK_eq, kp10_3, t10_11, exec_ret]
  rfl
theorem rk10_0 (y0 : V18) : retK d10 .ret [(2, .ref 3 []), (3, .own true 55 U18 .no y0)] = some [.own true 55 U18 .no y0] := by kernel_rfl
def g10 {R : Type} (N : Nat) (S34 : Int → Option V17) (x0 : V0) (k : V18 → Option R) : Option R :=
(g10_12 N S34 x0 (fun y0 => k y0))
theorem gen10 {N : Nat} {cl : Cal} (S34 : Int → Option V17) (h34 : (ctr34 S34).holds cl) (x0 : V0) {R : Type} (k : List E → Option R) : exec cl N c10 (params 0 [.v U4 x0]) (fun e env => (retK d10 e env).bind k) = g10 N S34 x0 (fun (r0 : V18) => k [.own true 55 U18 .no r0]) := by
  have e0 : params 0 [.v U4 x0] = [(0, .v U4 x0)] := by kernel_rfl
  simp only [c10, e0, t10_12 S34 h34, rk10_0, Option.bind_some]
  rfl
def ctr10 (S : V0 → Option V20) : Ctr := { A := V0 × Unit, B := V18, f := 10, enc := fun a => [.v U4 a.1], dec := (decC (decV U4) dec0), S := fun a => S a.1, ent := fun b => [.own true 55 U18 .no b], ok := (decV_cons (T := U4) (fun es b h => dec0_some h)) }
def S10 (N : Nat) (x0 : V0) : Option V20 := g10 N (S34 N) x0 (fun (r0 : V18) => some (r0))
def g86_0 {R : Type} (x0 : Int) (k0 : Int → Option R) : Option R :=
k0 x0
theorem t86_0 {N cl} {R} (K : KE R) (x0) : exec cl N c86_0 [(0, .v U1 x0)] K = (g86_0 x0 (fun y0 => K .normal [(0, .v U1 y0)])) := by
  kernel_rfl
def g86_1 {R : Type} (x0 : Int) (k0 : Bool → Option R) : Option R :=
brB (decide (x0 ≥ (97 : Int))) (k0 (decide (x0 ≤ (122 : Int)))) (k0 false)
theorem t86_1 {N cl} {R} (K : KE R) (x0) : exec cl N c86_1 [(0, .v U1 x0)] K = (g86_1 x0 (fun y0 => K .normal [(2, .v .bool y0)])) := by
  kernel_rfl
def g86_2 {R : Type} (x0 : Int) (k0 : Bool → Option R) : Option R :=
(g86_0 x0 (fun y0 => (g86_1 y0 (fun y0 => (k0 y0)))))
theorem t86_2 {N cl} {R} (K : KE R) (x0) : exec cl N c86_2 [(0, .v U1 x0)] K = (g86_2 x0 (fun y0 => K .ret [(2, .v .bool y0)])) := by
  simp only [c86_2, exec_seq, seqK_normal, seqK_exit, seqK_ret, t86_0, t86_1, exec_ret]
  rfl
theorem rk86_0 (y0 : Bool) : retK d86 .ret [(2, .v .bool y0)] = some [.v .bool y0] := by kernel_rfl
def g86 {R : Type} (x0 : Int) (k : Bool → Option R) : Option R :=
(g86_2 x0 (fun y0 => k y0))
theorem gen86 {N : Nat} {cl : Cal} (x0 : Int) {R : Type} (k : List E → Option R) : exec cl N c86 (params 0 [.v U1 x0]) (fun e env => (retK d86 e env).bind k) = g86 x0 (fun (r0 : Bool) => k [.v .bool r0]) := by
  have e0 : params 0 [.v U1 x0] = [(0, .v U1 x0)] := by kernel_rfl
  simp only [c86, e0, t86_2, rk86_0, Option.bind_some]
  rfl
def ctr86 (S : Int → Option (Bool)) : Ctr := { A := Int × Unit, B := Bool, f := 86, enc := fun a => [.v U1 a.1], dec := (decC (decV U1) dec0), S := fun a => S a.1, ent := fun b => [.v .bool b], ok := (decV_cons (T := U1) (fun es b h => dec0_some h)) }
def S86 (N : Nat) (x0 : Int) : Option (Bool) := g86 x0 (fun (r0 : Bool) => some (r0))
def g87_0 {R : Type} (x0 : Int) (k0 : Int → Option R) : Option R :=
k0 x0
theorem t87_0 {N cl} {R} (K : KE R) (x0) : exec cl N c87_0 [(0, .v U1 x0)] K = (g87_0 x0 (fun y0 => K .normal [(0, .v U1 y0)])) := by
  kernel_rfl
def g87_1 {R : Type} (x0 : Int) (k0 : Bool → Option R) : Option R :=
brB (decide (x0 ≥ (48 : Int))) (k0 (decide (x0 ≤ (57 : Int)))) (k0 false)
theorem t87_1 {N cl} {R} (K : KE R) (x0) : exec cl N c87_1 [(0, .v U1 x0)] K = (g87_1 x0 (fun y0 => K .normal [(2, .v .bool y0)])) := by
  kernel_rfl
def g87_2 {R : Type} (x0 : Int) (k0 : Bool → Option R) : Option R :=
(g87_0 x0 (fun y0 => (g87_1 y0 (fun y0 => (k0 y0)))))
theorem t87_2 {N cl} {R} (K : KE R) (x0) : exec cl N c87_2 [(0, .v U1 x0)] K = (g87_2 x0 (fun y0 => K .ret [(2, .v .bool y0)])) := by
  simp only [c87_2, exec_seq, seqK_normal, seqK_exit, seqK_ret, t87_0, t87_1, exec_ret]
  rfl
theorem rk87_0 (y0 : Bool) : retK d87 .ret [(2, .v .bool y0)] = some [.v .bool y0] := by kernel_rfl
def g87 {R : Type} (x0 : Int) (k : Bool → Option R) : Option R :=
(g87_2 x0 (fun y0 => k y0))
theorem gen87 {N : Nat} {cl : Cal} (x0 : Int) {R : Type} (k : List E → Option R) : exec cl N c87 (params 0 [.v U1 x0]) (fun e env => (retK d87 e env).bind k) = g87 x0 (fun (r0 : Bool) => k [.v .bool r0]) := by
  have e0 : params 0 [.v U1 x0] = [(0, .v U1 x0)] := by kernel_rfl
  simp only [c87, e0, t87_2, rk87_0, Option.bind_some]
  rfl
def ctr87 (S : Int → Option (Bool)) : Ctr := { A := Int × Unit, B := Bool, f := 87, enc := fun a => [.v U1 a.1], dec := (decC (decV U1) dec0), S := fun a => S a.1, ent := fun b => [.v .bool b], ok := (decV_cons (T := U1) (fun es b h => dec0_some h)) }
def S87 (N : Nat) (x0 : Int) : Option (Bool) := g87 x0 (fun (r0 : Bool) => some (r0))
def g72_0 {R : Type} (x0 : V1) (k0 : V1 → Option R) : Option R :=
k0 x0
theorem t72_0 {N cl} {R} (K : KE R) (x0) : exec cl N c72_0 [(0, .v .str x0)] K = (g72_0 x0 (fun y0 => K .normal [(0, .v .str y0)])) := by
  kernel_rfl
def g72_1 {R : Type} (S86 : Int → Option (Bool)) (x0 : V1) (k0 : V1 → Bool → Option R) : Option R :=
brB (x0 == ([] : List UInt8)) (k0 x0 true) (if 0 ≤ (0 : Int) ∧ (0 : Int) < (x0.length : Int) then
(S86 ((x0.getD (0 : Int).toNat 0).toNat : Int)).bind fun r106 =>
k0 x0 (!r106)
else none)
theorem t72_1 {N cl} (S86) (h86 : (ctr86 S86).holds cl) {R} (K : KE R) (x0) : exec cl N c72_1 [(0, .v .str x0)] K = (g72_1 S86 x0 (fun y0 y1 => K .normal [(0, .v .str y0), (12, .v .bool y1)])) := by
  rw [← put_eq h86]
  kernel_rfl
def g72_2 {R : Type} (x0 : V1) (x1 : Bool) (k0 : Int → Option R) : Option R :=
k0 (0 : Int)
theorem t72_2 {N cl} {R} (K : KE R) (x0 x1) : exec cl N c72_2 [(0, .v .str x0), (12, .v .bool x1)] K = (g72_2 x0 x1 (fun y0 => K .normal [(2, .v U2 y0)])) := by
  kernel_rfl
theorem kp72_0 (x0) : keep [0, 2] [(2, .v U2 x0)] = [(0, .dead), (2, .v U2 x0)] := by kernel_rfl
theorem kp72_1 (x0 x1) : keep [0, 2] [(0, .v .str x0), (12, .v .bool x1)] = [(0, .v .str x0), (2, .dead)] := by kernel_rfl
theorem hb72_0 (x0 : V1) (x1 : Bool) : boolOf? (ent [(0, .v .str x0), (12, .v .bool x1)] (.t 12)) = some x1 := by kernel_rfl
def g72_4 {R : Type} (x0 : V1) (k0 : V1 → Int → Option R) : Option R :=
k0 x0 (1 : Int)
theorem t72_4 {N cl} {R} (K : KE R) (x0) : exec cl N c72_4 [(0, .v .str x0), (2, .dead)] K = (g72_4 x0 (fun y0 y1 => K .normal [(0, .v .str y0), (3, .v U2 y1)])) := by
  kernel_rfl
theorem kp72_2 (x0 x1) : keep [0, 3] [(0, .v .str x0), (3, .v U2 x1)] = [(0, .v .str x0), (3, .v U2 x1)] := by kernel_rfl
def g72_5 {R : Type} (x0 : V1) (x1 : Int) (k0 : V1 → Int → Bool → Option R) : Option R :=
k0 x0 x1 (decide (x1 < (x0.length : Int)))
theorem t72_5 {N cl} {R} (K : KE R) (x0 x1) : exec cl N c72_5 [(0, .v .str x0), (3, .v U2 x1)] K = (g72_5 x0 x1 (fun y0 y1 y2 => K .normal [(0, .v .str y0), (3, .v U2 y1), (16, .v .bool y2)])) := by
  kernel_rfl
theorem kp72_3 (x0 x1 x2) : keep [0, 3] [(0, .v .str x0), (3, .v U2 x1), (16, .v .bool x2)] = [(0, .v .str x0), (3, .v U2 x1)] := by kernel_rfl
theorem hb72_1 (x0 : V1) (x1 : Int) (x2 : Bool) : boolOf? (ent [(0, .v .str x0), (3, .v U2 x1), (16, .v .bool x2)] (.t 16)) = some x2 := by kernel_rfl
def g72_7 {R : Type} (x0 : V1) (x1 : Int) (k0 : V1 → Int → Int → Option R) : Option R :=
if 0 ≤ x1 ∧ x1 < (x0.length : Int) then
k0 x0 x1 ((x0.getD x1.toNat 0).toNat : Int)
else none
theorem t72_7 {N cl} {R} (K : KE R) (x0 x1) : exec cl N c72_7 [(0, .v .str x0), (3, .v U2 x1)] K = (g72_7 x0 x1 (fun y0 y1 y2 => K .normal [(0, .v .str y0), (3, .v U2 y1), (4, .v U1 y2)])) := by
  kernel_rfl
def g72_8 {R : Type} (S86 : Int → Option (Bool)) (S87 : Int → Option (Bool)) (x0 : V1) (x1 : Int) (x2 : Int) (k0 : V1 → Int → Int → Bool → Option R) : Option R :=
(S86 x2).bind fun r109 =>
brB r109 (k0 x0 x1 x2 true) ((S87 x2).bind fun r110 =>
k0 x0 x1 x2 r110)
theorem t72_8 {N cl} (S86) (S87) (h86 : (ctr86 S86).holds cl) (h87 : (ctr87 S87).holds cl) {R} (K : KE R) (x0 x1 x2) : exec cl N c72_8 [(0, .v .str x0), (3, .v U2 x1), (4, .v U1 x2)] K = (g72_8 S86 S87 x0 x1 x2 (fun y0 y1 y2 y3 => K .normal [(0, .v .str y0), (3, .v U2 y1), (4, .v U1 y2), (21, .v .bool y3)])) := by
  rw [← put_eq h86]
  rw [← put_eq h87]
  kernel_rfl
def g72_9 {R : Type} (x0 : V1) (x1 : Int) (x2 : Int) (x3 : Bool) (k0 : V1 → Int → Option R) : Option R :=
k0 x0 (IntKind.i64.wrap (x1 + (1 : Int)))
theorem t72_9 {N cl} {R} (K : KE R) (x0 x1 x2 x3) : exec cl N c72_9 [(0, .v .str x0), (3, .v U2 x1), (4, .v U1 x2), (21, .v .bool x3)] K = (g72_9 x0 x1 x2 x3 (fun y0 y1 => K .normal [(0, .v .str y0), (3, .v U2 y1)])) := by
  kernel_rfl
theorem kp72_4 (x0 x1) : keep [0, 2, 3] [(0, .v .str x0), (3, .v U2 x1)] = [(0, .v .str x0), (2, .dead), (3, .v U2 x1)] := by kernel_rfl
def g72_10 {R : Type} (S86 : Int → Option (Bool)) (S87 : Int → Option (Bool)) (x0 : V1) (x1 : Int) (x2 : Int) (x3 : Bool) (k0 : V1 → Int → Bool → Option R) : Option R :=
brB (x2 == (45 : Int)) (brB (decide ((IntKind.i64.wrap (x1 + (1 : Int))) < (x0.length : Int))) (let v115 : Int := (IntKind.i64.wrap (x1 + (1 : Int)))
if 0 ≤ v115 ∧ v115 < (x0.length : Int) then
(S86 ((x0.getD v115.toNat 0).toNat : Int)).bind fun r117 =>
brB r117 (k0 x0 x1 true) (let v118 : Int := (IntKind.i64.wrap (x1 + (1 : Int)))
if 0 ≤ v118 ∧ v118 < (x0.length : Int) then
(S87 ((x0.getD v118.toNat 0).toNat : Int)).bind fun r120 =>
k0 x0 x1 r120
else none)
else none) (k0 x0 x1 false)) (k0 x0 x1 false)
theorem t72_10 {N cl} (S86) (S87) (h86 : (ctr86 S86).holds cl) (h87 : (ctr87 S87).holds cl) {R} (K : KE R) (x0 x1 x2 x3) : exec cl N c72_10 [(0, .v .str x0), (3, .v U2 x1), (4, .v U1 x2), (21, .v .bool x3)] K = (g72_10 S86 S87 x0 x1 x2 x3 (fun y0 y1 y2 => K .normal [(0, .v .str y0), (3, .v U2 y1), (30, .v .bool y2)])) := by
  rw [← put_eq h86]
  rw [← put_eq h87]
  kernel_rfl
def g72_11 {R : Type} (x0 : V1) (x1 : Int) (x2 : Bool) (k0 : V1 → Int → Option R) : Option R :=
k0 x0 (IntKind.i64.wrap (x1 + (2 : Int)))
theorem t72_11 {N cl} {R} (K : KE R) (x0 x1 x2) : exec cl N c72_11 [(0, .v .str x0), (3, .v U2 x1), (30, .v .bool x2)] K = (g72_11 x0 x1 x2 (fun y0 y1 => K .normal [(0, .v .str y0), (3, .v U2 y1)])) := by
  kernel_rfl
def g72_12 {R : Type} (x0 : V1) (x1 : Int) (x2 : Bool) (k0 : Int → Option R) : Option R :=
k0 x1
theorem t72_12 {N cl} {R} (K : KE R) (x0 x1 x2) : exec cl N c72_12 [(0, .v .str x0), (3, .v U2 x1), (30, .v .bool x2)] K = (g72_12 x0 x1 x2 (fun y0 => K .normal [(2, .v U2 y0)])) := by
  kernel_rfl
theorem kp72_5 (x0) : keep [0, 2, 3] [(2, .v U2 x0)] = [(0, .dead), (2, .v U2 x0), (3, .dead)] := by kernel_rfl
theorem hb72_2 (x0 : V1) (x1 : Int) (x2 : Bool) : boolOf? (ent [(0, .v .str x0), (3, .v U2 x1), (30, .v .bool x2)] (.t 30)) = some x2 := by kernel_rfl
theorem kp72_6 (x0 x1) : keep [0, 2, 3] [(0, .v .str x0), (2, .dead), (3, .v U2 x1)] = [(0, .v .str x0), (2, .dead), (3, .v U2 x1)] := by kernel_rfl
theorem kp72_7 (x0) : keep [0, 2, 3] [(0, .dead), (2, .v U2 x0), (3, .dead)] = [(0, .dead), (2, .v U2 x0), (3, .dead)] := by kernel_rfl
theorem hb72_3 (x0 : V1) (x1 : Int) (x2 : Int) (x3 : Bool) : boolOf? (ent [(0, .v .str x0), (3, .v U2 x1), (4, .v U1 x2), (21, .v .bool x3)] (.t 21)) = some x3 := by kernel_rfl
def g72_17 {R : Type} (S86 : Int → Option (Bool)) (S87 : Int → Option (Bool)) (x0 : V1) (x1 : Int) (k0 : V1 → Int → Option R) (k1 : Int → Option R) (k2 : V1 → Int → Option R) : Option R :=
(g72_5 x0 x1 (fun y0 y1 y2 => brB y2 ((fun y0 y1 => (g72_7 y0 y1 (fun y0 y1 y2 => (g72_8 S86 S87 y0 y1 y2 (fun y0 y1 y2 y3 => brB y3 (g72_9 y0 y1 y2 y3 (fun y0 y1 => (k0 y0 y1))) (g72_10 S86 S87 y0 y1 y2 y3 (fun y0 y1 y2 => brB y2 (g72_11 y0 y1 y2 (fun y0 y1 => (k0 y0 y1))) (g72_12 y0 y1 y2 (fun y0 => ((fun y0 => (k1 y0)) y0)))))))))) y0 y1) (k2 y0 y1)))
theorem t72_17 {N cl} (S86) (S87) (h86 : (ctr86 S86).holds cl) (h87 : (ctr87 S87).holds cl) {R} (K : KE R) (x0 x1) : exec cl N c72_17 [(0, .v .str x0), (3, .v U2 x1)] K = (g72_17 S86 S87 x0 x1 (fun y0 y1 => K .normal [(0, .v .str y0), (2, .dead), (3, .v U2 y1)]) (fun y0 => K .ret [(0, .dead), (2, .v U2 y0), (3, .dead)]) (fun y0 y1 => K (.exit 0) [(0, .v .str y0), (3, .v U2 y1)])) := by
  simp only [c72_17, exec_seq, seqK_normal, seqK_exit, seqK_ret, t72_5, c72_6, exec_out, exec_cond', hb72_1, Option.bind_some, brB_true, brB_false, exec_skip, exec_exit, kp72_3, c72_16, exec_block, t72_7, c72_15, t72_8 S86 S87 h86 h87, c72_14, hb72_3, t72_9, t72_10 S86 S87 h86 h87, c72_13, hb72_2, t72_11, t72_12, exec_ret, kp72_4, kp72_5, kp72_6, kp72_7, blockK_normal, blockK_ret, blockK_eq]
  rfl
theorem kp72_8 (x0 x1) : keep [0, 3] [(0, .v .str x0), (2, .dead), (3, .v U2 x1)] = [(0, .v .str x0), (3, .v U2 x1)] := by kernel_rfl
def l72_18 {R : Type} (S86 : Int → Option (Bool)) (S87 : Int → Option (Bool)) (k0 : Int → Option R) (k1 : V1 → Int → Option R) : Nat → V1 → Int → Option R
  | 0, _, _ => none
  | m + 1, x0, x1 => (g72_17 S86 S87 x0 x1 (fun y0 y1 => l72_18 S86 S87 k0 k1 m y0 y1) k0 k1)
theorem lt72_18 {N cl} (S86) (S87) (h86 : (ctr86 S86).holds cl) (h87 : (ctr87 S87).holds cl) {R} (K : KE R) : ∀ (m) (x0 x1), iter [0, 3] (fun env K => exec cl N c72_17 env K) K m [(0, .v .str x0), (3, .v U2 x1)] = l72_18 S86 S87 (fun y0 => K .ret [(0, .dead), (2, .v U2 y0), (3, .dead)]) (fun y0 y1 => K (.exit 0) [(0, .v .str y0), (3, .v U2 y1)]) m x0 x1 := by
  intro m
  induction m with
  | zero => intros; rfl
  | succ m ih =>
    intro x0 x1
    simp only [iter_succ, t72_17 S86 S87 h86 h87, loopK_normal, loopK_exit, loopK_ret, kp72_8, ih]
    rfl
theorem kp72_9 (x0) : keep [2, 3] [(0, .dead), (2, .v U2 x0), (3, .dead)] = [(2, .v U2 x0), (3, .dead)] := by kernel_rfl
theorem kp72_10 (x0 x1) : keep [2, 3] [(0, .v .str x0), (3, .v U2 x1)] = [(2, .dead), (3, .v U2 x1)] := by kernel_rfl
def g72_18 {R : Type} (N : Nat) (S86 : Int → Option (Bool)) (S87 : Int → Option (Bool)) (x0 : V1) (x1 : Int) (k0 : Int → Option R) (k1 : Int → Option R) : Option R :=
l72_18 S86 S87 (fun y0 => k0 y0) (fun y0 y1 => k1 y1) N x0 x1
theorem t72_18 {N cl} (S86) (S87) (h86 : (ctr86 S86).holds cl) (h87 : (ctr87 S87).holds cl) {R} (K : KE R) (x0 x1) : exec cl N c72_18 [(0, .v .str x0), (3, .v U2 x1)] K = (g72_18 N S86 S87 x0 x1 (fun y0 => K .ret [(2, .v U2 y0), (3, .dead)]) (fun y0 => K (.exit 0) [(2, .dead), (3, .v U2 y0)])) := by
  simp only [c72_18, exec_out, exec_loop, kp72_2, lt72_18 S86 S87 h86 h87, kp72_10, kp72_9]
  rfl
theorem kp72_11 (x0) : keep [2, 3] [(2, .v U2 x0), (3, .dead)] = [(2, .v U2 x0), (3, .dead)] := by kernel_rfl
theorem kp72_12 (x0) : keep [2, 3] [(2, .dead), (3, .v U2 x0)] = [(2, .dead), (3, .v U2 x0)] := by kernel_rfl
def g72_20 {R : Type} (x0 : Int) (k0 : Int → Option R) : Option R :=
k0 x0
theorem t72_20 {N cl} {R} (K : KE R) (x0) : exec cl N c72_20 [(2, .dead), (3, .v U2 x0)] K = (g72_20 x0 (fun y0 => K .normal [(2, .v U2 y0)])) := by
  kernel_rfl
def g72_21 {R : Type} (N : Nat) (S86 : Int → Option (Bool)) (S87 : Int → Option (Bool)) (x0 : V1) (k0 : Int → Option R) (k1 : Int → Option R) (k2 : Int → Option R) : Option R :=
(g72_0 x0 (fun y0 => (g72_1 S86 y0 (fun y0 y1 => brB y1 (g72_2 y0 y1 (fun y0 => ((fun y0 => (k0 y0)) y0))) ((fun y0 => (g72_4 y0 (fun y0 y1 => (g72_18 N S86 S87 y0 y1 (fun y0 => (k1 y0)) (fun y0 => ((fun y0 => (g72_20 y0 (fun y0 => (k2 y0)))) y0)))))) y0)))))
theorem t72_21 {N cl} (S86) (S87) (h86 : (ctr86 S86).holds cl) (h87 : (ctr87 S87).holds cl) {R} (K : KE R) (x0) : exec cl N c72_21 [(0, .v .str x0)] K = (g72_21 N S86 S87 x0 (fun y0 => K .ret [(0, .dead), (2, .v U2 y0)]) (fun y0 => K .ret [(2, .v U2 y0), (3, .dead)]) (fun y0 => K .ret [(2, .v U2 y0)])) := by
  simp only [c72_21, exec_seq, seqK_normal, seqK_exit, seqK_ret, t72_0, t72_1 S86 h86, c72_3, exec_out, exec_cond', hb72_0, Option.bind_some, brB_true, brB_false, t72_2, exec_ret, exec_skip, kp72_0, kp72_1, t72_4, c72_19, exec_block, t72_18 S86 S87 h86 h87, blockK_normal, blockK_ret, blockK_eq, kp72_11, kp72_12, t72_20]
  rfl
theorem rk72_0 (y0 : Int) : retK d72 .ret [(0, .dead), (2, .v U2 y0)] = some [.v U2 y0] := by kernel_rfl
theorem rk72_1 (y0 : Int) : retK d72 .ret [(2, .v U2 y0), (3, .dead)] = some [.v U2 y0] := by kernel_rfl
theorem rk72_2 (y0 : Int) : retK d72 .ret [(2, .v U2 y0)] = some [.v U2 y0] := by kernel_rfl
def g72 {R : Type} (N : Nat) (S86 : Int → Option (Bool)) (S87 : Int → Option (Bool)) (x0 : V1) (k : Int → Option R) : Option R :=
(g72_21 N S86 S87 x0 (fun y0 => k y0) (fun y0 => k y0) (fun y0 => k y0))
theorem gen72 {N : Nat} {cl : Cal} (S86 : Int → Option (Bool)) (S87 : Int → Option (Bool)) (h86 : (ctr86 S86).holds cl) (h87 : (ctr87 S87).holds cl) (x0 : V1) {R : Type} (k : List E → Option R) : exec cl N c72 (params 0 [.v .str x0]) (fun e env => (retK d72 e env).bind k) = g72 N S86 S87 x0 (fun (r0 : Int) => k [.v U2 r0]) := by
  have e0 : params 0 [.v .str x0] = [(0, .v .str x0)] := by kernel_rfl
  simp only [c72, e0, t72_21 S86 S87 h86 h87, rk72_0, rk72_1, rk72_2, Option.bind_some]
  rfl
def ctr72 (S : V1 → Option (Int)) : Ctr := { A := V1 × Unit, B := Int, f := 72, enc := fun a => [.v .str a.1], dec := (decC (decV .str) dec0), S := fun a => S a.1, ent := fun b => [.v U2 b], ok := (decV_cons (T := .str) (fun es b h => dec0_some h)) }
def S72 (N : Nat) (x0 : V1) : Option (Int) := g72 N (S86 N) (S87 N) x0 (fun (r0 : Int) => some (r0))
def g53_0 {R : Type} (x0 : V1) (k0 : V1 → Option R) : Option R :=
k0 x0
theorem t53_0 {N cl} {R} (K : KE R) (x0) : exec cl N c53_0 [(0, .v .str x0)] K = (g53_0 x0 (fun y0 => K .normal [(0, .v .str y0)])) := by
  kernel_rfl
def g53_1 {R : Type} (S72 : V1 → Option (Int)) (x0 : V1) (k0 : Bool → Option R) : Option R :=
brB (x0 != ([] : List UInt8)) (brB (decide ((x0.length : Int) ≤ (20 : Int))) ((S72 x0).bind fun r126 =>
k0 (r126 == (x0.length : Int))) (k0 false)) (k0 false)
theorem t53_1 {N cl} (S72) (h72 : (ctr72 S72).holds cl) {R} (K : KE R) (x0) : exec cl N c53_1 [(0, .v .str x0)] K = (g53_1 S72 x0 (fun y0 => K .normal [(2, .v .bool y0)])) := by
  rw [← put_eq h72]
  kernel_rfl
def g53_2 {R : Type} (S72 : V1 → Option (Int)) (x0 : V1) (k0 : Bool → Option R) : Option R :=
(g53_0 x0 (fun y0 => (g53_1 S72 y0 (fun y0 => (k0 y0)))))
theorem t53_2 {N cl} (S72) (h72 : (ctr72 S72).holds cl) {R} (K : KE R) (x0) : exec cl N c53_2 [(0, .v .str x0)] K = (g53_2 S72 x0 (fun y0 => K .ret [(2, .v .bool y0)])) := by
  simp only [c53_2, exec_seq, seqK_normal, seqK_exit, seqK_ret, t53_0, t53_1 S72 h72, exec_ret]
  rfl
theorem rk53_0 (y0 : Bool) : retK d53 .ret [(2, .v .bool y0)] = some [.v .bool y0] := by kernel_rfl
def g53 {R : Type} (S72 : V1 → Option (Int)) (x0 : V1) (k : Bool → Option R) : Option R :=
(g53_2 S72 x0 (fun y0 => k y0))
theorem gen53 {N : Nat} {cl : Cal} (S72 : V1 → Option (Int)) (h72 : (ctr72 S72).holds cl) (x0 : V1) {R : Type} (k : List E → Option R) : exec cl N c53 (params 0 [.v .str x0]) (fun e env => (retK d53 e env).bind k) = g53 S72 x0 (fun (r0 : Bool) => k [.v .bool r0]) := by
  have e0 : params 0 [.v .str x0] = [(0, .v .str x0)] := by kernel_rfl
  simp only [c53, e0, t53_2 S72 h72, rk53_0, Option.bind_some]
  rfl
def ctr53 (S : V1 → Option (Bool)) : Ctr := { A := V1 × Unit, B := Bool, f := 53, enc := fun a => [.v .str a.1], dec := (decC (decV .str) dec0), S := fun a => S a.1, ent := fun b => [.v .bool b], ok := (decV_cons (T := .str) (fun es b h => dec0_some h)) }
def S53 (N : Nat) (x0 : V1) : Option (Bool) := g53 (S72 N) x0 (fun (r0 : Bool) => some (r0))
def g104_0 {R : Type} (x0 : V1) (x1 : Int) (k0 : V1 → Int → Option R) : Option R :=
k0 x0 x1
theorem t104_0 {N cl} {R} (K : KE R) (x0 x1) : exec cl N c104_0 [(0, .v .str x0), (1, .v U1 x1)] K = (g104_0 x0 x1 (fun y0 y1 => K .normal [(0, .v .str y0), (1, .v U1 y1)])) := by
  kernel_rfl
def g104_1 {R : Type} (S109 : V1 → Int → Option (Int)) (x0 : V1) (x1 : Int) (k0 : Int → Option R) : Option R :=
(S109 x0 x1).bind fun r143 =>
k0 r143
theorem t104_1 {N cl} (S109) (h109 : (ctr109 S109).holds cl) {R} (K : KE R) (x0 x1) : exec cl N c104_1 [(0, .v .str x0), (1, .v U1 x1)] K = (g104_1 S109 x0 x1 (fun y0 => K .normal [(4, .v U2 y0)])) := by
  rw [← put_eq h109]
  kernel_rfl
def g104_2 {R : Type} (S109 : V1 → Int → Option (Int)) (x0 : V1) (x1 : Int) (k0 : Int → Option R) : Option R :=
(g104_0 x0 x1 (fun y0 y1 => (g104_1 S109 y0 y1 (fun y0 => (k0 y0)))))
theorem t104_2 {N cl} (S109) (h109 : (ctr109 S109).holds cl) {R} (K : KE R) (x0 x1) : exec cl N c104_2 [(0, .v .str x0), (1, .v U1 x1)] K = (g104_2 S109 x0 x1 (fun y0 => K .ret [(4, .v U2 y0)])) := by
  simp only [c104_2, exec_seq, seqK_normal, seqK_exit, seqK_ret, t104_0, t104_1 S109 h109, exec_ret]
  rfl
theorem rk104_0 (y0 : Int) : retK d104 .ret [(4, .v U2 y0)] = some [.v U2 y0] := by kernel_rfl
def g104 {R : Type} (S109 : V1 → Int → Option (Int)) (x0 : V1) (x1 : Int) (k : Int → Option R) : Option R :=
(g104_2 S109 x0 x1 (fun y0 => k y0))
theorem gen104 {N : Nat} {cl : Cal} (S109 : V1 → Int → Option (Int)) (h109 : (ctr109 S109).holds cl) (x0 : V1) (x1 : Int) {R : Type} (k : List E → Option R) : exec cl N c104 (params 0 [.v .str x0, .v U1 x1]) (fun e env => (retK d104 e env).bind k) = g104 S109 x0 x1 (fun (r0 : Int) => k [.v U2 r0]) := by
  have e0 : params 0 [.v .str x0, .v U1 x1] = [(0, .v .str x0), (1, .v U1 x1)] := by kernel_rfl
  simp only [c104, e0, t104_2 S109 h109, rk104_0, Option.bind_some]
  rfl
def ctr104 (S : V1 → Int → Option (Int)) : Ctr := { A := V1 × Int × Unit, B := Int, f := 104, enc := fun a => [.v .str a.1, .v U1 a.2.1], dec := (decC (decV .str) (decC (decV U1) dec0)), S := fun a => S a.1 a.2.1, ent := fun b => [.v U2 b], ok := (decV_cons (T := .str) (decV_cons (T := U1) (fun es b h => dec0_some h))) }
def S104 (N : Nat) (x0 : V1) (x1 : Int) : Option (Int) := g104 (S109 N) x0 x1 (fun (r0 : Int) => some (r0))
def g99_0 {R : Type} (x0 : Int) (k0 : Int → Option R) : Option R :=
k0 x0
theorem t99_0 {N cl} {R} (K : KE R) (x0) : exec cl N c99_0 [(0, .v U1 x0)] K = (g99_0 x0 (fun y0 => K .normal [(0, .v U1 y0)])) := by
  kernel_rfl
def g99_1 {R : Type} (S104 : V1 → Int → Option (Int)) (x0 : Int) (k0 : Bool → Option R) : Option R :=
brB (decide (x0 ≥ (32 : Int))) (brB (decide (x0 ≤ (126 : Int))) ((S104 ([32, 46, 44, 59, 58, 33, 63, 34, 45, 91, 93, 60, 62, 123, 125] : List UInt8) x0).bind fun r148 =>
k0 (decide (r148 < (0 : Int)))) (k0 false)) (k0 false)
theorem t99_1 {N cl} (S104) (h104 : (ctr104 S104).holds cl) {R} (K : KE R) (x0) : exec cl N c99_1 [(0, .v U1 x0)] K = (g99_1 S104 x0 (fun y0 => K .normal [(2, .v .bool y0)])) := by
  rw [← put_eq h104]
  kernel_rfl
def g99_2 {R : Type} (S104 : V1 → Int → Option (Int)) (x0 : Int) (k0 : Bool → Option R) : Option R :=
(g99_0 x0 (fun y0 => (g99_1 S104 y0 (fun y0 => (k0 y0)))))
theorem t99_2 {N cl} (S104) (h104 : (ctr104 S104).holds cl) {R} (K : KE R) (x0) : exec cl N c99_2 [(0, .v U1 x0)] K = (g99_2 S104 x0 (fun y0 => K .ret [(2, .v .bool y0)])) := by
  simp only [c99_2, exec_seq, seqK_normal, seqK_exit, seqK_ret, t99_0, t99_1 S104 h104, exec_ret]
  rfl
theorem rk99_0 (y0 : Bool) : retK d99 .ret [(2, .v .bool y0)] = some [.v .bool y0] := by kernel_rfl
def g99 {R : Type} (S104 : V1 → Int → Option (Int)) (x0 : Int) (k : Bool → Option R) : Option R :=
(g99_2 S104 x0 (fun y0 => k y0))
theorem gen99 {N : Nat} {cl : Cal} (S104 : V1 → Int → Option (Int)) (h104 : (ctr104 S104).holds cl) (x0 : Int) {R : Type} (k : List E → Option R) : exec cl N c99 (params 0 [.v U1 x0]) (fun e env => (retK d99 e env).bind k) = g99 S104 x0 (fun (r0 : Bool) => k [.v .bool r0]) := by
  have e0 : params 0 [.v U1 x0] = [(0, .v U1 x0)] := by kernel_rfl
  simp only [c99, e0, t99_2 S104 h104, rk99_0, Option.bind_some]
  rfl
def ctr99 (S : Int → Option (Bool)) : Ctr := { A := Int × Unit, B := Bool, f := 99, enc := fun a => [.v U1 a.1], dec := (decC (decV U1) dec0), S := fun a => S a.1, ent := fun b => [.v .bool b], ok := (decV_cons (T := U1) (fun es b h => dec0_some h)) }
def S99 (N : Nat) (x0 : Int) : Option (Bool) := g99 (S104 N) x0 (fun (r0 : Bool) => some (r0))
def g98_0 {R : Type} (x0 : Int) (k0 : Int → Option R) : Option R :=
k0 x0
theorem t98_0 {N cl} {R} (K : KE R) (x0) : exec cl N c98_0 [(0, .v U1 x0)] K = (g98_0 x0 (fun y0 => K .normal [(0, .v U1 y0)])) := by
  kernel_rfl
def g98_1 {R : Type} (S99 : Int → Option (Bool)) (x0 : Int) (k0 : Bool → Option R) : Option R :=
(S99 x0).bind fun r151 =>
k0 (!r151)
theorem t98_1 {N cl} (S99) (h99 : (ctr99 S99).holds cl) {R} (K : KE R) (x0) : exec cl N c98_1 [(0, .v U1 x0)] K = (g98_1 S99 x0 (fun y0 => K .normal [(2, .v .bool y0)])) := by
  rw [← put_eq h99]
  kernel_rfl
def g98_2 {R : Type} (S99 : Int → Option (Bool)) (x0 : Int) (k0 : Bool → Option R) : Option R :=
(g98_0 x0 (fun y0 => (g98_1 S99 y0 (fun y0 => (k0 y0)))))
theorem t98_2 {N cl} (S99) (h99 : (ctr99 S99).holds cl) {R} (K : KE R) (x0) : exec cl N c98_2 [(0, .v U1 x0)] K = (g98_2 S99 x0 (fun y0 => K .ret [(2, .v .bool y0)])) := by
  simp only [c98_2, exec_seq, seqK_normal, seqK_exit, seqK_ret, t98_0, t98_1 S99 h99, exec_ret]
  rfl
theorem rk98_0 (y0 : Bool) : retK d98 .ret [(2, .v .bool y0)] = some [.v .bool y0] := by kernel_rfl
def g98 {R : Type} (S99 : Int → Option (Bool)) (x0 : Int) (k : Bool → Option R) : Option R :=
(g98_2 S99 x0 (fun y0 => k y0))
theorem gen98 {N : Nat} {cl : Cal} (S99 : Int → Option (Bool)) (h99 : (ctr99 S99).holds cl) (x0 : Int) {R : Type} (k : List E → Option R) : exec cl N c98 (params 0 [.v U1 x0]) (fun e env => (retK d98 e env).bind k) = g98 S99 x0 (fun (r0 : Bool) => k [.v .bool r0]) := by
  have e0 : params 0 [.v U1 x0] = [(0, .v U1 x0)] := by kernel_rfl
  simp only [c98, e0, t98_2 S99 h99, rk98_0, Option.bind_some]
  rfl
def ctr98 (S : Int → Option (Bool)) : Ctr := { A := Int × Unit, B := Bool, f := 98, enc := fun a => [.v U1 a.1], dec := (decC (decV U1) dec0), S := fun a => S a.1, ent := fun b => [.v .bool b], ok := (decV_cons (T := U1) (fun es b h => dec0_some h)) }
def S98 (N : Nat) (x0 : Int) : Option (Bool) := g98 (S99 N) x0 (fun (r0 : Bool) => some (r0))
def g103_0 {R : Type} (x0 : V0) (x1 : V12) (k0 : V0 → V12 → Option R) : Option R :=
k0 x0 x1
theorem t103_0 {N cl} {R} (K : KE R) (x0 x1) : exec cl N c103_0 [(0, .v U4 x0), (1, .v U11 x1)] K = (g103_0 x0 x1 (fun y0 y1 => K .normal [(0, .v U4 y0), (1, .v U11 y1)])) := by
  kernel_rfl
def g103_1 {R : Type} (x0 : V0) (x1 : V12) (k0 : V0 → V12 → Int → Int → Option R) : Option R :=
k0 x0 x1 (x0.length : Int) (0 : Int)
theorem t103_1 {N cl} {R} (K : KE R) (x0 x1) : exec cl N c103_1 [(0, .v U4 x0), (1, .v U11 x1)] K = (g103_1 x0 x1 (fun y0 y1 y2 y3 => K .normal [(0, .v U4 y0), (1, .v U11 y1), (7, .v U2 y2), (8, .v U2 y3)])) := by
  kernel_rfl
theorem kp103_0 (x0 x1 x2 x3) : keep [0, 1, 7, 8] [(0, .v U4 x0), (1, .v U11 x1), (7, .v U2 x2), (8, .v U2 x3)] = [(0, .v U4 x0), (1, .v U11 x1), (7, .v U2 x2), (8, .v U2 x3)] := by kernel_rfl
def g103_2 {R : Type} (x0 : V0) (x1 : V12) (x2 : Int) (x3 : Int) (k0 : V0 → V12 → Int → Int → Bool → Option R) : Option R :=
k0 x0 x1 x2 x3 (decide (x3 < x2))
theorem t103_2 {N cl} {R} (K : KE R) (x0 x1 x2 x3) : exec cl N c103_2 [(0, .v U4 x0), (1, .v U11 x1), (7, .v U2 x2), (8, .v U2 x3)] K = (g103_2 x0 x1 x2 x3 (fun y0 y1 y2 y3 y4 => K .normal [(0, .v U4 y0), (1, .v U11 y1), (7, .v U2 y2), (8, .v U2 y3), (9, .v .bool y4)])) := by
  kernel_rfl
theorem kp103_1 (x0 x1 x2 x3 x4) : keep [0, 1, 7, 8] [(0, .v U4 x0), (1, .v U11 x1), (7, .v U2 x2), (8, .v U2 x3), (9, .v .bool x4)] = [(0, .v U4 x0), (1, .v U11 x1), (7, .v U2 x2), (8, .v U2 x3)] := by kernel_rfl
theorem hb103_0 (x0 : V0) (x1 : V12) (x2 : Int) (x3 : Int) (x4 : Bool) : boolOf? (ent [(0, .v U4 x0), (1, .v U11 x1), (7, .v U2 x2), (8, .v U2 x3), (9, .v .bool x4)] (.t 9)) = some x4 := by kernel_rfl
def g103_4 {R : Type} (x0 : V0) (x1 : V12) (x2 : Int) (x3 : Int) (k0 : V0 → V12 → Int → Int → Int → Option R) : Option R :=
k0 x0 x1 x3 x2 x3
theorem t103_4 {N cl} {R} (K : KE R) (x0 x1 x2 x3) : exec cl N c103_4 [(0, .v U4 x0), (1, .v U11 x1), (7, .v U2 x2), (8, .v U2 x3)] K = (g103_4 x0 x1 x2 x3 (fun y0 y1 y2 y3 y4 => K .normal [(0, .v U4 y0), (1, .v U11 y1), (5, .v U2 y2), (7, .v U2 y3), (8, .v U2 y4)])) := by
  kernel_rfl
def g103_5 {R : Type} (x0 : V0) (x1 : V12) (x2 : Int) (x3 : Int) (x4 : Int) (k0 : V0 → V12 → Int → Int → Int → Bool → Option R) : Option R :=
if 0 ≤ x2 ∧ x2 < (x0.length : Int) then
(x1 ((x0.getD x2.toNat (0 : Int)), ())).bind fun r158 =>
k0 x0 x1 x2 x3 x4 r158
else none
theorem t103_5 {N cl} {R} (K : KE R) (x0 x1 x2 x3 x4) : exec cl N c103_5 [(0, .v U4 x0), (1, .v U11 x1), (5, .v U2 x2), (7, .v U2 x3), (8, .v U2 x4)] K = (g103_5 x0 x1 x2 x3 x4 (fun y0 y1 y2 y3 y4 y5 => K .normal [(0, .v U4 y0), (1, .v U11 y1), (5, .v U2 y2), (7, .v U2 y3), (8, .v U2 y4), (16, .v .bool y5)])) := by
  kernel_rfl
def g103_6 {R : Type} (x0 : V0) (x1 : V12) (x2 : Int) (x3 : Int) (x4 : Int) (x5 : Bool) (k0 : Int → Option R) : Option R :=
k0 x2
theorem t103_6 {N cl} {R} (K : KE R) (x0 x1 x2 x3 x4 x5) : exec cl N c103_6 [(0, .v U4 x0), (1, .v U11 x1), (5, .v U2 x2), (7, .v U2 x3), (8, .v U2 x4), (16, .v .bool x5)] K = (g103_6 x0 x1 x2 x3 x4 x5 (fun y0 => K .normal [(4, .v U2 y0)])) := by
  kernel_rfl
theorem kp103_2 (x0) : keep [0, 1, 4, 7, 8] [(4, .v U2 x0)] = [(0, .dead), (1, .dead), (4, .v U2 x0), (7, .dead), (8, .dead)] := by kernel_rfl
theorem kp103_3 (x0 x1 x2 x3 x4 x5) : keep [0, 1, 4, 7, 8] [(0, .v U4 x0), (1, .v U11 x1), (5, .v U2 x2), (7, .v U2 x3), (8, .v U2 x4), (16, .v .bool x5)] = [(0, .v U4 x0), (1, .v U11 x1), (4, .dead), (7, .v U2 x3), (8, .v U2 x4)] := by kernel_rfl
theorem hb103_1 (x0 : V0) (x1 : V12) (x2 : Int) (x3 : Int) (x4 : Int) (x5 : Bool) : boolOf? (ent [(0, .v U4 x0), (1, .v U11 x1), (5, .v U2 x2), (7, .v U2 x3), (8, .v U2 x4), (16, .v .bool x5)] (.t 16)) = some x5 := by kernel_rfl
theorem kp103_4 (x0) : keep [0, 1, 4, 7, 8] [(0, .dead), (1, .dead), (4, .v U2 x0), (7, .dead), (8, .dead)] = [(0, .dead), (1, .dead), (4, .v U2 x0), (7, .dead), (8, .dead)] := by kernel_rfl
theorem kp103_5 (x0 x1 x2 x3) : keep [0, 1, 4, 7, 8] [(0, .v U4 x0), (1, .v U11 x1), (4, .dead), (7, .v U2 x2), (8, .v U2 x3)] = [(0, .v U4 x0), (1, .v U11 x1), (4, .dead), (7, .v U2 x2), (8, .v U2 x3)] := by kernel_rfl
def g103_9 {R : Type} (x0 : V0) (x1 : V12) (x2 : Int) (x3 : Int) (k0 : V0 → V12 → Int → Int → Option R) : Option R :=
k0 x0 x1 x2 (IntKind.i64.wrap (x3 + (1 : Int)))
theorem t103_9 {N cl} {R} (K : KE R) (x0 x1 x2 x3) : exec cl N c103_9 [(0, .v U4 x0), (1, .v U11 x1), (4, .dead), (7, .v U2 x2), (8, .v U2 x3)] K = (g103_9 x0 x1 x2 x3 (fun y0 y1 y2 y3 => K .normal [(0, .v U4 y0), (1, .v U11 y1), (7, .v U2 y2), (8, .v U2 y3)])) := by
  kernel_rfl
def g103_10 {R : Type} (x0 : V0) (x1 : V12) (x2 : Int) (x3 : Int) (k0 : Int → Option R) (k1 : V0 → V12 → Int → Int → Option R) (k2 : V0 → V12 → Int → Int → Option R) : Option R :=
(g103_2 x0 x1 x2 x3 (fun y0 y1 y2 y3 y4 => brB y4 ((fun y0 y1 y2 y3 => (g103_4 y0 y1 y2 y3 (fun y0 y1 y2 y3 y4 => (g103_5 y0 y1 y2 y3 y4 (fun y0 y1 y2 y3 y4 y5 => brB y5 (g103_6 y0 y1 y2 y3 y4 y5 (fun y0 => ((fun y0 => (k0 y0)) y0))) (g103_9 y0 y1 y3 y4 k1)))))) y0 y1 y2 y3) (k2 y0 y1 y2 y3)))
theorem t103_10 {N cl} {R} (K : KE R) (x0 x1 x2 x3) : exec cl N c103_10 [(0, .v U4 x0), (1, .v U11 x1), (7, .v U2 x2), (8, .v U2 x3)] K = (g103_10 x0 x1 x2 x3 (fun y0 => K .ret [(0, .dead), (1, .dead), (4, .v U2 y0), (7, .dead), (8, .dead)]) (fun y0 y1 y2 y3 => K .normal [(0, .v U4 y0), (1, .v U11 y1), (7, .v U2 y2), (8, .v U2 y3)]) (fun y0 y1 y2 y3 => K (.exit 0) [(0, .v U4 y0), (1, .v U11 y1), (7, .v U2 y2), (8, .v U2 y3)])) := by
  simp only [c103_10, exec_seq, seqK_normal, seqK_exit, seqK_ret, t103_2, c103_3, exec_out, exec_cond', hb103_0, Option.bind_some, brB_true, brB_false, exec_skip, exec_exit, kp103_1, c103_8, exec_block, t103_4, t103_5, c103_7, hb103_1, t103_6, exec_ret, kp103_2, kp103_3, blockK_normal, blockK_ret, blockK_eq, kp103_4, kp103_5, t103_9]
  rfl
def l103_11 {R : Type} (k0 : Int → Option R) (k1 : V0 → V12 → Int → Int → Option R) : Nat → V0 → V12 → Int → Int → Option R
  | 0, _, _, _, _ => none
  | m + 1, x0, x1, x2, x3 => (g103_10 x0 x1 x2 x3 k0 (fun y0 y1 y2 y3 => l103_11 k0 k1 m y0 y1 y2 y3) k1)
theorem lt103_11 {N cl} {R} (K : KE R) : ∀ (m) (x0 x1 x2 x3), iter [0, 1, 7, 8] (fun env K => exec cl N c103_10 env K) K m [(0, .v U4 x0), (1, .v U11 x1), (7, .v U2 x2), (8, .v U2 x3)] = l103_11 (fun y0 => K .ret [(0, .dead), (1, .dead), (4, .v U2 y0), (7, .dead), (8, .dead)]) (fun y0 y1 y2 y3 => K (.exit 0) [(0, .v U4 y0), (1, .v U11 y1), (7, .v U2 y2), (8, .v U2 y3)]) m x0 x1 x2 x3 := by
  intro m
  induction m with
  | zero => intros; rfl
  | succ m ih =>
    intro x0 x1 x2 x3
    simp only [iter_succ, t103_10, loopK_normal, loopK_exit, loopK_ret, kp103_0, ih]
    rfl
theorem kp103_6 (x0) : keep [4] [(0, .dead), (1, .dead), (4, .v U2 x0), (7, .dead), (8, .dead)] = [(4, .v U2 x0)] := by kernel_rfl
theorem kp103_7 (x0 x1 x2 x3) : keep [4] [(0, .v U4 x0), (1, .v U11 x1), (7, .v U2 x2), (8, .v U2 x3)] = [(4, .dead)] := by kernel_rfl
def g103_11 {R : Type} (N : Nat) (x0 : V0) (x1 : V12) (x2 : Int) (x3 : Int) (k0 : Int → Option R) (k1 : Option R) : Option R :=
l103_11 (fun y0 => k0 y0) (fun y0 y1 y2 y3 => k1) N x0 x1 x2 x3
theorem t103_11 {N cl} {R} (K : KE R) (x0 x1 x2 x3) : exec cl N c103_11 [(0, .v U4 x0), (1, .v U11 x1), (7, .v U2 x2), (8, .v U2 x3)] K = (g103_11 N x0 x1 x2 x3 (fun y0 => K .ret [(4, .v U2 y0)]) (K (.exit 0) [(4, .dead)])) := by
  simp only [c103_11, exec_out, exec_loop, kp103_0, lt103_11, kp103_6, kp103_7]
  rfl
theorem kp103_8 (x0) : keep [4] [(4, .v U2 x0)] = [(4, .v U2 x0)] := by kernel_rfl
theorem kp103_9 : keep [4] [(4, .dead)] = [(4, .dead)] := by kernel_rfl
def g103_13 {R : Type} (k0 : Int → Option R) : Option R :=
k0 (-1 : Int)
theorem t103_13 {N cl} {R} (K : KE R) : exec cl N c103_13 [(4, .dead)] K = (g103_13 (fun y0 => K .normal [(4, .v U2 y0)])) := by
  kernel_rfl
def g103_14 {R : Type} (N : Nat) (x0 : V0) (x1 : V12) (k0 : Int → Option R) : Option R :=
(g103_0 x0 x1 (fun y0 y1 => (g103_1 y0 y1 (fun y0 y1 y2 y3 => (g103_11 N y0 y1 y2 y3 (fun y0 => (k0 y0)) (g103_13 (fun y0 => (k0 y0))))))))
theorem t103_14 {N cl} {R} (K : KE R) (x0 x1) : exec cl N c103_14 [(0, .v U4 x0), (1, .v U11 x1)] K = (g103_14 N x0 x1 (fun y0 => K .ret [(4, .v U2 y0)])) := by
  simp only [c103_14, exec_seq, seqK_normal, seqK_exit, seqK_ret, t103_0, t103_1, c103_12, exec_out, exec_block, t103_11, blockK_normal, blockK_ret, blockK_eq, kp103_8, kp103_9, t103_13, exec_ret]
  rfl
theorem rk103_0 (y0 : Int) : retK d103 .ret [(4, .v U2 y0)] = some [.v U2 y0] := by kernel_rfl
def g103 {R : Type} (N : Nat) (x0 : V0) (x1 : V12) (k : Int → Option R) : Option R :=
(g103_14 N x0 x1 (fun y0 => k y0))
theorem gen103 {N : Nat} {cl : Cal} (x0 : V0) (x1 : V12) {R : Type} (k : List E → Option R) : exec cl N c103 (params 0 [.v U4 x0, .v U11 x1]) (fun e env => (retK d103 e env).bind k) = g103 N x0 x1 (fun (r0 : Int) => k [.v U2 r0]) := by
  have e0 : params 0 [.v U4 x0, .v U11 x1] = [(0, .v U4 x0), (1, .v U11 x1)] := by kernel_rfl
  simp only [c103, e0, t103_14, rk103_0, Option.bind_some]
  rfl
def ctr103 (S : V0 → V12 → Option (Int)) : Ctr := { A := V0 × V12 × Unit, B := Int, f := 103, enc := fun a => [.v U4 a.1, .v U11 a.2.1], dec := (decC (decV U4) (decC (decV U11) dec0)), S := fun a => S a.1 a.2.1, ent := fun b => [.v U2 b], ok := (decV_cons (T := U4) (decV_cons (T := U11) (fun es b h => dec0_some h))) }
def S103 (N : Nat) (x0 : V0) (x1 : V12) : Option (Int) := g103 N x0 x1 (fun (r0 : Int) => some (r0))
def g97_0 {R : Type} (x0 : V0) (x1 : V12) (k0 : V0 → V12 → Option R) : Option R :=
k0 x0 x1
theorem t97_0 {N cl} {R} (K : KE R) (x0 x1) : exec cl N c97_0 [(0, .v U4 x0), (1, .v U11 x1)] K = (g97_0 x0 x1 (fun y0 y1 => K .normal [(0, .v U4 y0), (1, .v U11 y1)])) := by
  kernel_rfl
def g97_1 {R : Type} (S103 : V0 → V12 → Option (Int)) (x0 : V0) (x1 : V12) (k0 : Bool → Option R) : Option R :=
(S103 x0 x1).bind fun r162 =>
k0 (decide (r162 ≥ (0 : Int)))
theorem t97_1 {N cl} (S103) (h103 : (ctr103 S103).holds cl) {R} (K : KE R) (x0 x1) : exec cl N c97_1 [(0, .v U4 x0), (1, .v U11 x1)] K = (g97_1 S103 x0 x1 (fun y0 => K .normal [(4, .v .bool y0)])) := by
  rw [← put_eq h103]
  kernel_rfl
def g97_2 {R : Type} (S103 : V0 → V12 → Option (Int)) (x0 : V0) (x1 : V12) (k0 : Bool → Option R) : Option R :=
(g97_0 x0 x1 (fun y0 y1 => (g97_1 S103 y0 y1 (fun y0 => (k0 y0)))))
theorem t97_2 {N cl} (S103) (h103 : (ctr103 S103).holds cl) {R} (K : KE R) (x0 x1) : exec cl N c97_2 [(0, .v U4 x0), (1, .v U11 x1)] K = (g97_2 S103 x0 x1 (fun y0 => K .ret [(4, .v .bool y0)])) := by
  simp only [c97_2, exec_seq, seqK_normal, seqK_exit, seqK_ret, t97_0, t97_1 S103 h103, exec_ret]
  rfl
theorem rk97_0 (y0 : Bool) : retK d97 .ret [(4, .v .bool y0)] = some [.v .bool y0] := by kernel_rfl
def g97 {R : Type} (S103 : V0 → V12 → Option (Int)) (x0 : V0) (x1 : V12) (k : Bool → Option R) : Option R :=
(g97_2 S103 x0 x1 (fun y0 => k y0))
theorem gen97 {N : Nat} {cl : Cal} (S103 : V0 → V12 → Option (Int)) (h103 : (ctr103 S103).holds cl) (x0 : V0) (x1 : V12) {R : Type} (k : List E → Option R) : exec cl N c97 (params 0 [.v U4 x0, .v U11 x1]) (fun e env => (retK d97 e env).bind k) = g97 S103 x0 x1 (fun (r0 : Bool) => k [.v .bool r0]) := by
  have e0 : params 0 [.v U4 x0, .v U11 x1] = [(0, .v U4 x0), (1, .v U11 x1)] := by kernel_rfl
  simp only [c97, e0, t97_2 S103 h103, rk97_0, Option.bind_some]
  rfl
def ctr97 (S : V0 → V12 → Option (Bool)) : Ctr := { A := V0 × V12 × Unit, B := Bool, f := 97, enc := fun a => [.v U4 a.1, .v U11 a.2.1], dec := (decC (decV U4) (decC (decV U11) dec0)), S := fun a => S a.1 a.2.1, ent := fun b => [.v .bool b], ok := (decV_cons (T := U4) (decV_cons (T := U11) (fun es b h => dec0_some h))) }
def S97 (N : Nat) (x0 : V0) (x1 : V12) : Option (Bool) := g97 (S103 N) x0 x1 (fun (r0 : Bool) => some (r0))
def g100_0 {R : Type} (x0 : V6) (x1 : V1) (k0 : V6 → V1 → Option R) : Option R :=
k0 x0 x1
theorem t100_0 {N cl} {R} (K : KE R) (x0 x1) : exec cl N c100_0 [(0, .v U0 x0), (1, .v .str x1)] K = (g100_0 x0 x1 (fun y0 y1 => K .normal [(0, .v U0 y0), (1, .v .str y1)])) := by
  kernel_rfl
def g100_1 {R : Type} (x0 : V6) (x1 : V1) (k0 : V6 → V1 → Int → Option R) : Option R :=
k0 x0 x1 (x0.length : Int)
theorem t100_1 {N cl} {R} (K : KE R) (x0 x1) : exec cl N c100_1 [(0, .v U0 x0), (1, .v .str x1)] K = (g100_1 x0 x1 (fun y0 y1 y2 => K .normal [(0, .v U0 y0), (1, .v .str y1), (12, .v U2 y2)])) := by
  kernel_rfl
def g100_2 {R : Type} (x0 : V6) (x1 : V1) (x2 : Int) (k0 : V6 → V1 → Int → Bool → Option R) : Option R :=
k0 x0 x1 x2 (x2 == (0 : Int))
theorem t100_2 {N cl} {R} (K : KE R) (x0 x1 x2) : exec cl N c100_2 [(0, .v U0 x0), (1, .v .str x1), (12, .v U2 x2)] K = (g100_2 x0 x1 x2 (fun y0 y1 y2 y3 => K .normal [(0, .v U0 y0), (1, .v .str y1), (12, .v U2 y2), (13, .v .bool y3)])) := by
  kernel_rfl
def g100_3 {R : Type} (x0 : V6) (x1 : V1) (x2 : Int) (x3 : Bool) (k0 : V1 → Option R) : Option R :=
k0 ([] : List UInt8)
theorem t100_3 {N cl} {R} (K : KE R) (x0 x1 x2 x3) : exec cl N c100_3 [(0, .v U0 x0), (1, .v .str x1), (12, .v U2 x2), (13, .v .bool x3)] K = (g100_3 x0 x1 x2 x3 (fun y0 => K .normal [(4, .v .str y0)])) := by
  kernel_rfl
theorem kp100_0 (x0) : keep [0, 1, 4] [(4, .v .str x0)] = [(0, .dead), (1, .dead), (4, .v .str x0)] := by kernel_rfl
def g100_4 {R : Type} (x0 : V6) (x1 : V1) (x2 : Int) (x3 : Bool) (k0 : V6 → V1 → Bool → Option R) : Option R :=
k0 x0 x1 (x2 == (1 : Int))
theorem t100_4 {N cl} {R} (K : KE R) (x0 x1 x2 x3) : exec cl N c100_4 [(0, .v U0 x0), (1, .v .str x1), (12, .v U2 x2), (13, .v .bool x3)] K = (g100_4 x0 x1 x2 x3 (fun y0 y1 y2 => K .normal [(0, .v U0 y0), (1, .v .str y1), (15, .v .bool y2)])) := by
  kernel_rfl
def g100_5 {R : Type} (x0 : V6) (x1 : V1) (x2 : Bool) (k0 : V1 → Option R) : Option R :=
if 0 ≤ (0 : Int) ∧ (0 : Int) < (x0.length : Int) then
k0 (x0.getD (0 : Int).toNat [])
else none
theorem t100_5 {N cl} {R} (K : KE R) (x0 x1 x2) : exec cl N c100_5 [(0, .v U0 x0), (1, .v .str x1), (15, .v .bool x2)] K = (g100_5 x0 x1 x2 (fun y0 => K .normal [(4, .v .str y0)])) := by
  kernel_rfl
theorem kp100_1 (x0 x1 x2) : keep [0, 1, 4] [(0, .v U0 x0), (1, .v .str x1), (15, .v .bool x2)] = [(0, .v U0 x0), (1, .v .str x1), (4, .dead)] := by kernel_rfl
theorem hb100_0 (x0 : V6) (x1 : V1) (x2 : Bool) : boolOf? (ent [(0, .v U0 x0), (1, .v .str x1), (15, .v .bool x2)] (.t 15)) = some x2 := by kernel_rfl
theorem kp100_2 (x0) : keep [0, 1, 4] [(0, .dead), (1, .dead), (4, .v .str x0)] = [(0, .dead), (1, .dead), (4, .v .str x0)] := by kernel_rfl
theorem kp100_3 (x0 x1) : keep [0, 1, 4] [(0, .v U0 x0), (1, .v .str x1), (4, .dead)] = [(0, .v U0 x0), (1, .v .str x1), (4, .dead)] := by kernel_rfl
theorem hb100_1 (x0 : V6) (x1 : V1) (x2 : Int) (x3 : Bool) : boolOf? (ent [(0, .v U0 x0), (1, .v .str x1), (12, .v U2 x2), (13, .v .bool x3)] (.t 13)) = some x3 := by kernel_rfl
def g100_9 {R : Type} (x0 : V6) (x1 : V1) (k0 : V6 → V1 → Int → Option R) : Option R :=
k0 x0 x1 (0 : Int)
theorem t100_9 {N cl} {R} (K : KE R) (x0 x1) : exec cl N c100_9 [(0, .v U0 x0), (1, .v .str x1), (4, .dead)] K = (g100_9 x0 x1 (fun y0 y1 y2 => K .normal [(0, .v U0 y0), (1, .v .str y1), (5, .v U2 y2)])) := by
  kernel_rfl
def g100_10 {R : Type} (x0 : V6) (x1 : V1) (x2 : Int) (k0 : V6 → V1 → Int → Bool → Option R) : Option R :=
k0 x0 x1 x2 (decide ((x1.length : Int) > (0 : Int)))
theorem t100_10 {N cl} {R} (K : KE R) (x0 x1 x2) : exec cl N c100_10 [(0, .v U0 x0), (1, .v .str x1), (5, .v U2 x2)] K = (g100_10 x0 x1 x2 (fun y0 y1 y2 y3 => K .normal [(0, .v U0 y0), (1, .v .str y1), (5, .v U2 y2), (22, .v .bool y3)])) := by
  kernel_rfl
def g100_11 {R : Type} (x0 : V6) (x1 : V1) (x2 : Int) (x3 : Bool) (k0 : V6 → V1 → Int → Bool → Option R) : Option R :=
let v183 : Int := (IntKind.i64.wrap ((x0.length : Int) - (1 : Int)))
if v183 = 0 then none else
k0 x0 x1 x2 (decide ((x1.length : Int) ≥ (IntKind.i64.wrap (Int.tdiv (9223372036854775807 : Int) v183))))
theorem t100_11 {N cl} {R} (K : KE R) (x0 x1 x2 x3) : exec cl N c100_11 [(0, .v U0 x0), (1, .v .str x1), (5, .v U2 x2), (22, .v .bool x3)] K = (g100_11 x0 x1 x2 x3 (fun y0 y1 y2 y3 => K .normal [(0, .v U0 y0), (1, .v .str y1), (5, .v U2 y2), (29, .v .bool y3)])) := by
  kernel_rfl
def g100_12 {R : Type} (x0 : V6) (x1 : V1) (x2 : Int) (x3 : Bool) : Option R :=
none /- operation makeInterface -/
theorem t100_12 {N cl} {R} (K : KE R) (x0 x1 x2 x3) : exec cl N c100_12 [(0, .v U0 x0), (1, .v .str x1), (5, .v U2 x2), (29, .v .bool x3)] K = (g100_12 x0 x1 x2 x3) := by
  kernel_rfl
theorem kp100_4 (x0 x1 x2 x3) : keep [0, 1, 5] [(0, .v U0 x0), (1, .v .str x1), (5, .v U2 x2), (29, .v .bool x3)] = [(0, .v U0 x0), (1, .v .str x1), (5, .v U2 x2)] := by kernel_rfl
theorem hb100_2 (x0 : V6) (x1 : V1) (x2 : Int) (x3 : Bool) : boolOf? (ent [(0, .v U0 x0), (1, .v .str x1), (5, .v U2 x2), (29, .v .bool x3)] (.t 29)) = some x3 := by kernel_rfl
def g100_14 {R : Type} (x0 : V6) (x1 : V1) (x2 : Int) (k0 : V6 → V1 → Int → Option R) : Option R :=
k0 x0 x1 (IntKind.i64.wrap (x2 + (IntKind.i64.wrap ((x1.length : Int) * (IntKind.i64.wrap ((x0.length : Int) - (1 : Int)))))))
theorem t100_14 {N cl} {R} (K : KE R) (x0 x1 x2) : exec cl N c100_14 [(0, .v U0 x0), (1, .v .str x1), (5, .v U2 x2)] K = (g100_14 x0 x1 x2 (fun y0 y1 y2 => K .normal [(0, .v U0 y0), (1, .v .str y1), (5, .v U2 y2)])) := by
  kernel_rfl
theorem kp100_5 (x0 x1 x2) : keep [0, 1, 5] [(0, .v U0 x0), (1, .v .str x1), (5, .v U2 x2)] = [(0, .v U0 x0), (1, .v .str x1), (5, .v U2 x2)] := by kernel_rfl
theorem kp100_6 (x0 x1 x2 x3) : keep [0, 1, 5] [(0, .v U0 x0), (1, .v .str x1), (5, .v U2 x2), (22, .v .bool x3)] = [(0, .v U0 x0), (1, .v .str x1), (5, .v U2 x2)] := by kernel_rfl
theorem hb100_3 (x0 : V6) (x1 : V1) (x2 : Int) (x3 : Bool) : boolOf? (ent [(0, .v U0 x0), (1, .v .str x1), (5, .v U2 x2), (22, .v .bool x3)] (.t 22)) = some x3 := by kernel_rfl
def g100_16 {R : Type} (x0 : V6) (x1 : V1) (x2 : Int) (k0 : V6 → V1 → Int → Option R) : Option R :=
(g100_10 x0 x1 x2 (fun y0 y1 y2 y3 => brB y3 (g100_11 y0 y1 y2 y3 (fun y0 y1 y2 y3 => brB y3 (g100_12 y0 y1 y2 y3) ((fun y0 y1 y2 => (g100_14 y0 y1 y2 (fun y0 y1 y2 => (k0 y0 y1 y2)))) y0 y1 y2))) (k0 y0 y1 y2)))
theorem t100_16 {N cl} {R} (K : KE R) (x0 x1 x2) : exec cl N c100_16 [(0, .v U0 x0), (1, .v .str x1), (5, .v U2 x2)] K = (g100_16 x0 x1 x2 (fun y0 y1 y2 => K .normal [(0, .v U0 y0), (1, .v .str y1), (5, .v U2 y2)])) := by
  simp only [c100_16, exec_seq, seqK_normal, seqK_exit, seqK_ret, t100_10, c100_15, exec_out, exec_cond', hb100_3, Option.bind_some, brB_true, brB_false, t100_11, c100_13, hb100_2, t100_12, exec_skip, kp100_4, t100_14, kp100_5, kp100_6]
  rfl
def g100_17 {R : Type} (x0 : V6) (x1 : V1) (x2 : Int) (k0 : V6 → V1 → Int → V6 → Int → Int → Option R) : Option R :=
k0 x0 x1 x2 x0 (x0.length : Int) (0 : Int)
theorem t100_17 {N cl} {R} (K : KE R) (x0 x1 x2) : exec cl N c100_17 [(0, .v U0 x0), (1, .v .str x1), (5, .v U2 x2)] K = (g100_17 x0 x1 x2 (fun y0 y1 y2 y3 y4 y5 => K .normal [(0, .v U0 y0), (1, .v .str y1), (5, .v U2 y2), (39, .v U0 y3), (40, .v U2 y4), (41, .v U2 y5)])) := by
  kernel_rfl
theorem kp100_7 (x0 x1 x2 x3 x4 x5) : keep [0, 1, 5, 39, 40, 41] [(0, .v U0 x0), (1, .v .str x1), (5, .v U2 x2), (39, .v U0 x3), (40, .v U2 x4), (41, .v U2 x5)] = [(0, .v U0 x0), (1, .v .str x1), (5, .v U2 x2), (39, .v U0 x3), (40, .v U2 x4), (41, .v U2 x5)] := by kernel_rfl
def g100_18 {R : Type} (x0 : V6) (x1 : V1) (x2 : Int) (x3 : V6) (x4 : Int) (x5 : Int) (k0 : V6 → V1 → Int → V6 → Int → Int → Bool → Option R) : Option R :=
k0 x0 x1 x2 x3 x4 x5 (decide (x5 < x4))
theorem t100_18 {N cl} {R} (K : KE R) (x0 x1 x2 x3 x4 x5) : exec cl N c100_18 [(0, .v U0 x0), (1, .v .str x1), (5, .v U2 x2), (39, .v U0 x3), (40, .v U2 x4), (41, .v U2 x5)] K = (g100_18 x0 x1 x2 x3 x4 x5 (fun y0 y1 y2 y3 y4 y5 y6 => K .normal [(0, .v U0 y0), (1, .v .str y1), (5, .v U2 y2), (39, .v U0 y3), (40, .v U2 y4), (41, .v U2 y5), (42, .v .bool y6)])) := by
  kernel_rfl
theorem kp100_8 (x0 x1 x2 x3 x4 x5 x6) : keep [0, 1, 5, 39, 40, 41] [(0, .v U0 x0), (1, .v .str x1), (5, .v U2 x2), (39, .v U0 x3), (40, .v U2 x4), (41, .v U2 x5), (42, .v .bool x6)] = [(0, .v U0 x0), (1, .v .str x1), (5, .v U2 x2), (39, .v U0 x3), (40, .v U2 x4), (41, .v U2 x5)] := by kernel_rfl
theorem hb100_4 (x0 : V6) (x1 : V1) (x2 : Int) (x3 : V6) (x4 : Int) (x5 : Int) (x6 : Bool) : boolOf? (ent [(0, .v U0 x0), (1, .v .str x1), (5, .v U2 x2), (39, .v U0 x3), (40, .v U2 x4), (41, .v U2 x5), (42, .v .bool x6)] (.t 42)) = some x6 := by kernel_rfl
def g100_20 {R : Type} (x0 : V6) (x1 : V1) (x2 : Int) (x3 : V6) (x4 : Int) (x5 : Int) (k0 : V6 → V1 → Int → V1 → V6 → Int → Int → Option R) : Option R :=
if 0 ≤ x5 ∧ x5 < (x3.length : Int) then
k0 x0 x1 x2 (x3.getD x5.toNat []) x3 x4 x5
else none
theorem t100_20 {N cl} {R} (K : KE R) (x0 x1 x2 x3 x4 x5) : exec cl N c100_20 [(0, .v U0 x0), (1, .v .str x1), (5, .v U2 x2), (39, .v U0 x3), (40, .v U2 x4), (41, .v U2 x5)] K = (g100_20 x0 x1 x2 x3 x4 x5 (fun y0 y1 y2 y3 y4 y5 y6 => K .normal [(0, .v U0 y0), (1, .v .str y1), (5, .v U2 y2), (7, .v .str y3), (39, .v U0 y4), (40, .v U2 y5), (41, .v U2 y6)])) := by
  kernel_rfl
def g100_21 {R : Type} (x0 : V6) (x1 : V1) (x2 : Int) (x3 : V1) (x4 : V6) (x5 : Int) (x6 : Int) (k0 : V6 → V1 → Int → V1 → V6 → Int → Int → Bool → Option R) : Option R :=
k0 x0 x1 x2 x3 x4 x5 x6 (decide ((x3.length : Int) > (IntKind.i64.wrap ((9223372036854775807 : Int) - x2))))
theorem t100_21 {N cl} {R} (K : KE R) (x0 x1 x2 x3 x4 x5 x6) : exec cl N c100_21 [(0, .v U0 x0), (1, .v .str x1), (5, .v U2 x2), (7, .v .str x3), (39, .v U0 x4), (40, .v U2 x5), (41, .v U2 x6)] K = (g100_21 x0 x1 x2 x3 x4 x5 x6 (fun y0 y1 y2 y3 y4 y5 y6 y7 => K .normal [(0, .v U0 y0), (1, .v .str y1), (5, .v U2 y2), (7, .v .str y3), (39, .v U0 y4), (40, .v U2 y5), (41, .v U2 y6), (49, .v .bool y7)])) := by
  kernel_rfl
def g100_22 {R : Type} (x0 : V6) (x1 : V1) (x2 : Int) (x3 : V1) (x4 : V6) (x5 : Int) (x6 : Int) (x7 : Bool) : Option R :=
none /- operation makeInterface -/
theorem t100_22 {N cl} {R} (K : KE R) (x0 x1 x2 x3 x4 x5 x6 x7) : exec cl N c100_22 [(0, .v U0 x0), (1, .v .str x1), (5, .v U2 x2), (7, .v .str x3), (39, .v U0 x4), (40, .v U2 x5), (41, .v U2 x6), (49, .v .bool x7)] K = (g100_22 x0 x1 x2 x3 x4 x5 x6 x7) := by
  kernel_rfl
theorem kp100_9 (x0 x1 x2 x3 x4 x5 x6 x7) : keep [0, 1, 5, 7, 39, 40, 41] [(0, .v U0 x0), (1, .v .str x1), (5, .v U2 x2), (7, .v .str x3), (39, .v U0 x4), (40, .v U2 x5), (41, .v U2 x6), (49, .v .bool x7)] = [(0, .v U0 x0), (1, .v .str x1), (5, .v U2 x2), (7, .v .str x3), (39, .v U0 x4), (40, .v U2 x5), (41, .v U2 x6)] := by kernel_rfl
theorem hb100_5 (x0 : V6) (x1 : V1) (x2 : Int) (x3 : V1) (x4 : V6) (x5 : Int) (x6 : Int) (x7 : Bool) : boolOf? (ent [(0, .v U0 x0), (1, .v .str x1), (5, .v U2 x2), (7, .v .str x3), (39, .v U0 x4), (40, .v U2 x5), (41, .v U2 x6), (49, .v .bool x7)] (.t 49)) = some x7 := by kernel_rfl
def g100_24 {R : Type} (x0 : V6) (x1 : V1) (x2 : Int) (x3 : V1) (x4 : V6) (x5 : Int) (x6 : Int) (k0 : V6 → V1 → Int → V6 → Int → Int → Option R) : Option R :=
k0 x0 x1 (IntKind.i64.wrap (x2 + (x3.length : Int))) x4 x5 x6
theorem t100_24 {N cl} {R} (K : KE R) (x0 x1 x2 x3 x4 x5 x6) : exec cl N c100_24 [(0, .v U0 x0), (1, .v .str x1), (5, .v U2 x2), (7, .v .str x3), (39, .v U0 x4), (40, .v U2 x5), (41, .v U2 x6)] K = (g100_24 x0 x1 x2 x3 x4 x5 x6 (fun y0 y1 y2 y3 y4 y5 => K .normal [(0, .v U0 y0), (1, .v .str y1), (5, .v U2 y2), (39, .v U0 y3), (40, .v U2 y4), (41, .v U2 y5)])) := by
  kernel_rfl
def g100_26 {R : Type} (x0 : V6) (x1 : V1) (x2 : Int) (x3 : V6) (x4 : Int) (x5 : Int) (k0 : V6 → V1 → Int → V6 → Int → Int → Option R) : Option R :=
k0 x0 x1 x2 x3 x4 (IntKind.i64.wrap (x5 + (1 : Int)))
theorem t100_26 {N cl} {R} (K : KE R) (x0 x1 x2 x3 x4 x5) : exec cl N c100_26 [(0, .v U0 x0), (1, .v .str x1), (5, .v U2 x2), (39, .v U0 x3), (40, .v U2 x4), (41, .v U2 x5)] K = (g100_26 x0 x1 x2 x3 x4 x5 (fun y0 y1 y2 y3 y4 y5 => K .normal [(0, .v U0 y0), (1, .v .str y1), (5, .v U2 y2), (39, .v U0 y3), (40, .v U2 y4), (41, .v U2 y5)])) := by
  kernel_rfl
def g100_27 {R : Type} (x0 : V6) (x1 : V1) (x2 : Int) (x3 : V6) (x4 : Int) (x5 : Int) (k0 : V6 → V1 → Int → V6 → Int → Int → Option R) (k1 : V6 → V1 → Int → V6 → Int → Int → Option R) : Option R :=
(g100_18 x0 x1 x2 x3 x4 x5 (fun y0 y1 y2 y3 y4 y5 y6 => brB y6 ((fun y0 y1 y2 y3 y4 y5 => (g100_20 y0 y1 y2 y3 y4 y5 (fun y0 y1 y2 y3 y4 y5 y6 => (g100_21 y0 y1 y2 y3 y4 y5 y6 (fun y0 y1 y2 y3 y4 y5 y6 y7 => brB y7 (g100_22 y0 y1 y2 y3 y4 y5 y6 y7) ((fun y0 y1 y2 y3 y4 y5 y6 => (g100_24 y0 y1 y2 y3 y4 y5 y6 (fun y0 y1 y2 y3 y4 y5 => (g100_26 y0 y1 y2 y3 y4 y5 k0)))) y0 y1 y2 y3 y4 y5 y6)))))) y0 y1 y2 y3 y4 y5) (k1 y0 y1 y2 y3 y4 y5)))
theorem t100_27 {N cl} {R} (K : KE R) (x0 x1 x2 x3 x4 x5) : exec cl N c100_27 [(0, .v U0 x0), (1, .v .str x1), (5, .v U2 x2), (39, .v U0 x3), (40, .v U2 x4), (41, .v U2 x5)] K = (g100_27 x0 x1 x2 x3 x4 x5 (fun y0 y1 y2 y3 y4 y5 => K .normal [(0, .v U0 y0), (1, .v .str y1), (5, .v U2 y2), (39, .v U0 y3), (40, .v U2 y4), (41, .v U2 y5)]) (fun y0 y1 y2 y3 y4 y5 => K (.exit 1) [(0, .v U0 y0), (1, .v .str y1), (5, .v U2 y2), (39, .v U0 y3), (40, .v U2 y4), (41, .v U2 y5)])) := by
  simp only [c100_27, exec_seq, seqK_normal, seqK_exit, seqK_ret, t100_18, c100_19, exec_out, exec_cond', hb100_4, Option.bind_some, brB_true, brB_false, exec_skip, exec_exit, kp100_8, c100_25, exec_block, t100_20, t100_21, c100_23, hb100_5, t100_22, kp100_9, t100_24, blockK_normal, blockK_ret, blockK_eq, kp100_7, t100_26]
  rfl
def l100_28 {R : Type} (k0 : V6 → V1 → Int → V6 → Int → Int → Option R) : Nat → V6 → V1 → Int → V6 → Int → Int → Option R
  | 0, _, _, _, _, _, _ => none
  | m + 1, x0, x1, x2, x3, x4, x5 => (g100_27 x0 x1 x2 x3 x4 x5 (fun y0 y1 y2 y3 y4 y5 => l100_28 k0 m y0 y1 y2 y3 y4 y5) k0)
theorem lt100_28 {N cl} {R} (K : KE R) : ∀ (m) (x0 x1 x2 x3 x4 x5), iter [0, 1, 5, 39, 40, 41] (fun env K => exec cl N c100_27 env K) K m [(0, .v U0 x0), (1, .v .str x1), (5, .v U2 x2), (39, .v U0 x3), (40, .v U2 x4), (41, .v U2 x5)] = l100_28 (fun y0 y1 y2 y3 y4 y5 => K (.exit 1) [(0, .v U0 y0), (1, .v .str y1), (5, .v U2 y2), (39, .v U0 y3), (40, .v U2 y4), (41, .v U2 y5)]) m x0 x1 x2 x3 x4 x5 := by
  intro m
  induction m with
  | zero => intros; rfl
  | succ m ih =>
    intro x0 x1 x2 x3 x4 x5
    simp only [iter_succ, t100_27, loopK_normal, loopK_exit, loopK_ret, kp100_7, ih]
    rfl
theorem kp100_10 (x0 x1 x2 x3 x4 x5) : keep [0, 1, 5] [(0, .v U0 x0), (1, .v .str x1), (5, .v U2 x2), (39, .v U0 x3), (40, .v U2 x4), (41, .v U2 x5)] = [(0, .v U0 x0), (1, .v .str x1), (5, .v U2 x2)] := by kernel_rfl
def g100_28 {R : Type} (N : Nat) (x0 : V6) (x1 : V1) (x2 : Int) (x3 : V6) (x4 : Int) (x5 : Int) (k0 : V6 → V1 → Int → Option R) : Option R :=
l100_28 (fun y0 y1 y2 y3 y4 y5 => k0 y0 y1 y2) N x0 x1 x2 x3 x4 x5
theorem t100_28 {N cl} {R} (K : KE R) (x0 x1 x2 x3 x4 x5) : exec cl N c100_28 [(0, .v U0 x0), (1, .v .str x1), (5, .v U2 x2), (39, .v U0 x3), (40, .v U2 x4), (41, .v U2 x5)] K = (g100_28 N x0 x1 x2 x3 x4 x5 (fun y0 y1 y2 => K (.exit 1) [(0, .v U0 y0), (1, .v .str y1), (5, .v U2 y2)])) := by
  simp only [c100_28, exec_out, exec_loop, kp100_7, lt100_28, kp100_10]
  rfl
def g100_30 {R : Type} (x0 : V6) (x1 : V1) (x2 : Int) : Option R :=
none /- type ptr -/
theorem t100_30 {N cl} {R} (K : KE R) (x0 x1 x2) : exec cl N c100_30 [(0, .v U0 x0), (1, .v .str x1), (5, .v U2 x2)] K = (g100_30 x0 x1 x2) := by
  kernel_rfl
def g100_45 {R : Type} (N : Nat) (x0 : V6) (x1 : V1) (k0 : V1 → Option R) : Option R :=
(g100_0 x0 x1 (fun y0 y1 => (g100_1 y0 y1 (fun y0 y1 y2 => (g100_2 y0 y1 y2 (fun y0 y1 y2 y3 => brB y3 (g100_3 y0 y1 y2 y3 (fun y0 => ((fun y0 => (k0 y0)) y0))) (g100_4 y0 y1 y2 y3 (fun y0 y1 y2 => brB y2 (g100_5 y0 y1 y2 (fun y0 => ((fun y0 => (k0 y0)) y0))) ((fun y0 y1 => ((fun y0 y1 => ((fun y0 y1 => (g100_9 y0 y1 (fun y0 y1 y2 => (g100_16 y0 y1 y2 (fun y0 y1 y2 => (g100_17 y0 y1 y2 (fun y0 y1 y2 y3 y4 y5 => (g100_28 N y0 y1 y2 y3 y4 y5 (fun y0 y1 y2 => (g100_30 y0 y1 y2)))))))))) y0 y1)) y0 y1)) y0 y1)))))))))
theorem t100_45 {N cl} {R} (K : KE R) (x0 x1) : exec cl N c100_45 [(0, .v U0 x0), (1, .v .str x1)] K = (g100_45 N x0 x1 (fun y0 => K .ret [(0, .dead), (1, .dead), (4, .v .str y0)])) := by
  simp only [c100_45, exec_seq, seqK_normal, seqK_exit, seqK_ret, t100_0, t100_1, c100_8, exec_out, exec_block, t100_2, c100_7, exec_cond', hb100_1, Option.bind_some, brB_true, brB_false, t100_3, exec_ret, t100_4, c100_6, hb100_0, t100_5, exec_skip, kp100_0, kp100_1, kp100_2, kp100_3, blockK_normal, blockK_ret, blockK_eq, t100_9, t100_16, t100_17, c100_29, t100_28, kp100_5, t100_30]
  rfl
theorem rk100_0 (y0 : V1) : retK d100 .ret [(0, .dead), (1, .dead), (4, .v .str y0)] = some [.v .str y0] := by kernel_rfl
def g100 {R : Type} (N : Nat) (x0 : V6) (x1 : V1) (k : V1 → Option R) : Option R :=
(g100_45 N x0 x1 (fun y0 => k y0))
theorem gen100 {N : Nat} {cl : Cal} (x0 : V6) (x1 : V1) {R : Type} (k : List E → Option R) : exec cl N c100 (params 0 [.v U0 x0, .v .str x1]) (fun e env => (retK d100 e env).bind k) = g100 N x0 x1 (fun (r0 : V1) => k [.v .str r0]) := by
  have e0 : params 0 [.v U0 x0, .v .str x1] = [(0, .v U0 x0), (1, .v .str x1)] := by kernel_rfl
  simp only [c100, e0, t100_45, rk100_0, Option.bind_some]
  rfl
def ctr100 (S : V6 → V1 → Option V5) : Ctr := { A := V6 × V1 × Unit, B := V1, f := 100, enc := fun a => [.v U0 a.1, .v .str a.2.1], dec := (decC (decV U0) (decC (decV .str) dec0)), S := fun a => S a.1 a.2.1, ent := fun b => [.v .str b], ok := (decV_cons (T := U0) (decV_cons (T := .str) (fun es b h => dec0_some h))) }
def S100 (N : Nat) (x0 : V6) (x1 : V1) : Option V5 := g100 N x0 x1 (fun (r0 : V1) => some (r0))
def g88_0 {R : Type} (x0 : V6) (k0 : V6 → Option R) : Option R :=
k0 x0
theorem t88_0 {N cl} {R} (K : KE R) (x0) : exec cl N c88_0 [(0, .v U0 x0)] K = (g88_0 x0 (fun y0 => K .normal [(0, .v U0 y0)])) := by
  kernel_rfl
def g88_1 {R : Type} (x0 : V6) (k0 : V6 → V6 → Int → Int → Option R) : Option R :=
k0 x0 x0 (x0.length : Int) (0 : Int)
theorem t88_1 {N cl} {R} (K : KE R) (x0) : exec cl N c88_1 [(0, .v U0 x0)] K = (g88_1 x0 (fun y0 y1 y2 y3 => K .normal [(0, .v U0 y0), (7, .v U0 y1), (8, .v U2 y2), (9, .v U2 y3)])) := by
  kernel_rfl
theorem kp88_0 (x0 x1 x2 x3) : keep [0, 7, 8, 9] [(0, .v U0 x0), (7, .v U0 x1), (8, .v U2 x2), (9, .v U2 x3)] = [(0, .v U0 x0), (7, .v U0 x1), (8, .v U2 x2), (9, .v U2 x3)] := by kernel_rfl
def g88_2 {R : Type} (x0 : V6) (x1 : V6) (x2 : Int) (x3 : Int) (k0 : V6 → V6 → Int → Int → Bool → Option R) : Option R :=
k0 x0 x1 x2 x3 (decide (x3 < x2))
theorem t88_2 {N cl} {R} (K : KE R) (x0 x1 x2 x3) : exec cl N c88_2 [(0, .v U0 x0), (7, .v U0 x1), (8, .v U2 x2), (9, .v U2 x3)] K = (g88_2 x0 x1 x2 x3 (fun y0 y1 y2 y3 y4 => K .normal [(0, .v U0 y0), (7, .v U0 y1), (8, .v U2 y2), (9, .v U2 y3), (10, .v .bool y4)])) := by
  kernel_rfl
theorem kp88_1 (x0 x1 x2 x3 x4) : keep [0, 7, 8, 9] [(0, .v U0 x0), (7, .v U0 x1), (8, .v U2 x2), (9, .v U2 x3), (10, .v .bool x4)] = [(0, .v U0 x0), (7, .v U0 x1), (8, .v U2 x2), (9, .v U2 x3)] := by kernel_rfl
theorem hb88_0 (x0 : V6) (x1 : V6) (x2 : Int) (x3 : Int) (x4 : Bool) : boolOf? (ent [(0, .v U0 x0), (7, .v U0 x1), (8, .v U2 x2), (9, .v U2 x3), (10, .v .bool x4)] (.t 10)) = some x4 := by kernel_rfl
def g88_4 {R : Type} (x0 : V6) (x1 : V6) (x2 : Int) (x3 : Int) (k0 : V6 → V1 → V6 → Int → Int → Option R) : Option R :=
if 0 ≤ x3 ∧ x3 < (x1.length : Int) then
k0 x0 (x1.getD x3.toNat []) x1 x2 x3
else none
theorem t88_4 {N cl} {R} (K : KE R) (x0 x1 x2 x3) : exec cl N c88_4 [(0, .v U0 x0), (7, .v U0 x1), (8, .v U2 x2), (9, .v U2 x3)] K = (g88_4 x0 x1 x2 x3 (fun y0 y1 y2 y3 y4 => K .normal [(0, .v U0 y0), (5, .v .str y1), (7, .v U0 y2), (8, .v U2 y3), (9, .v U2 y4)])) := by
  kernel_rfl
def g88_5 {R : Type} (x0 : V6) (x1 : V1) (x2 : V6) (x3 : Int) (x4 : Int) (k0 : V6 → V1 → V6 → Int → Int → Bool → Option R) : Option R :=
k0 x0 x1 x2 x3 x4 (x1 == ([] : List UInt8))
theorem t88_5 {N cl} {R} (K : KE R) (x0 x1 x2 x3 x4) : exec cl N c88_5 [(0, .v U0 x0), (5, .v .str x1), (7, .v U0 x2), (8, .v U2 x3), (9, .v U2 x4)] K = (g88_5 x0 x1 x2 x3 x4 (fun y0 y1 y2 y3 y4 y5 => K .normal [(0, .v U0 y0), (5, .v .str y1), (7, .v U0 y2), (8, .v U2 y3), (9, .v U2 y4), (14, .v .bool y5)])) := by
  kernel_rfl
def g88_6 {R : Type} (x0 : V6) (x1 : V1) (x2 : V6) (x3 : Int) (x4 : Int) (x5 : Bool) (k0 : V1 → Int → Option R) : Option R :=
k0 ([] : List UInt8) (7 : Int)
theorem t88_6 {N cl} {R} (K : KE R) (x0 x1 x2 x3 x4 x5) : exec cl N c88_6 [(0, .v U0 x0), (5, .v .str x1), (7, .v U0 x2), (8, .v U2 x3), (9, .v U2 x4), (14, .v .bool x5)] K = (g88_6 x0 x1 x2 x3 x4 x5 (fun y0 y1 => K .normal [(2, .v .str y0), (3, .v U2 y1)])) := by
  kernel_rfl
theorem kp88_2 (x0 x1) : keep [0, 2, 3, 5, 7, 8, 9] [(2, .v .str x0), (3, .v U2 x1)] = [(0, .dead), (2, .v .str x0), (3, .v U2 x1), (5, .dead), (7, .dead), (8, .dead), (9, .dead)] := by kernel_rfl
theorem kp88_3 (x0 x1 x2 x3 x4 x5) : keep [0, 2, 3, 5, 7, 8, 9] [(0, .v U0 x0), (5, .v .str x1), (7, .v U0 x2), (8, .v U2 x3), (9, .v U2 x4), (14, .v .bool x5)] = [(0, .v U0 x0), (2, .dead), (3, .dead), (5, .v .str x1), (7, .v U0 x2), (8, .v U2 x3), (9, .v U2 x4)] := by kernel_rfl
theorem hb88_1 (x0 : V6) (x1 : V1) (x2 : V6) (x3 : Int) (x4 : Int) (x5 : Bool) : boolOf? (ent [(0, .v U0 x0), (5, .v .str x1), (7, .v U0 x2), (8, .v U2 x3), (9, .v U2 x4), (14, .v .bool x5)] (.t 14)) = some x5 := by kernel_rfl
def g88_8 {R : Type} (S97 : V0 → V12 → Option (Bool)) (S98 : Int → Option (Bool)) (x0 : V6) (x1 : V1) (x2 : V6) (x3 : Int) (x4 : Int) (k0 : V6 → V6 → Int → Int → Bool → Option R) : Option R :=
(S97 (x1.map fun b => (b.toNat : Int)) (fun (x198 : V2) => ((S98 x198.1).bind fun b199 => some [.v .bool b199]).bind (unE .bool))).bind fun r200 =>
k0 x0 x2 x3 x4 r200
theorem t88_8 {N cl} (S97) (S98) (h97 : (ctr97 S97).holds cl) (h98 : (ctr98 S98).holds cl) {R} (K : KE R) (x0 x1 x2 x3 x4) : exec cl N c88_8 [(0, .v U0 x0), (2, .dead), (3, .dead), (5, .v .str x1), (7, .v U0 x2), (8, .v U2 x3), (9, .v U2 x4)] K = (g88_8 S97 S98 x0 x1 x2 x3 x4 (fun y0 y1 y2 y3 y4 => K .normal [(0, .v U0 y0), (7, .v U0 y1), (8, .v U2 y2), (9, .v U2 y3), (17, .v .bool y4)])) := by
  rw [← put_eq h97]
  rw [← put_eq h98]
  kernel_rfl
def g88_9 {R : Type} (x0 : V6) (x1 : V6) (x2 : Int) (x3 : Int) (x4 : Bool) (k0 : V1 → Int → Option R) : Option R :=
k0 ([] : List UInt8) (2 : Int)
theorem t88_9 {N cl} {R} (K : KE R) (x0 x1 x2 x3 x4) : exec cl N c88_9 [(0, .v U0 x0), (7, .v U0 x1), (8, .v U2 x2), (9, .v U2 x3), (17, .v .bool x4)] K = (g88_9 x0 x1 x2 x3 x4 (fun y0 y1 => K .normal [(2, .v .str y0), (3, .v U2 y1)])) := by
  kernel_rfl
theorem kp88_4 (x0 x1) : keep [0, 2, 3, 7, 8, 9] [(2, .v .str x0), (3, .v U2 x1)] = [(0, .dead), (2, .v .str x0), (3, .v U2 x1), (7, .dead), (8, .dead), (9, .dead)] := by kernel_rfl
theorem kp88_5 (x0 x1 x2 x3 x4) : keep [0, 2, 3, 7, 8, 9] [(0, .v U0 x0), (7, .v U0 x1), (8, .v U2 x2), (9, .v U2 x3), (17, .v .bool x4)] = [(0, .v U0 x0), (2, .dead), (3, .dead), (7, .v U0 x1), (8, .v U2 x2), (9, .v U2 x3)] := by kernel_rfl
theorem hb88_2 (x0 : V6) (x1 : V6) (x2 : Int) (x3 : Int) (x4 : Bool) : boolOf? (ent [(0, .v U0 x0), (7, .v U0 x1), (8, .v U2 x2), (9, .v U2 x3), (17, .v .bool x4)] (.t 17)) = some x4 := by kernel_rfl
theorem kp88_6 (x0 x1) : keep [0, 2, 3, 7, 8, 9] [(0, .dead), (2, .v .str x0), (3, .v U2 x1), (5, .dead), (7, .dead), (8, .dead), (9, .dead)] = [(0, .dead), (2, .v .str x0), (3, .v U2 x1), (7, .dead), (8, .dead), (9, .dead)] := by kernel_rfl
theorem kp88_7 (x0 x1) : keep [0, 2, 3, 7, 8, 9] [(0, .dead), (2, .v .str x0), (3, .v U2 x1), (7, .dead), (8, .dead), (9, .dead)] = [(0, .dead), (2, .v .str x0), (3, .v U2 x1), (7, .dead), (8, .dead), (9, .dead)] := by kernel_rfl
theorem kp88_8 (x0 x1 x2 x3) : keep [0, 2, 3, 7, 8, 9] [(0, .v U0 x0), (2, .dead), (3, .dead), (7, .v U0 x1), (8, .v U2 x2), (9, .v U2 x3)] = [(0, .v U0 x0), (2, .dead), (3, .dead), (7, .v U0 x1), (8, .v U2 x2), (9, .v U2 x3)] := by kernel_rfl
def g88_12 {R : Type} (x0 : V6) (x1 : V6) (x2 : Int) (x3 : Int) (k0 : V6 → V6 → Int → Int → Option R) : Option R :=
k0 x0 x1 x2 (IntKind.i64.wrap (x3 + (1 : Int)))
theorem t88_12 {N cl} {R} (K : KE R) (x0 x1 x2 x3) : exec cl N c88_12 [(0, .v U0 x0), (2, .dead), (3, .dead), (7, .v U0 x1), (8, .v U2 x2), (9, .v U2 x3)] K = (g88_12 x0 x1 x2 x3 (fun y0 y1 y2 y3 => K .normal [(0, .v U0 y0), (7, .v U0 y1), (8, .v U2 y2), (9, .v U2 y3)])) := by
  kernel_rfl
def g88_13 {R : Type} (S97 : V0 → V12 → Option (Bool)) (S98 : Int → Option (Bool)) (x0 : V6) (x1 : V6) (x2 : Int) (x3 : Int) (k0 : V1 → Int → Option R) (k1 : V6 → V6 → Int → Int → Option R) (k2 : V6 → V6 → Int → Int → Option R) : Option R :=
(g88_2 x0 x1 x2 x3 (fun y0 y1 y2 y3 y4 => brB y4 ((fun y0 y1 y2 y3 => (g88_4 y0 y1 y2 y3 (fun y0 y1 y2 y3 y4 => (g88_5 y0 y1 y2 y3 y4 (fun y0 y1 y2 y3 y4 y5 => brB y5 (g88_6 y0 y1 y2 y3 y4 y5 (fun y0 y1 => ((fun y0 y1 => (k0 y0 y1)) y0 y1))) ((fun y0 y1 y2 y3 y4 => (g88_8 S97 S98 y0 y1 y2 y3 y4 (fun y0 y1 y2 y3 y4 => brB y4 (g88_9 y0 y1 y2 y3 y4 (fun y0 y1 => ((fun y0 y1 => (k0 y0 y1)) y0 y1))) (g88_12 y0 y1 y2 y3 k1)))) y0 y1 y2 y3 y4)))))) y0 y1 y2 y3) (k2 y0 y1 y2 y3)))
theorem t88_13 {N cl} (S97) (S98) (h97 : (ctr97 S97).holds cl) (h98 : (ctr98 S98).holds cl) {R} (K : KE R) (x0 x1 x2 x3) : exec cl N c88_13 [(0, .v U0 x0), (7, .v U0 x1), (8, .v U2 x2), (9, .v U2 x3)] K = (g88_13 S97 S98 x0 x1 x2 x3 (fun y0 y1 => K .ret [(0, .dead), (2, .v .str y0), (3, .v U2 y1), (7, .dead), (8, .dead), (9, .dead)]) (fun y0 y1 y2 y3 => K .normal [(0, .v U0 y0), (7, .v U0 y1), (8, .v U2 y2), (9, .v U2 y3)]) (fun y0 y1 y2 y3 => K (.exit 0) [(0, .v U0 y0), (7, .v U0 y1), (8, .v U2 y2), (9, .v U2 y3)])) := by
  simp only [c88_13, exec_seq, seqK_normal, seqK_exit, seqK_ret, t88_2, c88_3, exec_out, exec_cond', hb88_0, Option.bind_some, brB_true, brB_false, exec_skip, exec_exit, kp88_1, c88_11, exec_block, t88_4, t88_5, c88_7, hb88_1, t88_6, exec_ret, kp88_2, kp88_3, t88_8 S97 S98 h97 h98, c88_10, hb88_2, t88_9, kp88_4, kp88_5, blockK_normal, blockK_ret, blockK_eq, kp88_6, kp88_7, kp88_8, t88_12]
  rfl
def l88_14 {R : Type} (S97 : V0 → V12 → Option (Bool)) (S98 : Int → Option (Bool)) (k0 : V1 → Int → Option R) (k1 : V6 → V6 → Int → Int → Option R) : Nat → V6 → V6 → Int → Int → Option R
  | 0, _, _, _, _ => none
  | m + 1, x0, x1, x2, x3 => (g88_13 S97 S98 x0 x1 x2 x3 k0 (fun y0 y1 y2 y3 => l88_14 S97 S98 k0 k1 m y0 y1 y2 y3) k1)
theorem lt88_14 {N cl} (S97) (S98) (h97 : (ctr97 S97).holds cl) (h98 : (ctr98 S98).holds cl) {R} (K : KE R) : ∀ (m) (x0 x1 x2 x3), iter [0, 7, 8, 9] (fun env K => exec cl N c88_13 env K) K m [(0, .v U0 x0), (7, .v U0 x1), (8, .v U2 x2), (9, .v U2 x3)] = l88_14 S97 S98 (fun y0 y1 => K .ret [(0, .dead), (2, .v .str y0), (3, .v U2 y1), (7, .dead), (8, .dead), (9, .dead)]) (fun y0 y1 y2 y3 => K (.exit 0) [(0, .v U0 y0), (7, .v U0 y1), (8, .v U2 y2), (9, .v U2 y3)]) m x0 x1 x2 x3 := by
  intro m
  induction m with
  | zero => intros; rfl
  | succ m ih =>
    intro x0 x1 x2 x3
    simp only [iter_succ, t88_13 S97 S98 h97 h98, loopK_normal, loopK_exit, loopK_ret, kp88_0, ih]
    rfl
theorem kp88_9 (x0 x1) : keep [0, 2, 3] [(0, .dead), (2, .v .str x0), (3, .v U2 x1), (7, .dead), (8, .dead), (9, .dead)] = [(0, .dead), (2, .v .str x0), (3, .v U2 x1)] := by kernel_rfl
theorem kp88_10 (x0 x1 x2 x3) : keep [0, 2, 3] [(0, .v U0 x0), (7, .v U0 x1), (8, .v U2 x2), (9, .v U2 x3)] = [(0, .v U0 x0), (2, .dead), (3, .dead)] := by kernel_rfl
def g88_14 {R : Type} (N : Nat) (S97 : V0 → V12 → Option (Bool)) (S98 : Int → Option (Bool)) (x0 : V6) (x1 : V6) (x2 : Int) (x3 : Int) (k0 : V1 → Int → Option R) (k1 : V6 → Option R) : Option R :=
l88_14 S97 S98 (fun y0 y1 => k0 y0 y1) (fun y0 y1 y2 y3 => k1 y0) N x0 x1 x2 x3
theorem t88_14 {N cl} (S97) (S98) (h97 : (ctr97 S97).holds cl) (h98 : (ctr98 S98).holds cl) {R} (K : KE R) (x0 x1 x2 x3) : exec cl N c88_14 [(0, .v U0 x0), (7, .v U0 x1), (8, .v U2 x2), (9, .v U2 x3)] K = (g88_14 N S97 S98 x0 x1 x2 x3 (fun y0 y1 => K .ret [(0, .dead), (2, .v .str y0), (3, .v U2 y1)]) (fun y0 => K (.exit 0) [(0, .v U0 y0), (2, .dead), (3, .dead)])) := by
  simp only [c88_14, exec_out, exec_loop, kp88_0, lt88_14 S97 S98 h97 h98, kp88_10, kp88_9]
  rfl
theorem kp88_11 (x0 x1) : keep [0, 2, 3] [(0, .dead), (2, .v .str x0), (3, .v U2 x1)] = [(0, .dead), (2, .v .str x0), (3, .v U2 x1)] := by kernel_rfl
theorem kp88_12 (x0) : keep [0, 2, 3] [(0, .v U0 x0), (2, .dead), (3, .dead)] = [(0, .v U0 x0), (2, .dead), (3, .dead)] := by kernel_rfl
def g88_16 {R : Type} (S100 : V6 → V1 → Option V5) (x0 : V6) (k0 : V1 → Option R) : Option R :=
(S100 x0 ([32] : List UInt8)).bind fun r202 =>
k0 r202
theorem t88_16 {N cl} (S100) (h100 : (ctr100 S100).holds cl) {R} (K : KE R) (x0) : exec cl N c88_16 [(0, .v U0 x0), (2, .dead), (3, .dead)] K = (g88_16 S100 x0 (fun y0 => K .normal [(6, .v .str y0)])) := by
  rw [← put_eq h100]
  kernel_rfl
def g88_17 {R : Type} (x0 : V1) (k0 : V1 → Bool → Option R) : Option R :=
k0 x0 (decide ((x0.length : Int) > (120 : Int)))
theorem t88_17 {N cl} {R} (K : KE R) (x0) : exec cl N c88_17 [(6, .v .str x0)] K = (g88_17 x0 (fun y0 y1 => K .normal [(6, .v .str y0), (23, .v .bool y1)])) := by
  kernel_rfl
def g88_18 {R : Type} (x0 : V1) (x1 : Bool) (k0 : V1 → Int → Option R) : Option R :=
k0 ([] : List UInt8) (3 : Int)
theorem t88_18 {N cl} {R} (K : KE R) (x0 x1) : exec cl N c88_18 [(6, .v .str x0), (23, .v .bool x1)] K = (g88_18 x0 x1 (fun y0 y1 => K .normal [(2, .v .str y0), (3, .v U2 y1)])) := by
  kernel_rfl
theorem kp88_13 (x0 x1) : keep [2, 3, 6] [(2, .v .str x0), (3, .v U2 x1)] = [(2, .v .str x0), (3, .v U2 x1), (6, .dead)] := by kernel_rfl
theorem kp88_14 (x0 x1) : keep [2, 3, 6] [(6, .v .str x0), (23, .v .bool x1)] = [(2, .dead), (3, .dead), (6, .v .str x0)] := by kernel_rfl
theorem hb88_3 (x0 : V1) (x1 : Bool) : boolOf? (ent [(6, .v .str x0), (23, .v .bool x1)] (.t 23)) = some x1 := by kernel_rfl
def g88_20 {R : Type} (x0 : V1) (k0 : V1 → Int → Option R) : Option R :=
k0 x0 (0 : Int)
theorem t88_20 {N cl} {R} (K : KE R) (x0) : exec cl N c88_20 [(2, .dead), (3, .dead), (6, .v .str x0)] K = (g88_20 x0 (fun y0 y1 => K .normal [(2, .v .str y0), (3, .v U2 y1)])) := by
  kernel_rfl
def g88_21 {R : Type} (N : Nat) (S97 : V0 → V12 → Option (Bool)) (S98 : Int → Option (Bool)) (S100 : V6 → V1 → Option V5) (x0 : V6) (k0 : V1 → Int → Option R) (k1 : V1 → Int → Option R) (k2 : V1 → Int → Option R) : Option R :=
(g88_0 x0 (fun y0 => (g88_1 y0 (fun y0 y1 y2 y3 => (g88_14 N S97 S98 y0 y1 y2 y3 (fun y0 y1 => (k0 y0 y1)) (fun y0 => ((fun y0 => (g88_16 S100 y0 (fun y0 => (g88_17 y0 (fun y0 y1 => brB y1 (g88_18 y0 y1 (fun y0 y1 => ((fun y0 y1 => (k1 y0 y1)) y0 y1))) ((fun y0 => (g88_20 y0 (fun y0 y1 => (k2 y0 y1)))) y0)))))) y0)))))))
theorem t88_21 {N cl} (S97) (S98) (S100) (h97 : (ctr97 S97).holds cl) (h98 : (ctr98 S98).holds cl) (h100 : (ctr100 S100).holds cl) {R} (K : KE R) (x0) : exec cl N c88_21 [(0, .v U0 x0)] K = (g88_21 N S97 S98 S100 x0 (fun y0 y1 => K .ret [(0, .dead), (2, .v .str y0), (3, .v U2 y1)]) (fun y0 y1 => K .ret [(2, .v .str y0), (3, .v U2 y1), (6, .dead)]) (fun y0 y1 => K .ret [(2, .v .str y0), (3, .v U2 y1)])) := by
  simp only [c88_21, exec_seq, seqK_normal, seqK_exit, seqK_ret, t88_0, t88_1, c88_15, exec_out, exec_block, t88_14 S97 S98 h97 h98, blockK_normal, blockK_ret, blockK_eq, kp88_11, kp88_12, t88_16 S100 h100, t88_17, c88_19, exec_cond', hb88_3, Option.bind_some, brB_true, brB_false, t88_18, exec_ret, exec_skip, kp88_13, kp88_14, t88_20]
  rfl
theorem rk88_0 (y0 : V1) (y1 : Int) : retK d88 .ret [(0, .dead), (2, .v .str y0), (3, .v U2 y1)] = some [.v .str y0, .v U2 y1] := by kernel_rfl
theorem rk88_1 (y0 : V1) (y1 : Int) : retK d88 .ret [(2, .v .str y0), (3, .v U2 y1), (6, .dead)] = some [.v .str y0, .v U2 y1] := by kernel_rfl
theorem rk88_2 (y0 : V1) (y1 : Int) : retK d88 .ret [(2, .v .str y0), (3, .v U2 y1)] = some [.v .str y0, .v U2 y1] := by kernel_rfl
def g88 {R : Type} (N : Nat) (S97 : V0 → V12 → Option (Bool)) (S98 : Int → Option (Bool)) (S100 : V6 → V1 → Option V5) (x0 : V6) (k : V1 → Int → Option R) : Option R :=
(g88_21 N S97 S98 S100 x0 (fun y0 y1 => k y0 y1) (fun y0 y1 => k y0 y1) (fun y0 y1 => k y0 y1))
theorem gen88 {N : Nat} {cl : Cal} (S97 : V0 → V12 → Option (Bool)) (S98 : Int → Option (Bool)) (S100 : V6 → V1 → Option V5) (h97 : (ctr97 S97).holds cl) (h98 : (ctr98 S98).holds cl) (h100 : (ctr100 S100).holds cl) (x0 : V6) {R : Type} (k : List E → Option R) : exec cl N c88 (params 0 [.v U0 x0]) (fun e env => (retK d88 e env).bind k) = g88 N S97 S98 S100 x0 (fun (r0 : V1) (r1 : Int) => k [.v .str r0, .v U2 r1]) := by
  have e0 : params 0 [.v U0 x0] = [(0, .v U0 x0)] := by kernel_rfl
  simp only [c88, e0, t88_21 S97 S98 S100 h97 h98 h100, rk88_0, rk88_1, rk88_2, Option.bind_some]
  rfl
def ctr88 (S : V6 → Option V8) : Ctr := { A := V6 × Unit, B := V1 × Int, f := 88, enc := fun a => [.v U0 a.1], dec := (decC (decV U0) dec0), S := fun a => S a.1, ent := fun b => [.v .str b.1, .v U2 b.2], ok := (decV_cons (T := U0) (fun es b h => dec0_some h)) }
def S88 (N : Nat) (x0 : V6) : Option V8 := g88 N (S97 N) (S98 N) (S100 N) x0 (fun (r0 : V1) (r1 : Int) => some (r0, r1))
def g56_0 {R : Type} (x0 : V1) (k0 : V1 → Option R) : Option R :=
k0 x0
theorem t56_0 {N cl} {R} (K : KE R) (x0) : exec cl N c56_0 [(0, .v .str x0)] K = (g56_0 x0 (fun y0 => K .normal [(0, .v .str y0)])) := by
  kernel_rfl
def g56_1 {R : Type} (x0 : V1) (k0 : V0 → Option R) : Option R :=
k0 (x0.map fun b => (b.toNat : Int))
theorem t56_1 {N cl} {R} (K : KE R) (x0) : exec cl N c56_1 [(0, .v .str x0)] K = (g56_1 x0 (fun y0 => K .normal [(3, .own true 4294967295 U1 .no y0)])) := by
  kernel_rfl
def g56_2 {R : Type} (x0 : V0) (k0 : V0 → Int → Int → Option R) : Option R :=
k0 x0 (x0.length : Int) (0 : Int)
theorem t56_2 {N cl} {R} (K : KE R) (x0) : exec cl N c56_2 [(3, .own true 4294967295 U1 .no x0)] K = (g56_2 x0 (fun y0 y1 y2 => K .normal [(3, .own true 4294967295 U1 .no y0), (8, .ref 3 []), (9, .v U2 y1), (10, .v U2 y2)])) := by
  kernel_rfl
theorem kp56_0 (x0 x1 x2) : keep [3, 8, 9, 10] [(3, .own true 4294967295 U1 .no x0), (8, .ref 3 []), (9, .v U2 x1), (10, .v U2 x2)] = [(3, .own true 4294967295 U1 .no x0), (8, .ref 3 []), (9, .v U2 x1), (10, .v U2 x2)] := by kernel_rfl
def g56_3 {R : Type} (x0 : V0) (x1 : Int) (x2 : Int) (k0 : V0 → Int → Int → Bool → Option R) : Option R :=
k0 x0 x1 x2 (decide (x2 < x1))
theorem t56_3 {N cl} {R} (K : KE R) (x0 x1 x2) : exec cl N c56_3 [(3, .own true 4294967295 U1 .no x0), (8, .ref 3 []), (9, .v U2 x1), (10, .v U2 x2)] K = (g56_3 x0 x1 x2 (fun y0 y1 y2 y3 => K .normal [(3, .own true 4294967295 U1 .no y0), (8, .ref 3 []), (9, .v U2 y1), (10, .v U2 y2), (11, .v .bool y3)])) := by
  kernel_rfl
theorem kp56_1 (x0 x1 x2 x3) : keep [3, 8, 9, 10] [(3, .own true 4294967295 U1 .no x0), (8, .ref 3 []), (9, .v U2 x1), (10, .v U2 x2), (11, .v .bool x3)] = [(3, .own true 4294967295 U1 .no x0), (8, .ref 3 []), (9, .v U2 x1), (10, .v U2 x2)] := by kernel_rfl
theorem hb56_0 (x0 : V0) (x1 : Int) (x2 : Int) (x3 : Bool) : boolOf? (ent [(3, .own true 4294967295 U1 .no x0), (8, .ref 3 []), (9, .v U2 x1), (10, .v U2 x2), (11, .v .bool x3)] (.t 11)) = some x3 := by kernel_rfl
def g56_5 {R : Type} (x0 : V0) (x1 : Int) (x2 : Int) (k0 : V0 → Int → Int → Int → Int → Option R) : Option R :=
if 0 ≤ x2 ∧ x2 < (x0.length : Int) then
if x2.toNat < x0.length then
k0 x0 x2 (x0.getD x2.toNat (0 : Int)) x1 x2
else none
else none
theorem t56_5 {N cl} {R} (K : KE R) (x0 x1 x2) : exec cl N c56_5 [(3, .own true 4294967295 U1 .no x0), (8, .ref 3 []), (9, .v U2 x1), (10, .v U2 x2)] K = (g56_5 x0 x1 x2 (fun y0 y1 y2 y3 y4 => K .normal [(3, .own true 4294967295 U1 .no y0), (4, .v U2 y1), (5, .v U1 y2), (8, .ref 3 []), (9, .v U2 y3), (10, .v U2 y4)])) := by
  kernel_rfl
def g56_6 {R : Type} (x0 : V0) (x1 : Int) (x2 : Int) (x3 : Int) (x4 : Int) (k0 : V0 → Int → Int → Int → Int → Bool → Option R) : Option R :=
brB (decide (x2 ≥ (65 : Int))) (k0 x0 x1 x2 x3 x4 (decide (x2 ≤ (90 : Int)))) (k0 x0 x1 x2 x3 x4 false)
theorem t56_6 {N cl} {R} (K : KE R) (x0 x1 x2 x3 x4) : exec cl N c56_6 [(3, .own true 4294967295 U1 .no x0), (4, .v U2 x1), (5, .v U1 x2), (8, .ref 3 []), (9, .v U2 x3), (10, .v U2 x4)] K = (g56_6 x0 x1 x2 x3 x4 (fun y0 y1 y2 y3 y4 y5 => K .normal [(3, .own true 4294967295 U1 .no y0), (4, .v U2 y1), (5, .v U1 y2), (8, .ref 3 []), (9, .v U2 y3), (10, .v U2 y4), (20, .v .bool y5)])) := by
  kernel_rfl
def g56_7 {R : Type} (x0 : V0) (x1 : Int) (x2 : Int) (x3 : Int) (x4 : Int) (x5 : Bool) (k0 : V0 → Int → Int → Option R) : Option R :=
if 0 ≤ x1 ∧ x1 < (x0.length : Int) then
if x1.toNat < x0.length then
k0 (x0.set x1.toNat (IntKind.u8.wrap ((IntKind.u8.wrap (x2 - (65 : Int))) + (97 : Int)))) x3 x4
else none
else none
theorem t56_7 {N cl} {R} (K : KE R) (x0 x1 x2 x3 x4 x5) : exec cl N c56_7 [(3, .own true 4294967295 U1 .no x0), (4, .v U2 x1), (5, .v U1 x2), (8, .ref 3 []), (9, .v U2 x3), (10, .v U2 x4), (20, .v .bool x5)] K = (g56_7 x0 x1 x2 x3 x4 x5 (fun y0 y1 y2 => K .normal [(3, .own true 4294967295 U1 .no y0), (8, .ref 3 []), (9, .v U2 y1), (10, .v U2 y2)])) := by
  kernel_rfl
theorem kp56_2 (x0 x1 x2 x3 x4 x5) : keep [3, 8, 9, 10] [(3, .own true 4294967295 U1 .no x0), (4, .v U2 x1), (5, .v U1 x2), (8, .ref 3 []), (9, .v U2 x3), (10, .v U2 x4), (20, .v .bool x5)] = [(3, .own true 4294967295 U1 .no x0), (8, .ref 3 []), (9, .v U2 x3), (10, .v U2 x4)] := by kernel_rfl
theorem hb56_1 (x0 : V0) (x1 : Int) (x2 : Int) (x3 : Int) (x4 : Int) (x5 : Bool) : boolOf? (ent [(3, .own true 4294967295 U1 .no x0), (4, .v U2 x1), (5, .v U1 x2), (8, .ref 3 []), (9, .v U2 x3), (10, .v U2 x4), (20, .v .bool x5)] (.t 20)) = some x5 := by kernel_rfl
def g56_9 {R : Type} (x0 : V0) (x1 : Int) (x2 : Int) (k0 : V0 → Int → Int → Option R) : Option R :=
(g56_5 x0 x1 x2 (fun y0 y1 y2 y3 y4 => (g56_6 y0 y1 y2 y3 y4 (fun y0 y1 y2 y3 y4 y5 => brB y5 (g56_7 y0 y1 y2 y3 y4 y5 (fun y0 y1 y2 => (k0 y0 y1 y2))) (k0 y0 y3 y4)))))
theorem t56_9 {N cl} {R} (K : KE R) (x0 x1 x2) : exec cl N c56_9 [(3, .own true 4294967295 U1 .no x0), (8, .ref 3 []), (9, .v U2 x1), (10, .v U2 x2)] K = (g56_9 x0 x1 x2 (fun y0 y1 y2 => K .normal [(3, .own true 4294967295 U1 .no y0), (8, .ref 3 []), (9, .v U2 y1), (10, .v U2 y2)])) := by
  simp only [c56_9, exec_out, exec_block, exec_seq, seqK_normal, seqK_exit, seqK_ret, t56_5, t56_6, c56_8, exec_cond', hb56_1, Option.bind_some, brB_true, brB_false, t56_7, exec_skip, kp56_0, kp56_2, blockK_normal, blockK_ret, blockK_eq]
  rfl
def g56_10 {R : Type} (x0 : V0) (x1 : Int) (x2 : Int) (k0 : V0 → Int → Int → Option R) : Option R :=
k0 x0 x1 (IntKind.i64.wrap (x2 + (1 : Int)))
theorem t56_10 {N cl} {R} (K : KE R) (x0 x1 x2) : exec cl N c56_10 [(3, .own true 4294967295 U1 .no x0), (8, .ref 3 []), (9, .v U2 x1), (10, .v U2 x2)] K = (g56_10 x0 x1 x2 (fun y0 y1 y2 => K .normal [(3, .own true 4294967295 U1 .no y0), (8, .ref 3 []), (9, .v U2 y1), (10, .v U2 y2)])) := by
  kernel_rfl
def g56_11 {R : Type} (x0 : V0) (x1 : Int) (x2 : Int) (k0 : V0 → Int → Int → Option R) (k1 : V0 → Int → Int → Option R) : Option R :=
(g56_3 x0 x1 x2 (fun y0 y1 y2 y3 => brB y3 ((fun y0 y1 y2 => (g56_9 y0 y1 y2 (fun y0 y1 y2 => (g56_10 y0 y1 y2 k0)))) y0 y1 y2) (k1 y0 y1 y2)))
theorem t56_11 {N cl} {R} (K : KE R) (x0 x1 x2) : exec cl N c56_11 [(3, .own true 4294967295 U1 .no x0), (8, .ref 3 []), (9, .v U2 x1), (10, .v U2 x2)] K = (g56_11 x0 x1 x2 (fun y0 y1 y2 => K .normal [(3, .own true 4294967295 U1 .no y0), (8, .ref 3 []), (9, .v U2 y1), (10, .v U2 y2)]) (fun y0 y1 y2 => K (.exit 0) [(3, .own true 4294967295 U1 .no y0), (8, .ref 3 []), (9, .v U2 y1), (10, .v U2 y2)])) := by
  simp only [c56_11, exec_seq, seqK_normal, seqK_exit, seqK_ret, t56_3, c56_4, exec_out, exec_cond', hb56_0, Option.bind_some, brB_true, brB_false, exec_skip, exec_exit, kp56_1, t56_9, t56_10]
  rfl
def l56_12 {R : Type} (k0 : V0 → Int → Int → Option R) : Nat → V0 → Int → Int → Option R
  | 0, _, _, _ => none
  | m + 1, x0, x1, x2 => (g56_11 x0 x1 x2 (fun y0 y1 y2 => l56_12 k0 m y0 y1 y2) k0)
theorem lt56_12 {N cl} {R} (K : KE R) : ∀ (m) (x0 x1 x2), iter [3, 8, 9, 10] (fun env K => exec cl N c56_11 env K) K m [(3, .own true 4294967295 U1 .no x0), (8, .ref 3 []), (9, .v U2 x1), (10, .v U2 x2)] = l56_12 (fun y0 y1 y2 => K (.exit 0) [(3, .own true 4294967295 U1 .no y0), (8, .ref 3 []), (9, .v U2 y1), (10, .v U2 y2)]) m x0 x1 x2 := by
  intro m
  induction m with
  | zero => intros; rfl
  | succ m ih =>
    intro x0 x1 x2
    simp only [iter_succ, t56_11, loopK_normal, loopK_exit, loopK_ret, kp56_0, ih]
    rfl
theorem kp56_3 (x0 x1 x2) : keep [3] [(3, .own true 4294967295 U1 .no x0), (8, .ref 3 []), (9, .v U2 x1), (10, .v U2 x2)] = [(3, .own true 4294967295 U1 .no x0)] := by kernel_rfl
def g56_12 {R : Type} (N : Nat) (x0 : V0) (x1 : Int) (x2 : Int) (k0 : V0 → Option R) : Option R :=
l56_12 (fun y0 y1 y2 => k0 y0) N x0 x1 x2
theorem t56_12 {N cl} {R} (K : KE R) (x0 x1 x2) : exec cl N c56_12 [(3, .own true 4294967295 U1 .no x0), (8, .ref 3 []), (9, .v U2 x1), (10, .v U2 x2)] K = (g56_12 N x0 x1 x2 (fun y0 => K (.exit 0) [(3, .own true 4294967295 U1 .no y0)])) := by
  simp only [c56_12, exec_out, exec_loop, kp56_0, lt56_12, kp56_3]
  rfl
theorem kp56_4 (x0) : keep [3] [(3, .own true 4294967295 U1 .no x0)] = [(3, .own true 4294967295 U1 .no x0)] := by kernel_rfl
def g56_14 {R : Type} (x0 : V0) (k0 : V1 → Option R) : Option R :=
k0 (x0.map fun n => UInt8.ofNat n.toNat)
theorem t56_14 {N cl} {R} (K : KE R) (x0) : exec cl N c56_14 [(3, .own true 4294967295 U1 .no x0)] K = (g56_14 x0 (fun y0 => K .normal [(2, .v .str y0)])) := by
  kernel_rfl
def g56_15 {R : Type} (N : Nat) (x0 : V1) (k0 : V1 → Option R) : Option R :=
(g56_0 x0 (fun y0 => (g56_1 y0 (fun y0 => (g56_2 y0 (fun y0 y1 y2 => (g56_12 N y0 y1 y2 (fun y0 => ((fun y0 => (g56_14 y0 (fun y0 => (k0 y0)))) y0)))))))))
theorem t56_15 {N cl} {R} (K : KE R) (x0) : exec cl N c56_15 [(0, .v .str x0)] K = (g56_15 N x0 (fun y0 => K .ret [(2, .v .str y0)])) := by
  simp only [c56_15, exec_seq, seqK_normal, seqK_exit, seqK_ret, t56_0, t56_1, t56_2, c56_13, exec_out, exec_block, t56_12, blockK_normal, blockK_ret, blockK_eq, kp56_4, t56_14, exec_ret]
  rfl
theorem rk56_0 (y0 : V1) : retK d56 .ret [(2, .v .str y0)] = some [.v .str y0] := by kernel_rfl
def g56 {R : Type} (N : Nat) (x0 : V1) (k : V1 → Option R) : Option R :=
(g56_15 N x0 (fun y0 => k y0))
theorem gen56 {N : Nat} {cl : Cal} (x0 : V1) {R : Type} (k : List E → Option R) : exec cl N c56 (params 0 [.v .str x0]) (fun e env => (retK d56 e env).bind k) = g56 N x0 (fun (r0 : V1) => k [.v .str r0]) := by
  have e0 : params 0 [.v .str x0] = [(0, .v .str x0)] := by kernel_rfl
  simp only [c56, e0, t56_15, rk56_0, Option.bind_some]
  rfl
def ctr56 (S : V1 → Option V5) : Ctr := { A := V1 × Unit, B := V1, f := 56, enc := fun a => [.v .str a.1], dec := (decC (decV .str) dec0), S := fun a => S a.1, ent := fun b => [.v .str b], ok := (decV_cons (T := .str) (fun es b h => dec0_some h)) }
def S56 (N : Nat) (x0 : V1) : Option V5 := g56 N x0 (fun (r0 : V1) => some (r0))
def g73_0 {R : Type} (x0 : V1) (k0 : V1 → Option R) : Option R :=
k0 x0
theorem t73_0 {N cl} {R} (K : KE R) (x0) : exec cl N c73_0 [(0, .v .str x0)] K = (g73_0 x0 (fun y0 => K .normal [(0, .v .str y0)])) := by
  kernel_rfl
def g73_1 {R : Type} (x0 : V1) (k0 : V1 → Bool → Option R) : Option R :=
k0 x0 (decide ((x0.length : Int) > (16 : Int)))
theorem t73_1 {N cl} {R} (K : KE R) (x0) : exec cl N c73_1 [(0, .v .str x0)] K = (g73_1 x0 (fun y0 y1 => K .normal [(0, .v .str y0), (7, .v .bool y1)])) := by
  kernel_rfl
def g73_2 {R : Type} (x0 : V1) (x1 : Bool) (k0 : Int → Option R) : Option R :=
k0 (3 : Int)
theorem t73_2 {N cl} {R} (K : KE R) (x0 x1) : exec cl N c73_2 [(0, .v .str x0), (7, .v .bool x1)] K = (g73_2 x0 x1 (fun y0 => K .normal [(2, .v U2 y0)])) := by
  kernel_rfl
theorem kp73_0 (x0) : keep [0, 2] [(2, .v U2 x0)] = [(0, .dead), (2, .v U2 x0)] := by kernel_rfl
theorem kp73_1 (x0 x1) : keep [0, 2] [(0, .v .str x0), (7, .v .bool x1)] = [(0, .v .str x0), (2, .dead)] := by kernel_rfl
theorem hb73_0 (x0 : V1) (x1 : Bool) : boolOf? (ent [(0, .v .str x0), (7, .v .bool x1)] (.t 7)) = some x1 := by kernel_rfl
def g73_4 {R : Type} (S88 : V6 → Option V8) (x0 : V1) (k0 : V1 → Int → Option R) : Option R :=
(S88 [x0]).bind fun r224 =>
k0 x0 r224.2
theorem t73_4 {N cl} (S88) (h88 : (ctr88 S88).holds cl) {R} (K : KE R) (x0) : exec cl N c73_4 [(0, .v .str x0), (2, .dead)] K = (g73_4 S88 x0 (fun y0 y1 => K .normal [(0, .v .str y0), (4, .v U2 y1)])) := by
  rw [← put_eq h88]
  kernel_rfl
def g73_5 {R : Type} (S56 : V1 → Option V5) (x0 : V1) (x1 : Int) (k0 : Bool → Option R) : Option R :=
brB (x1 != (0 : Int)) (k0 true) ((S56 x0).bind fun r226 =>
k0 (r226 != x0))
theorem t73_5 {N cl} (S56) (h56 : (ctr56 S56).holds cl) {R} (K : KE R) (x0 x1) : exec cl N c73_5 [(0, .v .str x0), (4, .v U2 x1)] K = (g73_5 S56 x0 x1 (fun y0 => K .normal [(21, .v .bool y0)])) := by
  rw [← put_eq h56]
  kernel_rfl
def g73_6 {R : Type} (x0 : Bool) (k0 : Int → Option R) : Option R :=
k0 (2 : Int)
theorem t73_6 {N cl} {R} (K : KE R) (x0) : exec cl N c73_6 [(21, .v .bool x0)] K = (g73_6 x0 (fun y0 => K .normal [(2, .v U2 y0)])) := by
  kernel_rfl
theorem kp73_2 (x0) : keep [2] [(2, .v U2 x0)] = [(2, .v U2 x0)] := by kernel_rfl
theorem kp73_3 (x0) : keep [2] [(21, .v .bool x0)] = [(2, .dead)] := by kernel_rfl
theorem hb73_1 (x0 : Bool) : boolOf? (ent [(21, .v .bool x0)] (.t 21)) = some x0 := by kernel_rfl
def g73_8 {R : Type} (k0 : Int → Option R) : Option R :=
k0 (0 : Int)
theorem t73_8 {N cl} {R} (K : KE R) : exec cl N c73_8 [(2, .dead)] K = (g73_8 (fun y0 => K .normal [(2, .v U2 y0)])) := by
  kernel_rfl
def g73_9 {R : Type} (S56 : V1 → Option V5) (S88 : V6 → Option V8) (x0 : V1) (k0 : Int → Option R) (k1 : Int → Option R) : Option R :=
(g73_0 x0 (fun y0 => (g73_1 y0 (fun y0 y1 => brB y1 (g73_2 y0 y1 (fun y0 => ((fun y0 => (k0 y0)) y0))) ((fun y0 => (g73_4 S88 y0 (fun y0 y1 => (g73_5 S56 y0 y1 (fun y0 => brB y0 (g73_6 y0 (fun y0 => ((fun y0 => (k1 y0)) y0))) (g73_8 (fun y0 => (k1 y0)))))))) y0)))))
theorem t73_9 {N cl} (S56) (S88) (h56 : (ctr56 S56).holds cl) (h88 : (ctr88 S88).holds cl) {R} (K : KE R) (x0) : exec cl N c73_9 [(0, .v .str x0)] K = (g73_9 S56 S88 x0 (fun y0 => K .ret [(0, .dead), (2, .v U2 y0)]) (fun y0 => K .ret [(2, .v U2 y0)])) := by
  simp only [c73_9, exec_seq, seqK_normal, seqK_exit, seqK_ret, t73_0, t73_1, c73_3, exec_out, exec_cond', hb73_0, Option.bind_some, brB_true, brB_false, t73_2, exec_ret, exec_skip, kp73_0, kp73_1, t73_4 S88 h88, t73_5 S56 h56, c73_7, hb73_1, t73_6, kp73_2, kp73_3, t73_8]
  rfl
theorem rk73_0 (y0 : Int) : retK d73 .ret [(0, .dead), (2, .v U2 y0)] = some [.v U2 y0] := by kernel_rfl
theorem rk73_1 (y0 : Int) : retK d73 .ret [(2, .v U2 y0)] = some [.v U2 y0] := by kernel_rfl
def g73 {R : Type} (S56 : V1 → Option V5) (S88 : V6 → Option V8) (x0 : V1) (k : Int → Option R) : Option R :=
(g73_9 S56 S88 x0 (fun y0 => k y0) (fun y0 => k y0))
theorem gen73 {N : Nat} {cl : Cal} (S56 : V1 → Option V5) (S88 : V6 → Option V8) (h56 : (ctr56 S56).holds cl) (h88 : (ctr88 S88).holds cl) (x0 : V1) {R : Type} (k : List E → Option R) : exec cl N c73 (params 0 [.v .str x0]) (fun e env => (retK d73 e env).bind k) = g73 S56 S88 x0 (fun (r0 : Int) => k [.v U2 r0]) := by
  have e0 : params 0 [.v .str x0] = [(0, .v .str x0)] := by kernel_rfl
  simp only [c73, e0, t73_9 S56 S88 h56 h88, rk73_0, rk73_1, Option.bind_some]
  rfl
def ctr73 (S : V1 → Option (Int)) : Ctr := { A := V1 × Unit, B := Int, f := 73, enc := fun a => [.v .str a.1], dec := (decC (decV .str) dec0), S := fun a => S a.1, ent := fun b => [.v U2 b], ok := (decV_cons (T := .str) (fun es b h => dec0_some h)) }
def S73 (N : Nat) (x0 : V1) : Option (Int) := g73 (S56 N) (S88 N) x0 (fun (r0 : Int) => some (r0))
def g89_0 {R : Type} (x0 : V6) (x1 : V1) (k0 : V6 → V1 → Option R) : Option R :=
k0 x0 x1
theorem t89_0 {N cl} {R} (K : KE R) (x0 x1) : exec cl N c89_0 [(0, .v U0 x0), (1, .v .str x1)] K = (g89_0 x0 x1 (fun y0 y1 => K .normal [(0, .v U0 y0), (1, .v .str y1)])) := by
  kernel_rfl
def g89_1 {R : Type} (x0 : V6) (x1 : V1) (k0 : V6 → V1 → Int → Int → Option R) : Option R :=
k0 x0 x1 (x0.length : Int) (0 : Int)
theorem t89_1 {N cl} {R} (K : KE R) (x0 x1) : exec cl N c89_1 [(0, .v U0 x0), (1, .v .str x1)] K = (g89_1 x0 x1 (fun y0 y1 y2 y3 => K .normal [(0, .v U0 y0), (1, .v .str y1), (7, .v U2 y2), (8, .v U2 y3)])) := by
  kernel_rfl
theorem kp89_0 (x0 x1 x2 x3) : keep [0, 1, 7, 8] [(0, .v U0 x0), (1, .v .str x1), (7, .v U2 x2), (8, .v U2 x3)] = [(0, .v U0 x0), (1, .v .str x1), (7, .v U2 x2), (8, .v U2 x3)] := by kernel_rfl
def g89_2 {R : Type} (x0 : V6) (x1 : V1) (x2 : Int) (x3 : Int) (k0 : V6 → V1 → Int → Int → Bool → Option R) : Option R :=
k0 x0 x1 x2 x3 (decide (x3 < x2))
theorem t89_2 {N cl} {R} (K : KE R) (x0 x1 x2 x3) : exec cl N c89_2 [(0, .v U0 x0), (1, .v .str x1), (7, .v U2 x2), (8, .v U2 x3)] K = (g89_2 x0 x1 x2 x3 (fun y0 y1 y2 y3 y4 => K .normal [(0, .v U0 y0), (1, .v .str y1), (7, .v U2 y2), (8, .v U2 y3), (9, .v .bool y4)])) := by
  kernel_rfl
theorem kp89_1 (x0 x1 x2 x3 x4) : keep [0, 1, 7, 8] [(0, .v U0 x0), (1, .v .str x1), (7, .v U2 x2), (8, .v U2 x3), (9, .v .bool x4)] = [(0, .v U0 x0), (1, .v .str x1), (7, .v U2 x2), (8, .v U2 x3)] := by kernel_rfl
theorem hb89_0 (x0 : V6) (x1 : V1) (x2 : Int) (x3 : Int) (x4 : Bool) : boolOf? (ent [(0, .v U0 x0), (1, .v .str x1), (7, .v U2 x2), (8, .v U2 x3), (9, .v .bool x4)] (.t 9)) = some x4 := by kernel_rfl
def g89_4 {R : Type} (x0 : V6) (x1 : V1) (x2 : Int) (x3 : Int) (k0 : V6 → V1 → Int → Int → Int → Option R) : Option R :=
k0 x0 x1 x3 x2 x3
theorem t89_4 {N cl} {R} (K : KE R) (x0 x1 x2 x3) : exec cl N c89_4 [(0, .v U0 x0), (1, .v .str x1), (7, .v U2 x2), (8, .v U2 x3)] K = (g89_4 x0 x1 x2 x3 (fun y0 y1 y2 y3 y4 => K .normal [(0, .v U0 y0), (1, .v .str y1), (5, .v U2 y2), (7, .v U2 y3), (8, .v U2 y4)])) := by
  kernel_rfl
def g89_5 {R : Type} (x0 : V6) (x1 : V1) (x2 : Int) (x3 : Int) (x4 : Int) (k0 : V6 → V1 → Int → Int → Int → Bool → Option R) : Option R :=
if 0 ≤ x2 ∧ x2 < (x0.length : Int) then
k0 x0 x1 x2 x3 x4 (x1 == (x0.getD x2.toNat []))
else none
theorem t89_5 {N cl} {R} (K : KE R) (x0 x1 x2 x3 x4) : exec cl N c89_5 [(0, .v U0 x0), (1, .v .str x1), (5, .v U2 x2), (7, .v U2 x3), (8, .v U2 x4)] K = (g89_5 x0 x1 x2 x3 x4 (fun y0 y1 y2 y3 y4 y5 => K .normal [(0, .v U0 y0), (1, .v .str y1), (5, .v U2 y2), (7, .v U2 y3), (8, .v U2 y4), (16, .v .bool y5)])) := by
  kernel_rfl
def g89_6 {R : Type} (x0 : V6) (x1 : V1) (x2 : Int) (x3 : Int) (x4 : Int) (x5 : Bool) (k0 : Int → Option R) : Option R :=
k0 x2
theorem t89_6 {N cl} {R} (K : KE R) (x0 x1 x2 x3 x4 x5) : exec cl N c89_6 [(0, .v U0 x0), (1, .v .str x1), (5, .v U2 x2), (7, .v U2 x3), (8, .v U2 x4), (16, .v .bool x5)] K = (g89_6 x0 x1 x2 x3 x4 x5 (fun y0 => K .normal [(4, .v U2 y0)])) := by
  kernel_rfl
theorem kp89_2 (x0) : keep [0, 1, 4, 7, 8] [(4, .v U2 x0)] = [(0, .dead), (1, .dead), (4, .v U2 x0), (7, .dead), (8, .dead)] := by kernel_rfl
theorem kp89_3 (x0 x1 x2 x3 x4 x5) : keep [0, 1, 4, 7, 8] [(0, .v U0 x0), (1, .v .str x1), (5, .v U2 x2), (7, .v U2 x3), (8, .v U2 x4), (16, .v .bool x5)] = [(0, .v U0 x0), (1, .v .str x1), (4, .dead), (7, .v U2 x3), (8, .v U2 x4)] := by kernel_rfl
theorem hb89_1 (x0 : V6) (x1 : V1) (x2 : Int) (x3 : Int) (x4 : Int) (x5 : Bool) : boolOf? (ent [(0, .v U0 x0), (1, .v .str x1), (5, .v U2 x2), (7, .v U2 x3), (8, .v U2 x4), (16, .v .bool x5)] (.t 16)) = some x5 := by kernel_rfl
theorem kp89_4 (x0) : keep [0, 1, 4, 7, 8] [(0, .dead), (1, .dead), (4, .v U2 x0), (7, .dead), (8, .dead)] = [(0, .dead), (1, .dead), (4, .v U2 x0), (7, .dead), (8, .dead)] := by kernel_rfl
theorem kp89_5 (x0 x1 x2 x3) : keep [0, 1, 4, 7, 8] [(0, .v U0 x0), (1, .v .str x1), (4, .dead), (7, .v U2 x2), (8, .v U2 x3)] = [(0, .v U0 x0), (1, .v .str x1), (4, .dead), (7, .v U2 x2), (8, .v U2 x3)] := by kernel_rfl
def g89_9 {R : Type} (x0 : V6) (x1 : V1) (x2 : Int) (x3 : Int) (k0 : V6 → V1 → Int → Int → Option R) : Option R :=
k0 x0 x1 x2 (IntKind.i64.wrap (x3 + (1 : Int)))
theorem t89_9 {N cl} {R} (K : KE R) (x0 x1 x2 x3) : exec cl N c89_9 [(0, .v U0 x0), (1, .v .str x1), (4, .dead), (7, .v U2 x2), (8, .v U2 x3)] K = (g89_9 x0 x1 x2 x3 (fun y0 y1 y2 y3 => K .normal [(0, .v U0 y0), (1, .v .str y1), (7, .v U2 y2), (8, .v U2 y3)])) := by
  kernel_rfl
def g89_10 {R : Type} (x0 : V6) (x1 : V1) (x2 : Int) (x3 : Int) (k0 : Int → Option R) (k1 : V6 → V1 → Int → Int → Option R) (k2 : V6 → V1 → Int → Int → Option R) : Option R :=
(g89_2 x0 x1 x2 x3 (fun y0 y1 y2 y3 y4 => brB y4 ((fun y0 y1 y2 y3 => (g89_4 y0 y1 y2 y3 (fun y0 y1 y2 y3 y4 => (g89_5 y0 y1 y2 y3 y4 (fun y0 y1 y2 y3 y4 y5 => brB y5 (g89_6 y0 y1 y2 y3 y4 y5 (fun y0 => ((fun y0 => (k0 y0)) y0))) (g89_9 y0 y1 y3 y4 k1)))))) y0 y1 y2 y3) (k2 y0 y1 y2 y3)))
theorem t89_10 {N cl} {R} (K : KE R) (x0 x1 x2 x3) : exec cl N c89_10 [(0, .v U0 x0), (1, .v .str x1), (7, .v U2 x2), (8, .v U2 x3)] K = (g89_10 x0 x1 x2 x3 (fun y0 => K .ret [(0, .dead), (1, .dead), (4, .v U2 y0), (7, .dead), (8, .dead)]) (fun y0 y1 y2 y3 => K .normal [(0, .v U0 y0), (1, .v .str y1), (7, .v U2 y2), (8, .v U2 y3)]) (fun y0 y1 y2 y3 => K (.exit 0) [(0, .v U0 y0), (1, .v .str y1), (7, .v U2 y2), (8, .v U2 y3)])) := by
  simp only [c89_10, exec_seq, seqK_normal, seqK_exit, seqK_ret, t89_2, c89_3, exec_out, exec_cond', hb89_0, Option.bind_some, brB_true, brB_false, exec_skip, exec_exit, kp89_1, c89_8, exec_block, t89_4, t89_5, c89_7, hb89_1, t89_6, exec_ret, kp89_2, kp89_3, blockK_normal, blockK_ret, blockK_eq, kp89_4, kp89_5, t89_9]
  rfl
def l89_11 {R : Type} (k0 : Int → Option R) (k1 : V6 → V1 → Int → Int → Option R) : Nat → V6 → V1 → Int → Int → Option R
  | 0, _, _, _, _ => none
  | m + 1, x0, x1, x2, x3 => (g89_10 x0 x1 x2 x3 k0 (fun y0 y1 y2 y3 => l89_11 k0 k1 m y0 y1 y2 y3) k1)
theorem lt89_11 {N cl} {R} (K : KE R) : ∀ (m) (x0 x1 x2 x3), iter [0, 1, 7, 8] (fun env K => exec cl N c89_10 env K) K m [(0, .v U0 x0), (1, .v .str x1), (7, .v U2 x2), (8, .v U2 x3)] = l89_11 (fun y0 => K .ret [(0, .dead), (1, .dead), (4, .v U2 y0), (7, .dead), (8, .dead)]) (fun y0 y1 y2 y3 => K (.exit 0) [(0, .v U0 y0), (1, .v .str y1), (7, .v U2 y2), (8, .v U2 y3)]) m x0 x1 x2 x3 := by
  intro m
  induction m with
  | zero => intros; rfl
  | succ m ih =>
    intro x0 x1 x2 x3
    simp only [iter_succ, t89_10, loopK_normal, loopK_exit, loopK_ret, kp89_0, ih]
    rfl
theorem kp89_6 (x0) : keep [4] [(0, .dead), (1, .dead), (4, .v U2 x0), (7, .dead), (8, .dead)] = [(4, .v U2 x0)] := by kernel_rfl
theorem kp89_7 (x0 x1 x2 x3) : keep [4] [(0, .v U0 x0), (1, .v .str x1), (7, .v U2 x2), (8, .v U2 x3)] = [(4, .dead)] := by kernel_rfl
def g89_11 {R : Type} (N : Nat) (x0 : V6) (x1 : V1) (x2 : Int) (x3 : Int) (k0 : Int → Option R) (k1 : Option R) : Option R :=
l89_11 (fun y0 => k0 y0) (fun y0 y1 y2 y3 => k1) N x0 x1 x2 x3
theorem t89_11 {N cl} {R} (K : KE R) (x0 x1 x2 x3) : exec cl N c89_11 [(0, .v U0 x0), (1, .v .str x1), (7, .v U2 x2), (8, .v U2 x3)] K = (g89_11 N x0 x1 x2 x3 (fun y0 => K .ret [(4, .v U2 y0)]) (K (.exit 0) [(4, .dead)])) := by
  simp only [c89_11, exec_out, exec_loop, kp89_0, lt89_11, kp89_6, kp89_7]
  rfl
theorem kp89_8 (x0) : keep [4] [(4, .v U2 x0)] = [(4, .v U2 x0)] := by kernel_rfl
theorem kp89_9 : keep [4] [(4, .dead)] = [(4, .dead)] := by kernel_rfl
def g89_13 {R : Type} (k0 : Int → Option R) : Option R :=
k0 (-1 : Int)
theorem t89_13 {N cl} {R} (K : KE R) : exec cl N c89_13 [(4, .dead)] K = (g89_13 (fun y0 => K .normal [(4, .v U2 y0)])) := by
  kernel_rfl
def g89_14 {R : Type} (N : Nat) (x0 : V6) (x1 : V1) (k0 : Int → Option R) : Option R :=
(g89_0 x0 x1 (fun y0 y1 => (g89_1 y0 y1 (fun y0 y1 y2 y3 => (g89_11 N y0 y1 y2 y3 (fun y0 => (k0 y0)) (g89_13 (fun y0 => (k0 y0))))))))
theorem t89_14 {N cl} {R} (K : KE R) (x0 x1) : exec cl N c89_14 [(0, .v U0 x0), (1, .v .str x1)] K = (g89_14 N x0 x1 (fun y0 => K .ret [(4, .v U2 y0)])) := by
  simp only [c89_14, exec_seq, seqK_normal, seqK_exit, seqK_ret, t89_0, t89_1, c89_12, exec_out, exec_block, t89_11, blockK_normal, blockK_ret, blockK_eq, kp89_8, kp89_9, t89_13, exec_ret]
  rfl
theorem rk89_0 (y0 : Int) : retK d89 .ret [(4, .v U2 y0)] = some [.v U2 y0] := by kernel_rfl
def g89 {R : Type} (N : Nat) (x0 : V6) (x1 : V1) (k : Int → Option R) : Option R :=
(g89_14 N x0 x1 (fun y0 => k y0))
theorem gen89 {N : Nat} {cl : Cal} (x0 : V6) (x1 : V1) {R : Type} (k : List E → Option R) : exec cl N c89 (params 0 [.v U0 x0, .v .str x1]) (fun e env => (retK d89 e env).bind k) = g89 N x0 x1 (fun (r0 : Int) => k [.v U2 r0]) := by
  have e0 : params 0 [.v U0 x0, .v .str x1] = [(0, .v U0 x0), (1, .v .str x1)] := by kernel_rfl
  simp only [c89, e0, t89_14, rk89_0, Option.bind_some]
  rfl
def ctr89 (S : V6 → V1 → Option (Int)) : Ctr := { A := V6 × V1 × Unit, B := Int, f := 89, enc := fun a => [.v U0 a.1, .v .str a.2.1], dec := (decC (decV U0) (decC (decV .str) dec0)), S := fun a => S a.1 a.2.1, ent := fun b => [.v U2 b], ok := (decV_cons (T := U0) (decV_cons (T := .str) (fun es b h => dec0_some h))) }
def S89 (N : Nat) (x0 : V6) (x1 : V1) : Option (Int) := g89 N x0 x1 (fun (r0 : Int) => some (r0))
def g74_0 {R : Type} (x0 : V6) (x1 : V1) (k0 : V6 → V1 → Option R) : Option R :=
k0 x0 x1
theorem t74_0 {N cl} {R} (K : KE R) (x0 x1) : exec cl N c74_0 [(0, .v U0 x0), (1, .v .str x1)] K = (g74_0 x0 x1 (fun y0 y1 => K .normal [(0, .v U0 y0), (1, .v .str y1)])) := by
  kernel_rfl
def g74_1 {R : Type} (S89 : V6 → V1 → Option (Int)) (x0 : V6) (x1 : V1) (k0 : Bool → Option R) : Option R :=
(S89 x0 x1).bind fun r238 =>
k0 (decide (r238 ≥ (0 : Int)))
theorem t74_1 {N cl} (S89) (h89 : (ctr89 S89).holds cl) {R} (K : KE R) (x0 x1) : exec cl N c74_1 [(0, .v U0 x0), (1, .v .str x1)] K = (g74_1 S89 x0 x1 (fun y0 => K .normal [(4, .v .bool y0)])) := by
  rw [← put_eq h89]
  kernel_rfl
def g74_2 {R : Type} (S89 : V6 → V1 → Option (Int)) (x0 : V6) (x1 : V1) (k0 : Bool → Option R) : Option R :=
(g74_0 x0 x1 (fun y0 y1 => (g74_1 S89 y0 y1 (fun y0 => (k0 y0)))))
theorem t74_2 {N cl} (S89) (h89 : (ctr89 S89).holds cl) {R} (K : KE R) (x0 x1) : exec cl N c74_2 [(0, .v U0 x0), (1, .v .str x1)] K = (g74_2 S89 x0 x1 (fun y0 => K .ret [(4, .v .bool y0)])) := by
  simp only [c74_2, exec_seq, seqK_normal, seqK_exit, seqK_ret, t74_0, t74_1 S89 h89, exec_ret]
  rfl
theorem rk74_0 (y0 : Bool) : retK d74 .ret [(4, .v .bool y0)] = some [.v .bool y0] := by kernel_rfl
def g74 {R : Type} (S89 : V6 → V1 → Option (Int)) (x0 : V6) (x1 : V1) (k : Bool → Option R) : Option R :=
(g74_2 S89 x0 x1 (fun y0 => k y0))
theorem gen74 {N : Nat} {cl : Cal} (S89 : V6 → V1 → Option (Int)) (h89 : (ctr89 S89).holds cl) (x0 : V6) (x1 : V1) {R : Type} (k : List E → Option R) : exec cl N c74 (params 0 [.v U0 x0, .v .str x1]) (fun e env => (retK d74 e env).bind k) = g74 S89 x0 x1 (fun (r0 : Bool) => k [.v .bool r0]) := by
  have e0 : params 0 [.v U0 x0, .v .str x1] = [(0, .v U0 x0), (1, .v .str x1)] := by kernel_rfl
  simp only [c74, e0, t74_2 S89 h89, rk74_0, Option.bind_some]
  rfl
def ctr74 (S : V6 → V1 → Option (Bool)) : Ctr := { A := V6 × V1 × Unit, B := Bool, f := 74, enc := fun a => [.v U0 a.1, .v .str a.2.1], dec := (decC (decV U0) (decC (decV .str) dec0)), S := fun a => S a.1 a.2.1, ent := fun b => [.v .bool b], ok := (decV_cons (T := U0) (decV_cons (T := .str) (fun es b h => dec0_some h))) }
def S74 (N : Nat) (x0 : V6) (x1 : V1) : Option (Bool) := g74 (S89 N) x0 x1 (fun (r0 : Bool) => some (r0))
def g54_0 {R : Type} (x0 : V19) (k0 : V19 → Option R) : Option R :=
k0 x0
theorem t54_0 {N cl} {R} (K : KE R) (x0) : exec cl N c54_0 [(0, .v U20 x0)] K = (g54_0 x0 (fun y0 => K .normal [(1, .loc U20 .no y0)])) := by
  kernel_rfl
def g54_1 {R : Type} (x0 : V19) (k0 : V19 → Bool → Option R) : Option R :=
brB (decide (x0.1 < (1 : Int))) (k0 x0 true) (brB (decide (x0.1 > (12 : Int))) (k0 x0 true) (brB (decide (x0.2.1 < (0 : Int))) (k0 x0 true) (k0 x0 (decide (x0.2.1 > (999 : Int))))))
theorem t54_1 {N cl} {R} (K : KE R) (x0) : exec cl N c54_1 [(1, .loc U20 .no x0)] K = (g54_1 x0 (fun y0 y1 => K .normal [(1, .loc U20 .no y0), (6, .v .bool y1)])) := by
  kernel_rfl
def g54_2 {R : Type} (x0 : V19) (x1 : Bool) (k0 : Int → Option R) : Option R :=
k0 (6 : Int)
theorem t54_2 {N cl} {R} (K : KE R) (x0 x1) : exec cl N c54_2 [(1, .loc U20 .no x0), (6, .v .bool x1)] K = (g54_2 x0 x1 (fun y0 => K .normal [(2, .v U2 y0)])) := by
  kernel_rfl
theorem kp54_0 (x0) : keep [1, 2] [(2, .v U2 x0)] = [(1, .dead), (2, .v U2 x0)] := by kernel_rfl
def g54_3 {R : Type} (x0 : V19) (x1 : Bool) (k0 : V19 → Bool → Option R) : Option R :=
k0 x0 (decide ((x0.2.2.1.length : Int) > (20 : Int)))
theorem t54_3 {N cl} {R} (K : KE R) (x0 x1) : exec cl N c54_3 [(1, .loc U20 .no x0), (6, .v .bool x1)] K = (g54_3 x0 x1 (fun y0 y1 => K .normal [(1, .loc U20 .no y0), (25, .v .bool y1)])) := by
  kernel_rfl
def g54_4 {R : Type} (x0 : V19) (x1 : Bool) (k0 : Int → Option R) : Option R :=
k0 (3 : Int)
theorem t54_4 {N cl} {R} (K : KE R) (x0 x1) : exec cl N c54_4 [(1, .loc U20 .no x0), (25, .v .bool x1)] K = (g54_4 x0 x1 (fun y0 => K .normal [(2, .v U2 y0)])) := by
  kernel_rfl
theorem kp54_1 (x0 x1) : keep [1, 2] [(1, .loc U20 .no x0), (25, .v .bool x1)] = [(1, .loc U20 .no x0), (2, .dead)] := by kernel_rfl
theorem hb54_0 (x0 : V19) (x1 : Bool) : boolOf? (ent [(1, .loc U20 .no x0), (25, .v .bool x1)] (.t 25)) = some x1 := by kernel_rfl
theorem kp54_2 (x0) : keep [1, 2] [(1, .dead), (2, .v U2 x0)] = [(1, .dead), (2, .v U2 x0)] := by kernel_rfl
theorem kp54_3 (x0) : keep [1, 2] [(1, .loc U20 .no x0), (2, .dead)] = [(1, .loc U20 .no x0), (2, .dead)] := by kernel_rfl
theorem hb54_1 (x0 : V19) (x1 : Bool) : boolOf? (ent [(1, .loc U20 .no x0), (6, .v .bool x1)] (.t 6)) = some x1 := by kernel_rfl
def g54_8 {R : Type} (x0 : V19) (k0 : V19 → V6 → Int → Int → Option R) : Option R :=
k0 x0 x0.2.2.1 (x0.2.2.1.length : Int) (0 : Int)
theorem t54_8 {N cl} {R} (K : KE R) (x0) : exec cl N c54_8 [(1, .loc U20 .no x0), (2, .dead)] K = (g54_8 x0 (fun y0 y1 y2 y3 => K .normal [(1, .loc U20 .no y0), (31, .v U0 y1), (32, .v U2 y2), (33, .v U2 y3)])) := by
  kernel_rfl
theorem kp54_4 (x0 x1 x2 x3) : keep [1, 31, 32, 33] [(1, .loc U20 .no x0), (31, .v U0 x1), (32, .v U2 x2), (33, .v U2 x3)] = [(1, .loc U20 .no x0), (31, .v U0 x1), (32, .v U2 x2), (33, .v U2 x3)] := by kernel_rfl
def g54_9 {R : Type} (x0 : V19) (x1 : V6) (x2 : Int) (x3 : Int) (k0 : V19 → V6 → Int → Int → Bool → Option R) : Option R :=
k0 x0 x1 x2 x3 (decide (x3 < x2))
theorem t54_9 {N cl} {R} (K : KE R) (x0 x1 x2 x3) : exec cl N c54_9 [(1, .loc U20 .no x0), (31, .v U0 x1), (32, .v U2 x2), (33, .v U2 x3)] K = (g54_9 x0 x1 x2 x3 (fun y0 y1 y2 y3 y4 => K .normal [(1, .loc U20 .no y0), (31, .v U0 y1), (32, .v U2 y2), (33, .v U2 y3), (34, .v .bool y4)])) := by
  kernel_rfl
theorem kp54_5 (x0 x1 x2 x3 x4) : keep [1, 31, 32, 33] [(1, .loc U20 .no x0), (31, .v U0 x1), (32, .v U2 x2), (33, .v U2 x3), (34, .v .bool x4)] = [(1, .loc U20 .no x0), (31, .v U0 x1), (32, .v U2 x2), (33, .v U2 x3)] := by kernel_rfl
theorem hb54_2 (x0 : V19) (x1 : V6) (x2 : Int) (x3 : Int) (x4 : Bool) : boolOf? (ent [(1, .loc U20 .no x0), (31, .v U0 x1), (32, .v U2 x2), (33, .v U2 x3), (34, .v .bool x4)] (.t 34)) = some x4 := by kernel_rfl
def g54_11 {R : Type} (x0 : V19) (x1 : V6) (x2 : Int) (x3 : Int) (k0 : V19 → Int → V1 → V6 → Int → Int → Option R) : Option R :=
if 0 ≤ x3 ∧ x3 < (x1.length : Int) then
k0 x0 x3 (x1.getD x3.toNat []) x1 x2 x3
else none
theorem t54_11 {N cl} {R} (K : KE R) (x0 x1 x2 x3) : exec cl N c54_11 [(1, .loc U20 .no x0), (31, .v U0 x1), (32, .v U2 x2), (33, .v U2 x3)] K = (g54_11 x0 x1 x2 x3 (fun y0 y1 y2 y3 y4 y5 => K .normal [(1, .loc U20 .no y0), (3, .v U2 y1), (4, .v .str y2), (31, .v U0 y3), (32, .v U2 y4), (33, .v U2 y5)])) := by
  kernel_rfl
def g54_12 {R : Type} (S73 : V1 → Option (Int)) (x0 : V19) (x1 : Int) (x2 : V1) (x3 : V6) (x4 : Int) (x5 : Int) (k0 : V19 → Int → V1 → Int → V6 → Int → Int → Option R) : Option R :=
(S73 x2).bind fun r248 =>
k0 x0 x1 x2 r248 x3 x4 x5
theorem t54_12 {N cl} (S73) (h73 : (ctr73 S73).holds cl) {R} (K : KE R) (x0 x1 x2 x3 x4 x5) : exec cl N c54_12 [(1, .loc U20 .no x0), (3, .v U2 x1), (4, .v .str x2), (31, .v U0 x3), (32, .v U2 x4), (33, .v U2 x5)] K = (g54_12 S73 x0 x1 x2 x3 x4 x5 (fun y0 y1 y2 y3 y4 y5 y6 => K .normal [(1, .loc U20 .no y0), (3, .v U2 y1), (4, .v .str y2), (5, .v U2 y3), (31, .v U0 y4), (32, .v U2 y5), (33, .v U2 y6)])) := by
  rw [← put_eq h73]
  kernel_rfl
def g54_13 {R : Type} (x0 : V19) (x1 : Int) (x2 : V1) (x3 : Int) (x4 : V6) (x5 : Int) (x6 : Int) (k0 : V19 → Int → V1 → Int → V6 → Int → Int → Bool → Option R) : Option R :=
k0 x0 x1 x2 x3 x4 x5 x6 (x3 != (0 : Int))
theorem t54_13 {N cl} {R} (K : KE R) (x0 x1 x2 x3 x4 x5 x6) : exec cl N c54_13 [(1, .loc U20 .no x0), (3, .v U2 x1), (4, .v .str x2), (5, .v U2 x3), (31, .v U0 x4), (32, .v U2 x5), (33, .v U2 x6)] K = (g54_13 x0 x1 x2 x3 x4 x5 x6 (fun y0 y1 y2 y3 y4 y5 y6 y7 => K .normal [(1, .loc U20 .no y0), (3, .v U2 y1), (4, .v .str y2), (5, .v U2 y3), (31, .v U0 y4), (32, .v U2 y5), (33, .v U2 y6), (41, .v .bool y7)])) := by
  kernel_rfl
def g54_14 {R : Type} (x0 : V19) (x1 : Int) (x2 : V1) (x3 : Int) (x4 : V6) (x5 : Int) (x6 : Int) (x7 : Bool) (k0 : Int → Option R) : Option R :=
k0 x3
theorem t54_14 {N cl} {R} (K : KE R) (x0 x1 x2 x3 x4 x5 x6 x7) : exec cl N c54_14 [(1, .loc U20 .no x0), (3, .v U2 x1), (4, .v .str x2), (5, .v U2 x3), (31, .v U0 x4), (32, .v U2 x5), (33, .v U2 x6), (41, .v .bool x7)] K = (g54_14 x0 x1 x2 x3 x4 x5 x6 x7 (fun y0 => K .normal [(2, .v U2 y0)])) := by
  kernel_rfl
theorem kp54_6 (x0) : keep [1, 2, 3, 4, 31, 32, 33] [(2, .v U2 x0)] = [(1, .dead), (2, .v U2 x0), (3, .dead), (4, .dead), (31, .dead), (32, .dead), (33, .dead)] := by kernel_rfl
theorem kp54_7 (x0 x1 x2 x3 x4 x5 x6 x7) : keep [1, 2, 3, 4, 31, 32, 33] [(1, .loc U20 .no x0), (3, .v U2 x1), (4, .v .str x2), (5, .v U2 x3), (31, .v U0 x4), (32, .v U2 x5), (33, .v U2 x6), (41, .v .bool x7)] = [(1, .loc U20 .no x0), (2, .dead), (3, .v U2 x1), (4, .v .str x2), (31, .v U0 x4), (32, .v U2 x5), (33, .v U2 x6)] := by kernel_rfl
theorem hb54_3 (x0 : V19) (x1 : Int) (x2 : V1) (x3 : Int) (x4 : V6) (x5 : Int) (x6 : Int) (x7 : Bool) : boolOf? (ent [(1, .loc U20 .no x0), (3, .v U2 x1), (4, .v .str x2), (5, .v U2 x3), (31, .v U0 x4), (32, .v U2 x5), (33, .v U2 x6), (41, .v .bool x7)] (.t 41)) = some x7 := by kernel_rfl
def g54_16 {R : Type} (S74 : V6 → V1 → Option (Bool)) (x0 : V19) (x1 : Int) (x2 : V1) (x3 : V6) (x4 : Int) (x5 : Int) (k0 : V19 → V6 → Int → Int → Bool → Option R) : Option R :=
if 0 ≤ (0 : Int) ∧ (0 : Int) ≤ x1 ∧ x1 ≤ (x0.2.2.1.length : Int) ∧ (x0.2.2.1.length : Int) ≤ (x0.2.2.1.length : Int) then
(S74 ((x0.2.2.1.drop (0 : Int).toNat).take (x1.toNat - (0 : Int).toNat)) x2).bind fun r251 =>
k0 x0 x3 x4 x5 r251
else none
theorem t54_16 {N cl} (S74) (h74 : (ctr74 S74).holds cl) {R} (K : KE R) (x0 x1 x2 x3 x4 x5) : exec cl N c54_16 [(1, .loc U20 .no x0), (2, .dead), (3, .v U2 x1), (4, .v .str x2), (31, .v U0 x3), (32, .v U2 x4), (33, .v U2 x5)] K = (g54_16 S74 x0 x1 x2 x3 x4 x5 (fun y0 y1 y2 y3 y4 => K .normal [(1, .loc U20 .no y0), (31, .v U0 y1), (32, .v U2 y2), (33, .v U2 y3), (48, .v .bool y4)])) := by
  rw [← put_eq h74]
  kernel_rfl
def g54_17 {R : Type} (x0 : V19) (x1 : V6) (x2 : Int) (x3 : Int) (x4 : Bool) (k0 : Int → Option R) : Option R :=
k0 (5 : Int)
theorem t54_17 {N cl} {R} (K : KE R) (x0 x1 x2 x3 x4) : exec cl N c54_17 [(1, .loc U20 .no x0), (31, .v U0 x1), (32, .v U2 x2), (33, .v U2 x3), (48, .v .bool x4)] K = (g54_17 x0 x1 x2 x3 x4 (fun y0 => K .normal [(2, .v U2 y0)])) := by
  kernel_rfl
theorem kp54_8 (x0) : keep [1, 2, 31, 32, 33] [(2, .v U2 x0)] = [(1, .dead), (2, .v U2 x0), (31, .dead), (32, .dead), (33, .dead)] := by kernel_rfl
theorem kp54_9 (x0 x1 x2 x3 x4) : keep [1, 2, 31, 32, 33] [(1, .loc U20 .no x0), (31, .v U0 x1), (32, .v U2 x2), (33, .v U2 x3), (48, .v .bool x4)] = [(1, .loc U20 .no x0), (2, .dead), (31, .v U0 x1), (32, .v U2 x2), (33, .v U2 x3)] := by kernel_rfl
theorem hb54_4 (x0 : V19) (x1 : V6) (x2 : Int) (x3 : Int) (x4 : Bool) : boolOf? (ent [(1, .loc U20 .no x0), (31, .v U0 x1), (32, .v U2 x2), (33, .v U2 x3), (48, .v .bool x4)] (.t 48)) = some x4 := by kernel_rfl
theorem kp54_10 (x0) : keep [1, 2, 31, 32, 33] [(1, .dead), (2, .v U2 x0), (3, .dead), (4, .dead), (31, .dead), (32, .dead), (33, .dead)] = [(1, .dead), (2, .v U2 x0), (31, .dead), (32, .dead), (33, .dead)] := by kernel_rfl
theorem kp54_11 (x0) : keep [1, 2, 31, 32, 33] [(1, .dead), (2, .v U2 x0), (31, .dead), (32, .dead), (33, .dead)] = [(1, .dead), (2, .v U2 x0), (31, .dead), (32, .dead), (33, .dead)] := by kernel_rfl
theorem kp54_12 (x0 x1 x2 x3) : keep [1, 2, 31, 32, 33] [(1, .loc U20 .no x0), (2, .dead), (31, .v U0 x1), (32, .v U2 x2), (33, .v U2 x3)] = [(1, .loc U20 .no x0), (2, .dead), (31, .v U0 x1), (32, .v U2 x2), (33, .v U2 x3)] := by kernel_rfl
def g54_20 {R : Type} (x0 : V19) (x1 : V6) (x2 : Int) (x3 : Int) (k0 : V19 → V6 → Int → Int → Option R) : Option R :=
k0 x0 x1 x2 (IntKind.i64.wrap (x3 + (1 : Int)))
theorem t54_20 {N cl} {R} (K : KE R) (x0 x1 x2 x3) : exec cl N c54_20 [(1, .loc U20 .no x0), (2, .dead), (31, .v U0 x1), (32, .v U2 x2), (33, .v U2 x3)] K = (g54_20 x0 x1 x2 x3 (fun y0 y1 y2 y3 => K .normal [(1, .loc U20 .no y0), (31, .v U0 y1), (32, .v U2 y2), (33, .v U2 y3)])) := by
  kernel_rfl
def g54_21 {R : Type} (S73 : V1 → Option (Int)) (S74 : V6 → V1 → Option (Bool)) (x0 : V19) (x1 : V6) (x2 : Int) (x3 : Int) (k0 : Int → Option R) (k1 : V19 → V6 → Int → Int → Option R) (k2 : V19 → V6 → Int → Int → Option R) : Option R :=
(g54_9 x0 x1 x2 x3 (fun y0 y1 y2 y3 y4 => brB y4 ((fun y0 y1 y2 y3 => (g54_11 y0 y1 y2 y3 (fun y0 y1 y2 y3 y4 y5 => (g54_12 S73 y0 y1 y2 y3 y4 y5 (fun y0 y1 y2 y3 y4 y5 y6 => (g54_13 y0 y1 y2 y3 y4 y5 y6 (fun y0 y1 y2 y3 y4 y5 y6 y7 => brB y7 (g54_14 y0 y1 y2 y3 y4 y5 y6 y7 (fun y0 => ((fun y0 => (k0 y0)) y0))) ((fun y0 y1 y2 y3 y4 y5 => (g54_16 S74 y0 y1 y2 y3 y4 y5 (fun y0 y1 y2 y3 y4 => brB y4 (g54_17 y0 y1 y2 y3 y4 (fun y0 => ((fun y0 => (k0 y0)) y0))) (g54_20 y0 y1 y2 y3 k1)))) y0 y1 y2 y4 y5 y6)))))))) y0 y1 y2 y3) (k2 y0 y1 y2 y3)))
theorem t54_21 {N cl} (S73) (S74) (h73 : (ctr73 S73).holds cl) (h74 : (ctr74 S74).holds cl) {R} (K : KE R) (x0 x1 x2 x3) : exec cl N c54_21 [(1, .loc U20 .no x0), (31, .v U0 x1), (32, .v U2 x2), (33, .v U2 x3)] K = (g54_21 S73 S74 x0 x1 x2 x3 (fun y0 => K .ret [(1, .dead), (2, .v U2 y0), (31, .dead), (32, .dead), (33, .dead)]) (fun y0 y1 y2 y3 => K .normal [(1, .loc U20 .no y0), (31, .v U0 y1), (32, .v U2 y2), (33, .v U2 y3)]) (fun y0 y1 y2 y3 => K (.exit 1) [(1, .loc U20 .no y0), (31, .v U0 y1), (32, .v U2 y2), (33, .v U2 y3)])) := by
  simp only [c54_21, exec_seq, seqK_normal, seqK_exit, seqK_ret, t54_9, c54_10, exec_out, exec_cond', hb54_2, Option.bind_some, brB_true, brB_false, exec_skip, exec_exit, kp54_5, c54_19, exec_block, t54_11, t54_12 S73 h73, t54_13, c54_15, hb54_3, t54_14, exec_ret, kp54_6, kp54_7, t54_16 S74 h74, c54_18, hb54_4, t54_17, kp54_8, kp54_9, blockK_normal, blockK_ret, blockK_eq, kp54_10, kp54_11, kp54_12, t54_20]
  rfl
def l54_22 {R : Type} (S73 : V1 → Option (Int)) (S74 : V6 → V1 → Option (Bool)) (k0 : Int → Option R) (k1 : V19 → V6 → Int → Int → Option R) : Nat → V19 → V6 → Int → Int → Option R
  | 0, _, _, _, _ => none
  | m + 1, x0, x1, x2, x3 => (g54_21 S73 S74 x0 x1 x2 x3 k0 (fun y0 y1 y2 y3 => l54_22 S73 S74 k0 k1 m y0 y1 y2 y3) k1)
theorem lt54_22 {N cl} (S73) (S74) (h73 : (ctr73 S73).holds cl) (h74 : (ctr74 S74).holds cl) {R} (K : KE R) : ∀ (m) (x0 x1 x2 x3), iter [1, 31, 32, 33] (fun env K => exec cl N c54_21 env K) K m [(1, .loc U20 .no x0), (31, .v U0 x1), (32, .v U2 x2), (33, .v U2 x3)] = l54_22 S73 S74 (fun y0 => K .ret [(1, .dead), (2, .v U2 y0), (31, .dead), (32, .dead), (33, .dead)]) (fun y0 y1 y2 y3 => K (.exit 1) [(1, .loc U20 .no y0), (31, .v U0 y1), (32, .v U2 y2), (33, .v U2 y3)]) m x0 x1 x2 x3 := by
  intro m
  induction m with
  | zero => intros; rfl
  | succ m ih =>
    intro x0 x1 x2 x3
    simp only [iter_succ, t54_21 S73 S74 h73 h74, loopK_normal, loopK_exit, loopK_ret, kp54_4, ih]
    rfl
theorem kp54_13 (x0) : keep [2] [(1, .dead), (2, .v U2 x0), (31, .dead), (32, .dead), (33, .dead)] = [(2, .v U2 x0)] := by kernel_rfl
theorem kp54_14 (x0 x1 x2 x3) : keep [2] [(1, .loc U20 .no x0), (31, .v U0 x1), (32, .v U2 x2), (33, .v U2 x3)] = [(2, .dead)] := by kernel_rfl
def g54_22 {R : Type} (N : Nat) (S73 : V1 → Option (Int)) (S74 : V6 → V1 → Option (Bool)) (x0 : V19) (x1 : V6) (x2 : Int) (x3 : Int) (k0 : Int → Option R) (k1 : Option R) : Option R :=
l54_22 S73 S74 (fun y0 => k0 y0) (fun y0 y1 y2 y3 => k1) N x0 x1 x2 x3
theorem t54_22 {N cl} (S73) (S74) (h73 : (ctr73 S73).holds cl) (h74 : (ctr74 S74).holds cl) {R} (K : KE R) (x0 x1 x2 x3) : exec cl N c54_22 [(1, .loc U20 .no x0), (31, .v U0 x1), (32, .v U2 x2), (33, .v U2 x3)] K = (g54_22 N S73 S74 x0 x1 x2 x3 (fun y0 => K .ret [(2, .v U2 y0)]) (K (.exit 1) [(2, .dead)])) := by
  simp only [c54_22, exec_out, exec_loop, kp54_4, lt54_22 S73 S74 h73 h74, kp54_13, kp54_14]
  rfl
theorem kp54_15 (x0) : keep [2] [(2, .v U2 x0)] = [(2, .v U2 x0)] := by kernel_rfl
theorem kp54_16 : keep [2] [(2, .dead)] = [(2, .dead)] := by kernel_rfl
def g54_24 {R : Type} (k0 : Int → Option R) : Option R :=
k0 (0 : Int)
theorem t54_24 {N cl} {R} (K : KE R) : exec cl N c54_24 [(2, .dead)] K = (g54_24 (fun y0 => K .normal [(2, .v U2 y0)])) := by
  kernel_rfl
def g54_25 {R : Type} (N : Nat) (S73 : V1 → Option (Int)) (S74 : V6 → V1 → Option (Bool)) (x0 : V19) (k0 : Int → Option R) (k1 : Int → Option R) : Option R :=
(g54_0 x0 (fun y0 => (g54_1 y0 (fun y0 y1 => brB y1 (g54_2 y0 y1 (fun y0 => ((fun y0 => (k0 y0)) y0))) (g54_3 y0 y1 (fun y0 y1 => brB y1 (g54_4 y0 y1 (fun y0 => ((fun y0 => (k0 y0)) y0))) ((fun y0 => ((fun y0 => ((fun y0 => (g54_8 y0 (fun y0 y1 y2 y3 => (g54_22 N S73 S74 y0 y1 y2 y3 (fun y0 => (k1 y0)) (g54_24 (fun y0 => (k1 y0))))))) y0)) y0)) y0)))))))
theorem t54_25 {N cl} (S73) (S74) (h73 : (ctr73 S73).holds cl) (h74 : (ctr74 S74).holds cl) {R} (K : KE R) (x0) : exec cl N c54_25 [(0, .v U20 x0)] K = (g54_25 N S73 S74 x0 (fun y0 => K .ret [(1, .dead), (2, .v U2 y0)]) (fun y0 => K .ret [(2, .v U2 y0)])) := by
  simp only [c54_25, exec_seq, seqK_normal, seqK_exit, seqK_ret, t54_0, c54_7, exec_out, exec_block, t54_1, c54_6, exec_cond', hb54_1, Option.bind_some, brB_true, brB_false, t54_2, exec_ret, t54_3, c54_5, hb54_0, t54_4, exec_skip, kp54_0, kp54_1, kp54_2, kp54_3, blockK_normal, blockK_ret, blockK_eq, t54_8, c54_23, t54_22 S73 S74 h73 h74, kp54_15, kp54_16, t54_24]
  rfl
theorem rk54_0 (y0 : Int) : retK d54 .ret [(1, .dead), (2, .v U2 y0)] = some [.v U2 y0] := by kernel_rfl
theorem rk54_1 (y0 : Int) : retK d54 .ret [(2, .v U2 y0)] = some [.v U2 y0] := by kernel_rfl
def g54 {R : Type} (N : Nat) (S73 : V1 → Option (Int)) (S74 : V6 → V1 → Option (Bool)) (x0 : V19) (k : Int → Option R) : Option R :=
(g54_25 N S73 S74 x0 (fun y0 => k y0) (fun y0 => k y0))
theorem gen54 {N : Nat} {cl : Cal} (S73 : V1 → Option (Int)) (S74 : V6 → V1 → Option (Bool)) (h73 : (ctr73 S73).holds cl) (h74 : (ctr74 S74).holds cl) (x0 : V19) {R : Type} (k : List E → Option R) : exec cl N c54 (params 0 [.v U20 x0]) (fun e env => (retK d54 e env).bind k) = g54 N S73 S74 x0 (fun (r0 : Int) => k [.v U2 r0]) := by
  have e0 : params 0 [.v U20 x0] = [(0, .v U20 x0)] := by kernel_rfl
  simp only [c54, e0, t54_25 S73 S74 h73 h74, rk54_0, rk54_1, Option.bind_some]
  rfl
def ctr54 (S : V19 → Option (Int)) : Ctr := { A := V19 × Unit, B := Int, f := 54, enc := fun a => [.v U20 a.1], dec := (decC (decV U20) dec0), S := fun a => S a.1, ent := fun b => [.v U2 b], ok := (decV_cons (T := U20) (fun es b h => dec0_some h)) }
def S54 (N : Nat) (x0 : V19) : Option (Int) := g54 N (S73 N) (S74 N) x0 (fun (r0 : Int) => some (r0))
def g35_0 {R : Type} (x0 : V24) (k0 : V24 → Option R) : Option R :=
k0 x0
theorem t35_0 {N cl} {R} (K : KE R) (x0) : exec cl N c35_0 [(0, .v U26 x0)] K = (g35_0 x0 (fun y0 => K .normal [(1, .loc U26 .no y0)])) := by
  kernel_rfl
def g35_1 {R : Type} (S53 : V1 → Option (Bool)) (x0 : V24) (k0 : V24 → Bool → Option R) : Option R :=
(S53 x0.1).bind fun r256 =>
k0 x0 (!r256)
theorem t35_1 {N cl} (S53) (h53 : (ctr53 S53).holds cl) {R} (K : KE R) (x0) : exec cl N c35_1 [(1, .loc U26 .no x0)] K = (g35_1 S53 x0 (fun y0 y1 => K .normal [(1, .loc U26 .no y0), (6, .v .bool y1)])) := by
  rw [← put_eq h53]
  kernel_rfl
def g35_2 {R : Type} (x0 : V24) (x1 : Bool) (k0 : Int → Option R) : Option R :=
k0 (2 : Int)
theorem t35_2 {N cl} {R} (K : KE R) (x0 x1) : exec cl N c35_2 [(1, .loc U26 .no x0), (6, .v .bool x1)] K = (g35_2 x0 x1 (fun y0 => K .normal [(2, .v U2 y0)])) := by
  kernel_rfl
theorem kp35_0 (x0) : keep [1, 2] [(2, .v U2 x0)] = [(1, .dead), (2, .v U2 x0)] := by kernel_rfl
def g35_3 {R : Type} (x0 : V24) (x1 : Bool) (k0 : V24 → Bool → Option R) : Option R :=
k0 x0 (decide ((x0.2.1.length : Int) > (30 : Int)))
theorem t35_3 {N cl} {R} (K : KE R) (x0 x1) : exec cl N c35_3 [(1, .loc U26 .no x0), (6, .v .bool x1)] K = (g35_3 x0 x1 (fun y0 y1 => K .normal [(1, .loc U26 .no y0), (11, .v .bool y1)])) := by
  kernel_rfl
def g35_4 {R : Type} (x0 : V24) (x1 : Bool) (k0 : Int → Option R) : Option R :=
k0 (3 : Int)
theorem t35_4 {N cl} {R} (K : KE R) (x0 x1) : exec cl N c35_4 [(1, .loc U26 .no x0), (11, .v .bool x1)] K = (g35_4 x0 x1 (fun y0 => K .normal [(2, .v U2 y0)])) := by
  kernel_rfl
theorem kp35_1 (x0 x1) : keep [1, 2] [(1, .loc U26 .no x0), (11, .v .bool x1)] = [(1, .loc U26 .no x0), (2, .dead)] := by kernel_rfl
theorem hb35_0 (x0 : V24) (x1 : Bool) : boolOf? (ent [(1, .loc U26 .no x0), (11, .v .bool x1)] (.t 11)) = some x1 := by kernel_rfl
theorem kp35_2 (x0) : keep [1, 2] [(1, .dead), (2, .v U2 x0)] = [(1, .dead), (2, .v U2 x0)] := by kernel_rfl
theorem kp35_3 (x0) : keep [1, 2] [(1, .loc U26 .no x0), (2, .dead)] = [(1, .loc U26 .no x0), (2, .dead)] := by kernel_rfl
theorem hb35_1 (x0 : V24) (x1 : Bool) : boolOf? (ent [(1, .loc U26 .no x0), (6, .v .bool x1)] (.t 6)) = some x1 := by kernel_rfl
def g35_8 {R : Type} (x0 : V24) (k0 : V21 → Int → Int → Option R) : Option R :=
k0 x0.2.1 (x0.2.1.length : Int) (0 : Int)
theorem t35_8 {N cl} {R} (K : KE R) (x0) : exec cl N c35_8 [(1, .loc U26 .no x0), (2, .dead)] K = (g35_8 x0 (fun y0 y1 y2 => K .normal [(17, .v U22 y0), (18, .v U2 y1), (19, .v U2 y2)])) := by
  kernel_rfl
theorem kp35_4 (x0 x1 x2) : keep [17, 18, 19] [(17, .v U22 x0), (18, .v U2 x1), (19, .v U2 x2)] = [(17, .v U22 x0), (18, .v U2 x1), (19, .v U2 x2)] := by kernel_rfl
def g35_9 {R : Type} (x0 : V21) (x1 : Int) (x2 : Int) (k0 : V21 → Int → Int → Bool → Option R) : Option R :=
k0 x0 x1 x2 (decide (x2 < x1))
theorem t35_9 {N cl} {R} (K : KE R) (x0 x1 x2) : exec cl N c35_9 [(17, .v U22 x0), (18, .v U2 x1), (19, .v U2 x2)] K = (g35_9 x0 x1 x2 (fun y0 y1 y2 y3 => K .normal [(17, .v U22 y0), (18, .v U2 y1), (19, .v U2 y2), (20, .v .bool y3)])) := by
  kernel_rfl
theorem kp35_5 (x0 x1 x2 x3) : keep [17, 18, 19] [(17, .v U22 x0), (18, .v U2 x1), (19, .v U2 x2), (20, .v .bool x3)] = [(17, .v U22 x0), (18, .v U2 x1), (19, .v U2 x2)] := by kernel_rfl
theorem hb35_2 (x0 : V21) (x1 : Int) (x2 : Int) (x3 : Bool) : boolOf? (ent [(17, .v U22 x0), (18, .v U2 x1), (19, .v U2 x2), (20, .v .bool x3)] (.t 20)) = some x3 := by kernel_rfl
def g35_11 {R : Type} (x0 : V21) (x1 : Int) (x2 : Int) (k0 : V19 → V21 → Int → Int → Option R) : Option R :=
if 0 ≤ x2 ∧ x2 < (x0.length : Int) then
k0 (x0.getD x2.toNat ((0 : Int), ((0 : Int), ([], ())))) x0 x1 x2
else none
theorem t35_11 {N cl} {R} (K : KE R) (x0 x1 x2) : exec cl N c35_11 [(17, .v U22 x0), (18, .v U2 x1), (19, .v U2 x2)] K = (g35_11 x0 x1 x2 (fun y0 y1 y2 y3 => K .normal [(4, .loc U20 .no y0), (17, .v U22 y1), (18, .v U2 y2), (19, .v U2 y3)])) := by
  kernel_rfl
def g35_12 {R : Type} (S54 : V19 → Option (Int)) (x0 : V19) (x1 : V21) (x2 : Int) (x3 : Int) (k0 : Int → V21 → Int → Int → Option R) : Option R :=
(S54 x0).bind fun r259 =>
k0 r259 x1 x2 x3
theorem t35_12 {N cl} (S54) (h54 : (ctr54 S54).holds cl) {R} (K : KE R) (x0 x1 x2 x3) : exec cl N c35_12 [(4, .loc U20 .no x0), (17, .v U22 x1), (18, .v U2 x2), (19, .v U2 x3)] K = (g35_12 S54 x0 x1 x2 x3 (fun y0 y1 y2 y3 => K .normal [(5, .v U2 y0), (17, .v U22 y1), (18, .v U2 y2), (19, .v U2 y3)])) := by
  rw [← put_eq h54]
  kernel_rfl
def g35_13 {R : Type} (x0 : Int) (x1 : V21) (x2 : Int) (x3 : Int) (k0 : Int → V21 → Int → Int → Bool → Option R) : Option R :=
k0 x0 x1 x2 x3 (x0 != (0 : Int))
theorem t35_13 {N cl} {R} (K : KE R) (x0 x1 x2 x3) : exec cl N c35_13 [(5, .v U2 x0), (17, .v U22 x1), (18, .v U2 x2), (19, .v U2 x3)] K = (g35_13 x0 x1 x2 x3 (fun y0 y1 y2 y3 y4 => K .normal [(5, .v U2 y0), (17, .v U22 y1), (18, .v U2 y2), (19, .v U2 y3), (26, .v .bool y4)])) := by
  kernel_rfl
def g35_14 {R : Type} (x0 : Int) (x1 : V21) (x2 : Int) (x3 : Int) (x4 : Bool) (k0 : Int → Option R) : Option R :=
k0 x0
theorem t35_14 {N cl} {R} (K : KE R) (x0 x1 x2 x3 x4) : exec cl N c35_14 [(5, .v U2 x0), (17, .v U22 x1), (18, .v U2 x2), (19, .v U2 x3), (26, .v .bool x4)] K = (g35_14 x0 x1 x2 x3 x4 (fun y0 => K .normal [(2, .v U2 y0)])) := by
  kernel_rfl
theorem kp35_6 (x0) : keep [2, 17, 18, 19] [(2, .v U2 x0)] = [(2, .v U2 x0), (17, .dead), (18, .dead), (19, .dead)] := by kernel_rfl
theorem kp35_7 (x0 x1 x2 x3 x4) : keep [2, 17, 18, 19] [(5, .v U2 x0), (17, .v U22 x1), (18, .v U2 x2), (19, .v U2 x3), (26, .v .bool x4)] = [(2, .dead), (17, .v U22 x1), (18, .v U2 x2), (19, .v U2 x3)] := by kernel_rfl
theorem hb35_3 (x0 : Int) (x1 : V21) (x2 : Int) (x3 : Int) (x4 : Bool) : boolOf? (ent [(5, .v U2 x0), (17, .v U22 x1), (18, .v U2 x2), (19, .v U2 x3), (26, .v .bool x4)] (.t 26)) = some x4 := by kernel_rfl
theorem kp35_8 (x0) : keep [2, 17, 18, 19] [(2, .v U2 x0), (17, .dead), (18, .dead), (19, .dead)] = [(2, .v U2 x0), (17, .dead), (18, .dead), (19, .dead)] := by kernel_rfl
theorem kp35_9 (x0 x1 x2) : keep [2, 17, 18, 19] [(2, .dead), (17, .v U22 x0), (18, .v U2 x1), (19, .v U2 x2)] = [(2, .dead), (17, .v U22 x0), (18, .v U2 x1), (19, .v U2 x2)] := by kernel_rfl
def g35_17 {R : Type} (x0 : V21) (x1 : Int) (x2 : Int) (k0 : V21 → Int → Int → Option R) : Option R :=
k0 x0 x1 (IntKind.i64.wrap (x2 + (1 : Int)))
theorem t35_17 {N cl} {R} (K : KE R) (x0 x1 x2) : exec cl N c35_17 [(2, .dead), (17, .v U22 x0), (18, .v U2 x1), (19, .v U2 x2)] K = (g35_17 x0 x1 x2 (fun y0 y1 y2 => K .normal [(17, .v U22 y0), (18, .v U2 y1), (19, .v U2 y2)])) := by
  kernel_rfl
def g35_18 {R : Type} (S54 : V19 → Option (Int)) (x0 : V21) (x1 : Int) (x2 : Int) (k0 : Int → Option R) (k1 : V21 → Int → Int → Option R) (k2 : V21 → Int → Int → Option R) : Option R :=
(g35_9 x0 x1 x2 (fun y0 y1 y2 y3 => brB y3 ((fun y0 y1 y2 => (g35_11 y0 y1 y2 (fun y0 y1 y2 y3 => (g35_12 S54 y0 y1 y2 y3 (fun y0 y1 y2 y3 => (g35_13 y0 y1 y2 y3 (fun y0 y1 y2 y3 y4 => brB y4 (g35_14 y0 y1 y2 y3 y4 (fun y0 => ((fun y0 => (k0 y0)) y0))) (g35_17 y1 y2 y3 k1)))))))) y0 y1 y2) (k2 y0 y1 y2)))
theorem t35_18 {N cl} (S54) (h54 : (ctr54 S54).holds cl) {R} (K : KE R) (x0 x1 x2) : exec cl N c35_18 [(17, .v U22 x0), (18, .v U2 x1), (19, .v U2 x2)] K = (g35_18 S54 x0 x1 x2 (fun y0 => K .ret [(2, .v U2 y0), (17, .dead), (18, .dead), (19, .dead)]) (fun y0 y1 y2 => K .normal [(17, .v U22 y0), (18, .v U2 y1), (19, .v U2 y2)]) (fun y0 y1 y2 => K (.exit 1) [(17, .v U22 y0), (18, .v U2 y1), (19, .v U2 y2)])) := by
  simp only [c35_18, exec_seq, seqK_normal, seqK_exit, seqK_ret, t35_9, c35_10, exec_out, exec_cond', hb35_2, Option.bind_some, brB_true, brB_false, exec_skip, exec_exit, kp35_5, c35_16, exec_block, t35_11, t35_12 S54 h54, t35_13, c35_15, hb35_3, t35_14, exec_ret, kp35_6, kp35_7, blockK_normal, blockK_ret, blockK_eq, kp35_8, kp35_9, t35_17]
  rfl
def l35_19 {R : Type} (S54 : V19 → Option (Int)) (k0 : Int → Option R) (k1 : V21 → Int → Int → Option R) : Nat → V21 → Int → Int → Option R
  | 0, _, _, _ => none
  | m + 1, x0, x1, x2 => (g35_18 S54 x0 x1 x2 k0 (fun y0 y1 y2 => l35_19 S54 k0 k1 m y0 y1 y2) k1)
theorem lt35_19 {N cl} (S54) (h54 : (ctr54 S54).holds cl) {R} (K : KE R) : ∀ (m) (x0 x1 x2), iter [17, 18, 19] (fun env K => exec cl N c35_18 env K) K m [(17, .v U22 x0), (18, .v U2 x1), (19, .v U2 x2)] = l35_19 S54 (fun y0 => K .ret [(2, .v U2 y0), (17, .dead), (18, .dead), (19, .dead)]) (fun y0 y1 y2 => K (.exit 1) [(17, .v U22 y0), (18, .v U2 y1), (19, .v U2 y2)]) m x0 x1 x2 := by
  intro m
  induction m with
  | zero => intros; rfl
  | succ m ih =>
    intro x0 x1 x2
    simp only [iter_succ, t35_18 S54 h54, loopK_normal, loopK_exit, loopK_ret, kp35_4, ih]
    rfl
theorem kp35_10 (x0) : keep [2] [(2, .v U2 x0), (17, .dead), (18, .dead), (19, .dead)] = [(2, .v U2 x0)] := by kernel_rfl
theorem kp35_11 (x0 x1 x2) : keep [2] [(17, .v U22 x0), (18, .v U2 x1), (19, .v U2 x2)] = [(2, .dead)] := by kernel_rfl
def g35_19 {R : Type} (N : Nat) (S54 : V19 → Option (Int)) (x0 : V21) (x1 : Int) (x2 : Int) (k0 : Int → Option R) (k1 : Option R) : Option R :=
l35_19 S54 (fun y0 => k0 y0) (fun y0 y1 y2 => k1) N x0 x1 x2
theorem t35_19 {N cl} (S54) (h54 : (ctr54 S54).holds cl) {R} (K : KE R) (x0 x1 x2) : exec cl N c35_19 [(17, .v U22 x0), (18, .v U2 x1), (19, .v U2 x2)] K = (g35_19 N S54 x0 x1 x2 (fun y0 => K .ret [(2, .v U2 y0)]) (K (.exit 1) [(2, .dead)])) := by
  simp only [c35_19, exec_out, exec_loop, kp35_4, lt35_19 S54 h54, kp35_10, kp35_11]
  rfl
theorem kp35_12 (x0) : keep [2] [(2, .v U2 x0)] = [(2, .v U2 x0)] := by kernel_rfl
theorem kp35_13 : keep [2] [(2, .dead)] = [(2, .dead)] := by kernel_rfl
def g35_21 {R : Type} (k0 : Int → Option R) : Option R :=
k0 (0 : Int)
theorem t35_21 {N cl} {R} (K : KE R) : exec cl N c35_21 [(2, .dead)] K = (g35_21 (fun y0 => K .normal [(2, .v U2 y0)])) := by
  kernel_rfl
def g35_22 {R : Type} (N : Nat) (S53 : V1 → Option (Bool)) (S54 : V19 → Option (Int)) (x0 : V24) (k0 : Int → Option R) (k1 : Int → Option R) : Option R :=
(g35_0 x0 (fun y0 => (g35_1 S53 y0 (fun y0 y1 => brB y1 (g35_2 y0 y1 (fun y0 => ((fun y0 => (k0 y0)) y0))) (g35_3 y0 y1 (fun y0 y1 => brB y1 (g35_4 y0 y1 (fun y0 => ((fun y0 => (k0 y0)) y0))) ((fun y0 => ((fun y0 => ((fun y0 => (g35_8 y0 (fun y0 y1 y2 => (g35_19 N S54 y0 y1 y2 (fun y0 => (k1 y0)) (g35_21 (fun y0 => (k1 y0))))))) y0)) y0)) y0)))))))
theorem t35_22 {N cl} (S53) (S54) (h53 : (ctr53 S53).holds cl) (h54 : (ctr54 S54).holds cl) {R} (K : KE R) (x0) : exec cl N c35_22 [(0, .v U26 x0)] K = (g35_22 N S53 S54 x0 (fun y0 => K .ret [(1, .dead), (2, .v U2 y0)]) (fun y0 => K .ret [(2, .v U2 y0)])) := by
  simp only [c35_22, exec_seq, seqK_normal, seqK_exit, seqK_ret, t35_0, c35_7, exec_out, exec_block, t35_1 S53 h53, c35_6, exec_cond', hb35_1, Option.bind_some, brB_true, brB_false, t35_2, exec_ret, t35_3, c35_5, hb35_0, t35_4, exec_skip, kp35_0, kp35_1, kp35_2, kp35_3, blockK_normal, blockK_ret, blockK_eq, t35_8, c35_20, t35_19 S54 h54, kp35_12, kp35_13, t35_21]
  rfl
theorem rk35_0 (y0 : Int) : retK d35 .ret [(1, .dead), (2, .v U2 y0)] = some [.v U2 y0] := by kernel_rfl
theorem rk35_1 (y0 : Int) : retK d35 .ret [(2, .v U2 y0)] = some [.v U2 y0] := by kernel_rfl
def g35 {R : Type} (N : Nat) (S53 : V1 → Option (Bool)) (S54 : V19 → Option (Int)) (x0 : V24) (k : Int → Option R) : Option R :=
(g35_22 N S53 S54 x0 (fun y0 => k y0) (fun y0 => k y0))
theorem gen35 {N : Nat} {cl : Cal} (S53 : V1 → Option (Bool)) (S54 : V19 → Option (Int)) (h53 : (ctr53 S53).holds cl) (h54 : (ctr54 S54).holds cl) (x0 : V24) {R : Type} (k : List E → Option R) : exec cl N c35 (params 0 [.v U26 x0]) (fun e env => (retK d35 e env).bind k) = g35 N S53 S54 x0 (fun (r0 : Int) => k [.v U2 r0]) := by
  have e0 : params 0 [.v U26 x0] = [(0, .v U26 x0)] := by kernel_rfl
  simp only [c35, e0, t35_22 S53 S54 h53 h54, rk35_0, rk35_1, Option.bind_some]
  rfl
def ctr35 (S : V24 → Option (Int)) : Ctr := { A := V24 × Unit, B := Int, f := 35, enc := fun a => [.v U26 a.1], dec := (decC (decV U26) dec0), S := fun a => S a.1, ent := fun b => [.v U2 b], ok := (decV_cons (T := U26) (fun es b h => dec0_some h)) }
def S35 (N : Nat) (x0 : V24) : Option (Int) := g35 N (S53 N) (S54 N) x0 (fun (r0 : Int) => some (r0))
def g90_0 {R : Type} (x0 : V16) (k0 : V16 → Option R) : Option R :=
k0 x0
theorem t90_0 {N cl} {R} (K : KE R) (x0) : exec cl N c90_0 [(0, .v U18 x0)] K = (g90_0 x0 (fun y0 => K .normal [(1, .loc U18 .no y0)])) := by
  kernel_rfl
def g90_1 {R : Type} (x0 : V16) (k0 : V16 → Int → Option R) : Option R :=
k0 x0 x0.1
theorem t90_1 {N cl} {R} (K : KE R) (x0) : exec cl N c90_1 [(1, .loc U18 .no x0)] K = (g90_1 x0 (fun y0 y1 => K .normal [(1, .loc U18 .no y0), (4, .v U2 y1)])) := by
  kernel_rfl
def g90_2 {R : Type} (x0 : V16) (x1 : Int) (k0 : V16 → Int → Bool → Option R) : Option R :=
k0 x0 x1 (x1 == (1 : Int))
theorem t90_2 {N cl} {R} (K : KE R) (x0 x1) : exec cl N c90_2 [(1, .loc U18 .no x0), (4, .v U2 x1)] K = (g90_2 x0 x1 (fun y0 y1 y2 => K .normal [(1, .loc U18 .no y0), (4, .v U2 y1), (5, .v .bool y2)])) := by
  kernel_rfl
def g90_3 {R : Type} (x0 : V16) (x1 : Int) (x2 : Bool) (k0 : Bool → Option R) : Option R :=
brB (decide (x0.2.1 ≥ (1 : Int))) (k0 (decide (x0.2.1 ≤ (3 : Int)))) (k0 false)
theorem t90_3 {N cl} {R} (K : KE R) (x0 x1 x2) : exec cl N c90_3 [(1, .loc U18 .no x0), (4, .v U2 x1), (5, .v .bool x2)] K = (g90_3 x0 x1 x2 (fun y0 => K .normal [(2, .v .bool y0)])) := by
  kernel_rfl
theorem kp90_0 (x0) : keep [1, 2] [(2, .v .bool x0)] = [(1, .dead), (2, .v .bool x0)] := by kernel_rfl
def g90_4 {R : Type} (x0 : V16) (x1 : Int) (x2 : Bool) (k0 : V16 → Bool → Option R) : Option R :=
k0 x0 (x1 == (2 : Int))
theorem t90_4 {N cl} {R} (K : KE R) (x0 x1 x2) : exec cl N c90_4 [(1, .loc U18 .no x0), (4, .v U2 x1), (5, .v .bool x2)] K = (g90_4 x0 x1 x2 (fun y0 y1 => K .normal [(1, .loc U18 .no y0), (15, .v .bool y1)])) := by
  kernel_rfl
def g90_5 {R : Type} (x0 : V16) (x1 : Bool) (k0 : Bool → Option R) : Option R :=
k0 (x0.2.1 == (2 : Int))
theorem t90_5 {N cl} {R} (K : KE R) (x0 x1) : exec cl N c90_5 [(1, .loc U18 .no x0), (15, .v .bool x1)] K = (g90_5 x0 x1 (fun y0 => K .normal [(2, .v .bool y0)])) := by
  kernel_rfl
theorem kp90_1 (x0 x1) : keep [1, 2] [(1, .loc U18 .no x0), (15, .v .bool x1)] = [(1, .loc U18 .no x0), (2, .dead)] := by kernel_rfl
theorem hb90_0 (x0 : V16) (x1 : Bool) : boolOf? (ent [(1, .loc U18 .no x0), (15, .v .bool x1)] (.t 15)) = some x1 := by kernel_rfl
theorem kp90_2 (x0) : keep [1, 2] [(1, .dead), (2, .v .bool x0)] = [(1, .dead), (2, .v .bool x0)] := by kernel_rfl
theorem kp90_3 (x0) : keep [1, 2] [(1, .loc U18 .no x0), (2, .dead)] = [(1, .loc U18 .no x0), (2, .dead)] := by kernel_rfl
theorem hb90_1 (x0 : V16) (x1 : Int) (x2 : Bool) : boolOf? (ent [(1, .loc U18 .no x0), (4, .v U2 x1), (5, .v .bool x2)] (.t 5)) = some x2 := by kernel_rfl
def g90_9 {R : Type} (x0 : V16) (k0 : Bool → Option R) : Option R :=
k0 (x0.2.1 == (0 : Int))
theorem t90_9 {N cl} {R} (K : KE R) (x0) : exec cl N c90_9 [(1, .loc U18 .no x0), (2, .dead)] K = (g90_9 x0 (fun y0 => K .normal [(2, .v .bool y0)])) := by
  kernel_rfl
def g90_10 {R : Type} (x0 : V16) (k0 : Bool → Option R) (k1 : Bool → Option R) : Option R :=
(g90_0 x0 (fun y0 => (g90_1 y0 (fun y0 y1 => (g90_2 y0 y1 (fun y0 y1 y2 => brB y2 (g90_3 y0 y1 y2 (fun y0 => ((fun y0 => (k0 y0)) y0))) (g90_4 y0 y1 y2 (fun y0 y1 => brB y1 (g90_5 y0 y1 (fun y0 => ((fun y0 => (k0 y0)) y0))) ((fun y0 => ((fun y0 => ((fun y0 => (g90_9 y0 (fun y0 => (k1 y0)))) y0)) y0)) y0)))))))))
theorem t90_10 {N cl} {R} (K : KE R) (x0) : exec cl N c90_10 [(0, .v U18 x0)] K = (g90_10 x0 (fun y0 => K .ret [(1, .dead), (2, .v .bool y0)]) (fun y0 => K .ret [(2, .v .bool y0)])) := by
  simp only [c90_10, exec_seq, seqK_normal, seqK_exit, seqK_ret, t90_0, t90_1, c90_8, exec_out, exec_block, t90_2, c90_7, exec_cond', hb90_1, Option.bind_some, brB_true, brB_false, t90_3, exec_ret, t90_4, c90_6, hb90_0, t90_5, exec_skip, kp90_0, kp90_1, kp90_2, kp90_3, blockK_normal, blockK_ret, blockK_eq, t90_9]
  rfl
theorem rk90_0 (y0 : Bool) : retK d90 .ret [(1, .dead), (2, .v .bool y0)] = some [.v .bool y0] := by kernel_rfl
theorem rk90_1 (y0 : Bool) : retK d90 .ret [(2, .v .bool y0)] = some [.v .bool y0] := by kernel_rfl
def g90 {R : Type} (x0 : V16) (k : Bool → Option R) : Option R :=
(g90_10 x0 (fun y0 => k y0) (fun y0 => k y0))
theorem gen90 {N : Nat} {cl : Cal} (x0 : V16) {R : Type} (k : List E → Option R) : exec cl N c90 (params 0 [.v U18 x0]) (fun e env => (retK d90 e env).bind k) = g90 x0 (fun (r0 : Bool) => k [.v .bool r0]) := by
  have e0 : params 0 [.v U18 x0] = [(0, .v U18 x0)] := by kernel_rfl
  simp only [c90, e0, t90_10, rk90_0, rk90_1, Option.bind_some]
  rfl
def ctr90 (S : V16 → Option (Bool)) : Ctr := { A := V16 × Unit, B := Bool, f := 90, enc := fun a => [.v U18 a.1], dec := (decC (decV U18) dec0), S := fun a => S a.1, ent := fun b => [.v .bool b], ok := (decV_cons (T := U18) (fun es b h => dec0_some h)) }
def S90 (N : Nat) (x0 : V16) : Option (Bool) := g90 x0 (fun (r0 : Bool) => some (r0))
def g93_0 {R : Type} (x0 : Int) (k0 : Int → Option R) : Option R :=
k0 x0
theorem t93_0 {N cl} {R} (K : KE R) (x0) : exec cl N c93_0 [(0, .v U3 x0)] K = (g93_0 x0 (fun y0 => K .normal [(0, .v U3 y0)])) := by
  kernel_rfl
def g93_1 {R : Type} (x0 : Int) (k0 : Bool → Option R) : Option R :=
brB (decide (x0 ≥ (97 : Int))) (brB (decide (x0 ≤ (122 : Int))) (k0 true) (brB (decide (x0 ≥ (48 : Int))) (brB (decide (x0 ≤ (57 : Int))) (k0 true) (brB (x0 == (95 : Int)) (k0 true) (brB (x0 == (94 : Int)) (k0 true) (k0 (x0 == (39 : Int)))))) (brB (x0 == (95 : Int)) (k0 true) (brB (x0 == (94 : Int)) (k0 true) (k0 (x0 == (39 : Int))))))) (brB (decide (x0 ≥ (48 : Int))) (brB (decide (x0 ≤ (57 : Int))) (k0 true) (brB (x0 == (95 : Int)) (k0 true) (brB (x0 == (94 : Int)) (k0 true) (k0 (x0 == (39 : Int)))))) (brB (x0 == (95 : Int)) (k0 true) (brB (x0 == (94 : Int)) (k0 true) (k0 (x0 == (39 : Int))))))
theorem t93_1 {N cl} {R} (K : KE R) (x0) : exec cl N c93_1 [(0, .v U3 x0)] K = (g93_1 x0 (fun y0 => K .normal [(2, .v .bool y0)])) := by
  kernel_rfl
def g93_2 {R : Type} (x0 : Int) (k0 : Bool → Option R) : Option R :=
(g93_0 x0 (fun y0 => (g93_1 y0 (fun y0 => (k0 y0)))))
theorem t93_2 {N cl} {R} (K : KE R) (x0) : exec cl N c93_2 [(0, .v U3 x0)] K = (g93_2 x0 (fun y0 => K .ret [(2, .v .bool y0)])) := by
  simp only [c93_2, exec_seq, seqK_normal, seqK_exit, seqK_ret, t93_0, t93_1, exec_ret]
  rfl
theorem rk93_0 (y0 : Bool) : retK d93 .ret [(2, .v .bool y0)] = some [.v .bool y0] := by kernel_rfl
def g93 {R : Type} (x0 : Int) (k : Bool → Option R) : Option R :=
(g93_2 x0 (fun y0 => k y0))
theorem gen93 {N : Nat} {cl : Cal} (x0 : Int) {R : Type} (k : List E → Option R) : exec cl N c93 (params 0 [.v U3 x0]) (fun e env => (retK d93 e env).bind k) = g93 x0 (fun (r0 : Bool) => k [.v .bool r0]) := by
  have e0 : params 0 [.v U3 x0] = [(0, .v U3 x0)] := by kernel_rfl
  simp only [c93, e0, t93_2, rk93_0, Option.bind_some]
  rfl
def ctr93 (S : Int → Option (Bool)) : Ctr := { A := Int × Unit, B := Bool, f := 93, enc := fun a => [.v U3 a.1], dec := (decC (decV U3) dec0), S := fun a => S a.1, ent := fun b => [.v .bool b], ok := (decV_cons (T := U3) (fun es b h => dec0_some h)) }
def S93 (N : Nat) (x0 : Int) : Option (Bool) := g93 x0 (fun (r0 : Bool) => some (r0))
def g92_0 {R : Type} (x0 : Int) (k0 : Int → Option R) : Option R :=
k0 x0
theorem t92_0 {N cl} {R} (K : KE R) (x0) : exec cl N c92_0 [(0, .v U3 x0)] K = (g92_0 x0 (fun y0 => K .normal [(0, .v U3 y0)])) := by
  kernel_rfl
def g92_1 {R : Type} (S93 : Int → Option (Bool)) (x0 : Int) (k0 : Bool → Option R) : Option R :=
(S93 x0).bind fun r320 =>
k0 (!r320)
theorem t92_1 {N cl} (S93) (h93 : (ctr93 S93).holds cl) {R} (K : KE R) (x0) : exec cl N c92_1 [(0, .v U3 x0)] K = (g92_1 S93 x0 (fun y0 => K .normal [(2, .v .bool y0)])) := by
  rw [← put_eq h93]
  kernel_rfl
def g92_2 {R : Type} (S93 : Int → Option (Bool)) (x0 : Int) (k0 : Bool → Option R) : Option R :=
(g92_0 x0 (fun y0 => (g92_1 S93 y0 (fun y0 => (k0 y0)))))
theorem t92_2 {N cl} (S93) (h93 : (ctr93 S93).holds cl) {R} (K : KE R) (x0) : exec cl N c92_2 [(0, .v U3 x0)] K = (g92_2 S93 x0 (fun y0 => K .ret [(2, .v .bool y0)])) := by
  simp only [c92_2, exec_seq, seqK_normal, seqK_exit, seqK_ret, t92_0, t92_1 S93 h93, exec_ret]
  rfl
theorem rk92_0 (y0 : Bool) : retK d92 .ret [(2, .v .bool y0)] = some [.v .bool y0] := by kernel_rfl
def g92 {R : Type} (S93 : Int → Option (Bool)) (x0 : Int) (k : Bool → Option R) : Option R :=
(g92_2 S93 x0 (fun y0 => k y0))
theorem gen92 {N : Nat} {cl : Cal} (S93 : Int → Option (Bool)) (h93 : (ctr93 S93).holds cl) (x0 : Int) {R : Type} (k : List E → Option R) : exec cl N c92 (params 0 [.v U3 x0]) (fun e env => (retK d92 e env).bind k) = g92 S93 x0 (fun (r0 : Bool) => k [.v .bool r0]) := by
  have e0 : params 0 [.v U3 x0] = [(0, .v U3 x0)] := by kernel_rfl
  simp only [c92, e0, t92_2 S93 h93, rk92_0, Option.bind_some]
  rfl
def ctr92 (S : Int → Option (Bool)) : Ctr := { A := Int × Unit, B := Bool, f := 92, enc := fun a => [.v U3 a.1], dec := (decC (decV U3) dec0), S := fun a => S a.1, ent := fun b => [.v .bool b], ok := (decV_cons (T := U3) (fun es b h => dec0_some h)) }
def S92 (N : Nat) (x0 : Int) : Option (Bool) := g92 (S93 N) x0 (fun (r0 : Bool) => some (r0))
def g108_0 {R : Type} (x0 : V1) (x1 : V12) (x2 : Bool) (k0 : V1 → V12 → Bool → Option R) : Option R :=
k0 x0 x1 x2
theorem t108_0 {N cl} {R} (K : KE R) (x0 x1 x2) : exec cl N c108_0 [(0, .v .str x0), (1, .v U12 x1), (2, .v .bool x2)] K = (g108_0 x0 x1 x2 (fun y0 y1 y2 => K .normal [(0, .v .str y0), (1, .v U12 y1), (2, .v .bool y2)])) := by
  kernel_rfl
def g108_1 {R : Type} (x0 : V1) (x1 : V12) (x2 : Bool) (k0 : V12 → Bool → V1 → Nat → Option R) : Option R :=
k0 x1 x2 x0 (0 : Nat)
theorem t108_1 {N cl} {R} (K : KE R) (x0 x1 x2) : exec cl N c108_1 [(0, .v .str x0), (1, .v U12 x1), (2, .v .bool x2)] K = (g108_1 x0 x1 x2 (fun y0 y1 y2 y3 => K .normal [(1, .v U12 y0), (2, .v .bool y1), (10, .it y2 y3)])) := by
  kernel_rfl
theorem kp108_0 (x0 x1 x2 x3) : keep [1, 2, 10] [(1, .v U12 x0), (2, .v .bool x1), (10, .it x2 x3)] = [(1, .v U12 x0), (2, .v .bool x1), (10, .it x2 x3)] := by kernel_rfl
def g108_2 {R : Type} (x0 : V12) (x1 : Bool) (x2 : V1) (x3 : Nat) (k0 : V12 → Bool → V1 → Nat → Bool → Int → Int → Bool → Option R) (k1 : V12 → Bool → V1 → Nat → Bool → Bool → Option R) : Option R :=
brB (decide (x3 < x2.length)) (k0 x0 x1 x2 (x3 + (Utf8.decode ⟨⟨x2⟩⟩ x3).2) true ((x3 : Nat) : Int) (((Utf8.decode ⟨⟨x2⟩⟩ x3).1 : Nat) : Int) true) (k1 x0 x1 x2 x3 false false)
theorem t108_2 {N cl} {R} (K : KE R) (x0 x1 x2 x3) : exec cl N c108_2 [(1, .v U12 x0), (2, .v .bool x1), (10, .it x2 x3)] K = (g108_2 x0 x1 x2 x3 (fun y0 y1 y2 y3 y4 y5 y6 y7 => K .normal [(1, .v U12 y0), (2, .v .bool y1), (10, .it y2 y3), (11, .tup [.v .bool y4, .v U2 y5, .v U3 y6]), (12, .v .bool y7)]) (fun y0 y1 y2 y3 y4 y5 => K .normal [(1, .v U12 y0), (2, .v .bool y1), (10, .it y2 y3), (11, .tup [.v .bool y4]), (12, .v .bool y5)])) := by
  kernel_rfl
theorem kp108_1 (x0 x1 x2 x3 x4 x5 x6 x7) : keep [1, 2, 10, 11] [(1, .v U12 x0), (2, .v .bool x1), (10, .it x2 x3), (11, .tup [.v .bool x4, .v U2 x5, .v U3 x6]), (12, .v .bool x7)] = [(1, .v U12 x0), (2, .v .bool x1), (10, .it x2 x3), (11, .tup [.v .bool x4, .v U2 x5, .v U3 x6])] := by kernel_rfl
theorem hb108_0 (x0 : V12) (x1 : Bool) (x2 : V1) (x3 : Nat) (x4 : Bool) (x5 : Int) (x6 : Int) (x7 : Bool) : boolOf? (ent [(1, .v U12 x0), (2, .v .bool x1), (10, .it x2 x3), (11, .tup [.v .bool x4, .v U2 x5, .v U3 x6]), (12, .v .bool x7)] (.t 12)) = some x7 := by kernel_rfl
def g108_4 {R : Type} (x0 : V12) (x1 : Bool) (x2 : V1) (x3 : Nat) (x4 : Bool) (x5 : Int) (x6 : Int) (k0 : V12 → Bool → Int → Int → V1 → Nat → Option R) : Option R :=
k0 x0 x1 x5 x6 x2 x3
theorem t108_4 {N cl} {R} (K : KE R) (x0 x1 x2 x3 x4 x5 x6) : exec cl N c108_4 [(1, .v U12 x0), (2, .v .bool x1), (10, .it x2 x3), (11, .tup [.v .bool x4, .v U2 x5, .v U3 x6])] K = (g108_4 x0 x1 x2 x3 x4 x5 x6 (fun y0 y1 y2 y3 y4 y5 => K .normal [(1, .v U12 y0), (2, .v .bool y1), (7, .v U2 y2), (8, .v U3 y3), (10, .it y4 y5)])) := by
  kernel_rfl
def g108_5 {R : Type} (x0 : V12) (x1 : Bool) (x2 : Int) (x3 : Int) (x4 : V1) (x5 : Nat) (k0 : V12 → Bool → Int → V1 → Nat → Bool → Option R) : Option R :=
(x0 (x3, ())).bind fun r326 =>
k0 x0 x1 x2 x4 x5 (r326 == x1)
theorem t108_5 {N cl} {R} (K : KE R) (x0 x1 x2 x3 x4 x5) : exec cl N c108_5 [(1, .v U12 x0), (2, .v .bool x1), (7, .v U2 x2), (8, .v U3 x3), (10, .it x4 x5)] K = (g108_5 x0 x1 x2 x3 x4 x5 (fun y0 y1 y2 y3 y4 y5 => K .normal [(1, .v U12 y0), (2, .v .bool y1), (7, .v U2 y2), (10, .it y3 y4), (19, .v .bool y5)])) := by
  kernel_rfl
def g108_6 {R : Type} (x0 : V12) (x1 : Bool) (x2 : Int) (x3 : V1) (x4 : Nat) (x5 : Bool) (k0 : Int → Option R) : Option R :=
k0 x2
theorem t108_6 {N cl} {R} (K : KE R) (x0 x1 x2 x3 x4 x5) : exec cl N c108_6 [(1, .v U12 x0), (2, .v .bool x1), (7, .v U2 x2), (10, .it x3 x4), (19, .v .bool x5)] K = (g108_6 x0 x1 x2 x3 x4 x5 (fun y0 => K .normal [(6, .v U2 y0)])) := by
  kernel_rfl
theorem kp108_2 (x0) : keep [1, 2, 6, 10] [(6, .v U2 x0)] = [(1, .dead), (2, .dead), (6, .v U2 x0), (10, .dead)] := by kernel_rfl
theorem kp108_3 (x0 x1 x2 x3 x4 x5) : keep [1, 2, 6, 10] [(1, .v U12 x0), (2, .v .bool x1), (7, .v U2 x2), (10, .it x3 x4), (19, .v .bool x5)] = [(1, .v U12 x0), (2, .v .bool x1), (6, .dead), (10, .it x3 x4)] := by kernel_rfl
theorem hb108_1 (x0 : V12) (x1 : Bool) (x2 : Int) (x3 : V1) (x4 : Nat) (x5 : Bool) : boolOf? (ent [(1, .v U12 x0), (2, .v .bool x1), (7, .v U2 x2), (10, .it x3 x4), (19, .v .bool x5)] (.t 19)) = some x5 := by kernel_rfl
theorem kp108_4 (x0) : keep [1, 2, 6, 10] [(1, .dead), (2, .dead), (6, .v U2 x0), (10, .dead)] = [(1, .dead), (2, .dead), (6, .v U2 x0), (10, .dead)] := by kernel_rfl
theorem kp108_5 (x0 x1 x2 x3) : keep [1, 2, 6, 10] [(1, .v U12 x0), (2, .v .bool x1), (6, .dead), (10, .it x2 x3)] = [(1, .v U12 x0), (2, .v .bool x1), (6, .dead), (10, .it x2 x3)] := by kernel_rfl
theorem kp108_6 (x0 x1 x2 x3 x4 x5) : keep [1, 2, 10, 11] [(1, .v U12 x0), (2, .v .bool x1), (10, .it x2 x3), (11, .tup [.v .bool x4]), (12, .v .bool x5)] = [(1, .v U12 x0), (2, .v .bool x1), (10, .it x2 x3), (11, .tup [.v .bool x4])] := by kernel_rfl
theorem hb108_2 (x0 : V12) (x1 : Bool) (x2 : V1) (x3 : Nat) (x4 : Bool) (x5 : Bool) : boolOf? (ent [(1, .v U12 x0), (2, .v .bool x1), (10, .it x2 x3), (11, .tup [.v .bool x4]), (12, .v .bool x5)] (.t 12)) = some x5 := by kernel_rfl
def g108_4b {R : Type} (x0 : V12) (x1 : Bool) (x2 : V1) (x3 : Nat) (x4 : Bool) : Option R :=
none /- extract 1 of 1 -/
theorem t108_4b {N cl} {R} (K : KE R) (x0 x1 x2 x3 x4) : exec cl N c108_4 [(1, .v U12 x0), (2, .v .bool x1), (10, .it x2 x3), (11, .tup [.v .bool x4])] K = (g108_4b x0 x1 x2 x3 x4) := by
  kernel_rfl
def g108_9 {R : Type} (x0 : V12) (x1 : Bool) (x2 : V1) (x3 : Nat) (k0 : Int → Option R) (k1 : V12 → Bool → V1 → Nat → Option R) (k2 : V12 → Bool → V1 → Nat → Bool → Int → Int → Option R) (k3 : V12 → Bool → V1 → Nat → Bool → Option R) : Option R :=
(g108_2 x0 x1 x2 x3 (fun y0 y1 y2 y3 y4 y5 y6 y7 => brB y7 ((fun y0 y1 y2 y3 y4 y5 y6 => (g108_4 y0 y1 y2 y3 y4 y5 y6 (fun y0 y1 y2 y3 y4 y5 => (g108_5 y0 y1 y2 y3 y4 y5 (fun y0 y1 y2 y3 y4 y5 => brB y5 (g108_6 y0 y1 y2 y3 y4 y5 (fun y0 => ((fun y0 => (k0 y0)) y0))) (k1 y0 y1 y3 y4)))))) y0 y1 y2 y3 y4 y5 y6) (k2 y0 y1 y2 y3 y4 y5 y6)) (fun y0 y1 y2 y3 y4 y5 => brB y5 (g108_4b y0 y1 y2 y3 y4) (k3 y0 y1 y2 y3 y4)))
theorem t108_9 {N cl} {R} (K : KE R) (x0 x1 x2 x3) : exec cl N c108_9 [(1, .v U12 x0), (2, .v .bool x1), (10, .it x2 x3)] K = (g108_9 x0 x1 x2 x3 (fun y0 => K .ret [(1, .dead), (2, .dead), (6, .v U2 y0), (10, .dead)]) (fun y0 y1 y2 y3 => K .normal [(1, .v U12 y0), (2, .v .bool y1), (6, .dead), (10, .it y2 y3)]) (fun y0 y1 y2 y3 y4 y5 y6 => K (.exit 0) [(1, .v U12 y0), (2, .v .bool y1), (10, .it y2 y3), (11, .tup [.v .bool y4, .v U2 y5, .v U3 y6])]) (fun y0 y1 y2 y3 y4 => K (.exit 0) [(1, .v U12 y0), (2, .v .bool y1), (10, .it y2 y3), (11, .tup [.v .bool y4])])) := by
  simp only [c108_9, exec_seq, seqK_normal, seqK_exit, seqK_ret, t108_2, c108_3, exec_out, exec_cond', hb108_0, Option.bind_some, brB_true, brB_false, exec_skip, exec_exit, kp108_1, c108_8, exec_block, t108_4, t108_5, c108_7, hb108_1, t108_6, exec_ret, kp108_2, kp108_3, blockK_normal, blockK_ret, blockK_eq, kp108_4, kp108_5, hb108_2, kp108_6, t108_4b]
  rfl
theorem kp108_7 (x0 x1 x2 x3) : keep [1, 2, 10] [(1, .v U12 x0), (2, .v .bool x1), (6, .dead), (10, .it x2 x3)] = [(1, .v U12 x0), (2, .v .bool x1), (10, .it x2 x3)] := by kernel_rfl
def l108_10 {R : Type} (k0 : Int → Option R) (k1 : V12 → Bool → V1 → Nat → Bool → Int → Int → Option R) (k2 : V12 → Bool → V1 → Nat → Bool → Option R) : Nat → V12 → Bool → V1 → Nat → Option R
  | 0, _, _, _, _ => none
  | m + 1, x0, x1, x2, x3 => (g108_9 x0 x1 x2 x3 k0 (fun y0 y1 y2 y3 => l108_10 k0 k1 k2 m y0 y1 y2 y3) k1 k2)
theorem lt108_10 {N cl} {R} (K : KE R) : ∀ (m) (x0 x1 x2 x3), iter [1, 2, 10] (fun env K => exec cl N c108_9 env K) K m [(1, .v U12 x0), (2, .v .bool x1), (10, .it x2 x3)] = l108_10 (fun y0 => K .ret [(1, .dead), (2, .dead), (6, .v U2 y0), (10, .dead)]) (fun y0 y1 y2 y3 y4 y5 y6 => K (.exit 0) [(1, .v U12 y0), (2, .v .bool y1), (10, .it y2 y3), (11, .tup [.v .bool y4, .v U2 y5, .v U3 y6])]) (fun y0 y1 y2 y3 y4 => K (.exit 0) [(1, .v U12 y0), (2, .v .bool y1), (10, .it y2 y3), (11, .tup [.v .bool y4])]) m x0 x1 x2 x3 := by
  intro m
  induction m with
  | zero => intros; rfl
  | succ m ih =>
    intro x0 x1 x2 x3
    simp only [iter_succ, t108_9, loopK_normal, loopK_exit, loopK_ret, kp108_7, ih]
    rfl
theorem kp108_8 (x0) : keep [6] [(1, .dead), (2, .dead), (6, .v U2 x0), (10, .dead)] = [(6, .v U2 x0)] := by kernel_rfl
theorem kp108_9 (x0 x1 x2 x3 x4 x5 x6) : keep [6] [(1, .v U12 x0), (2, .v .bool x1), (10, .it x2 x3), (11, .tup [.v .bool x4, .v U2 x5, .v U3 x6])] = [(6, .dead)] := by kernel_rfl
theorem kp108_10 (x0 x1 x2 x3 x4) : keep [6] [(1, .v U12 x0), (2, .v .bool x1), (10, .it x2 x3), (11, .tup [.v .bool x4])] = [(6, .dead)] := by kernel_rfl
def g108_10 {R : Type} (N : Nat) (x0 : V12) (x1 : Bool) (x2 : V1) (x3 : Nat) (k0 : Int → Option R) (k1 : Option R) : Option R :=
l108_10 (fun y0 => k0 y0) (fun y0 y1 y2 y3 y4 y5 y6 => k1) (fun y0 y1 y2 y3 y4 => k1) N x0 x1 x2 x3
theorem t108_10 {N cl} {R} (K : KE R) (x0 x1 x2 x3) : exec cl N c108_10 [(1, .v U12 x0), (2, .v .bool x1), (10, .it x2 x3)] K = (g108_10 N x0 x1 x2 x3 (fun y0 => K .ret [(6, .v U2 y0)]) (K (.exit 0) [(6, .dead)])) := by
  simp only [c108_10, exec_out, exec_loop, kp108_0, lt108_10, kp108_10, kp108_8, kp108_9]
  rfl
theorem kp108_11 (x0) : keep [6] [(6, .v U2 x0)] = [(6, .v U2 x0)] := by kernel_rfl
theorem kp108_12 : keep [6] [(6, .dead)] = [(6, .dead)] := by kernel_rfl
def g108_12 {R : Type} (k0 : Int → Option R) : Option R :=
k0 (-1 : Int)
theorem t108_12 {N cl} {R} (K : KE R) : exec cl N c108_12 [(6, .dead)] K = (g108_12 (fun y0 => K .normal [(6, .v U2 y0)])) := by
  kernel_rfl
def g108_13 {R : Type} (N : Nat) (x0 : V1) (x1 : V12) (x2 : Bool) (k0 : Int → Option R) : Option R :=
(g108_0 x0 x1 x2 (fun y0 y1 y2 => (g108_1 y0 y1 y2 (fun y0 y1 y2 y3 => (g108_10 N y0 y1 y2 y3 (fun y0 => (k0 y0)) (g108_12 (fun y0 => (k0 y0))))))))
theorem t108_13 {N cl} {R} (K : KE R) (x0 x1 x2) : exec cl N c108_13 [(0, .v .str x0), (1, .v U12 x1), (2, .v .bool x2)] K = (g108_13 N x0 x1 x2 (fun y0 => K .ret [(6, .v U2 y0)])) := by
  simp only [c108_13, exec_seq, seqK_normal, seqK_exit, seqK_ret, t108_0, t108_1, c108_11, exec_out, exec_block, t108_10, blockK_normal, blockK_ret, blockK_eq, kp108_11, kp108_12, t108_12, exec_ret]
  rfl
theorem rk108_0 (y0 : Int) : retK d108 .ret [(6, .v U2 y0)] = some [.v U2 y0] := by kernel_rfl
def g108 {R : Type} (N : Nat) (x0 : V1) (x1 : V12) (x2 : Bool) (k : Int → Option R) : Option R :=
(g108_13 N x0 x1 x2 (fun y0 => k y0))
theorem gen108 {N : Nat} {cl : Cal} (x0 : V1) (x1 : V12) (x2 : Bool) {R : Type} (k : List E → Option R) : exec cl N c108 (params 0 [.v .str x0, .v U12 x1, .v .bool x2]) (fun e env => (retK d108 e env).bind k) = g108 N x0 x1 x2 (fun (r0 : Int) => k [.v U2 r0]) := by
  have e0 : params 0 [.v .str x0, .v U12 x1, .v .bool x2] = [(0, .v .str x0), (1, .v U12 x1), (2, .v .bool x2)] := by kernel_rfl
  simp only [c108, e0, t108_13, rk108_0, Option.bind_some]
  rfl
def ctr108 (S : V1 → V12 → Bool → Option (Int)) : Ctr := { A := V1 × V12 × Bool × Unit, B := Int, f := 108, enc := fun a => [.v .str a.1, .v U12 a.2.1, .v .bool a.2.2.1], dec := (decC (decV .str) (decC (decV U12) (decC (decV .bool) dec0))), S := fun a => S a.1 a.2.1 a.2.2.1, ent := fun b => [.v U2 b], ok := (decV_cons (T := .str) (decV_cons (T := U12) (decV_cons (T := .bool) (fun es b h => dec0_some h)))) }
def S108 (N : Nat) (x0 : V1) (x1 : V12) (x2 : Bool) : Option (Int) := g108 N x0 x1 x2 (fun (r0 : Int) => some (r0))
def g101_0 {R : Type} (x0 : V1) (x1 : V12) (k0 : V1 → V12 → Option R) : Option R :=
k0 x0 x1
theorem t101_0 {N cl} {R} (K : KE R) (x0 x1) : exec cl N c101_0 [(0, .v .str x0), (1, .v U12 x1)] K = (g101_0 x0 x1 (fun y0 y1 => K .normal [(0, .v .str y0), (1, .v U12 y1)])) := by
  kernel_rfl
def g101_1 {R : Type} (S108 : V1 → V12 → Bool → Option (Int)) (x0 : V1) (x1 : V12) (k0 : Int → Option R) : Option R :=
(S108 x0 x1 true).bind fun r328 =>
k0 r328
theorem t101_1 {N cl} (S108) (h108 : (ctr108 S108).holds cl) {R} (K : KE R) (x0 x1) : exec cl N c101_1 [(0, .v .str x0), (1, .v U12 x1)] K = (g101_1 S108 x0 x1 (fun y0 => K .normal [(4, .v U2 y0)])) := by
  rw [← put_eq h108]
  kernel_rfl
def g101_2 {R : Type} (S108 : V1 → V12 → Bool → Option (Int)) (x0 : V1) (x1 : V12) (k0 : Int → Option R) : Option R :=
(g101_0 x0 x1 (fun y0 y1 => (g101_1 S108 y0 y1 (fun y0 => (k0 y0)))))
theorem t101_2 {N cl} (S108) (h108 : (ctr108 S108).holds cl) {R} (K : KE R) (x0 x1) : exec cl N c101_2 [(0, .v .str x0), (1, .v U12 x1)] K = (g101_2 S108 x0 x1 (fun y0 => K .ret [(4, .v U2 y0)])) := by
  simp only [c101_2, exec_seq, seqK_normal, seqK_exit, seqK_ret, t101_0, t101_1 S108 h108, exec_ret]
  rfl
theorem rk101_0 (y0 : Int) : retK d101 .ret [(4, .v U2 y0)] = some [.v U2 y0] := by kernel_rfl
def g101 {R : Type} (S108 : V1 → V12 → Bool → Option (Int)) (x0 : V1) (x1 : V12) (k : Int → Option R) : Option R :=
(g101_2 S108 x0 x1 (fun y0 => k y0))
theorem gen101 {N : Nat} {cl : Cal} (S108 : V1 → V12 → Bool → Option (Int)) (h108 : (ctr108 S108).holds cl) (x0 : V1) (x1 : V12) {R : Type} (k : List E → Option R) : exec cl N c101 (params 0 [.v .str x0, .v U12 x1]) (fun e env => (retK d101 e env).bind k) = g101 S108 x0 x1 (fun (r0 : Int) => k [.v U2 r0]) := by
  have e0 : params 0 [.v .str x0, .v U12 x1] = [(0, .v .str x0), (1, .v U12 x1)] := by kernel_rfl
  simp only [c101, e0, t101_2 S108 h108, rk101_0, Option.bind_some]
  rfl
def ctr101 (S : V1 → V12 → Option (Int)) : Ctr := { A := V1 × V12 × Unit, B := Int, f := 101, enc := fun a => [.v .str a.1, .v U12 a.2.1], dec := (decC (decV .str) (decC (decV U12) dec0)), S := fun a => S a.1 a.2.1, ent := fun b => [.v U2 b], ok := (decV_cons (T := .str) (decV_cons (T := U12) (fun es b h => dec0_some h))) }
def S101 (N : Nat) (x0 : V1) (x1 : V12) : Option (Int) := g101 (S108 N) x0 x1 (fun (r0 : Int) => some (r0))
def g91_0 {R : Type} (x0 : V1) (x1 : V12) (k0 : V1 → V12 → Option R) : Option R :=
k0 x0 x1
theorem t91_0 {N cl} {R} (K : KE R) (x0 x1) : exec cl N c91_0 [(0, .v .str x0), (1, .v U12 x1)] K = (g91_0 x0 x1 (fun y0 y1 => K .normal [(0, .v .str y0), (1, .v U12 y1)])) := by
  kernel_rfl
def g91_1 {R : Type} (S101 : V1 → V12 → Option (Int)) (x0 : V1) (x1 : V12) (k0 : Bool → Option R) : Option R :=
(S101 x0 x1).bind fun r331 =>
k0 (decide (r331 ≥ (0 : Int)))
theorem t91_1 {N cl} (S101) (h101 : (ctr101 S101).holds cl) {R} (K : KE R) (x0 x1) : exec cl N c91_1 [(0, .v .str x0), (1, .v U12 x1)] K = (g91_1 S101 x0 x1 (fun y0 => K .normal [(4, .v .bool y0)])) := by
  rw [← put_eq h101]
  kernel_rfl
def g91_2 {R : Type} (S101 : V1 → V12 → Option (Int)) (x0 : V1) (x1 : V12) (k0 : Bool → Option R) : Option R :=
(g91_0 x0 x1 (fun y0 y1 => (g91_1 S101 y0 y1 (fun y0 => (k0 y0)))))
theorem t91_2 {N cl} (S101) (h101 : (ctr101 S101).holds cl) {R} (K : KE R) (x0 x1) : exec cl N c91_2 [(0, .v .str x0), (1, .v U12 x1)] K = (g91_2 S101 x0 x1 (fun y0 => K .ret [(4, .v .bool y0)])) := by
  simp only [c91_2, exec_seq, seqK_normal, seqK_exit, seqK_ret, t91_0, t91_1 S101 h101, exec_ret]
  rfl
theorem rk91_0 (y0 : Bool) : retK d91 .ret [(4, .v .bool y0)] = some [.v .bool y0] := by kernel_rfl
def g91 {R : Type} (S101 : V1 → V12 → Option (Int)) (x0 : V1) (x1 : V12) (k : Bool → Option R) : Option R :=
(g91_2 S101 x0 x1 (fun y0 => k y0))
theorem gen91 {N : Nat} {cl : Cal} (S101 : V1 → V12 → Option (Int)) (h101 : (ctr101 S101).holds cl) (x0 : V1) (x1 : V12) {R : Type} (k : List E → Option R) : exec cl N c91 (params 0 [.v .str x0, .v U12 x1]) (fun e env => (retK d91 e env).bind k) = g91 S101 x0 x1 (fun (r0 : Bool) => k [.v .bool r0]) := by
  have e0 : params 0 [.v .str x0, .v U12 x1] = [(0, .v .str x0), (1, .v U12 x1)] := by kernel_rfl
  simp only [c91, e0, t91_2 S101 h101, rk91_0, Option.bind_some]
  rfl
def ctr91 (S : V1 → V12 → Option (Bool)) : Ctr := { A := V1 × V12 × Unit, B := Bool, f := 91, enc := fun a => [.v .str a.1, .v U12 a.2.1], dec := (decC (decV .str) (decC (decV U12) dec0)), S := fun a => S a.1 a.2.1, ent := fun b => [.v .bool b], ok := (decV_cons (T := .str) (decV_cons (T := U12) (fun es b h => dec0_some h))) }
def S91 (N : Nat) (x0 : V1) (x1 : V12) : Option (Bool) := g91 (S101 N) x0 x1 (fun (r0 : Bool) => some (r0))
def g75_0 {R : Type} (x0 : V16) (k0 : V16 → Option R) : Option R :=
k0 x0
theorem t75_0 {N cl} {R} (K : KE R) (x0) : exec cl N c75_0 [(0, .v U18 x0)] K = (g75_0 x0 (fun y0 => K .normal [(1, .loc U18 .no y0)])) := by
  kernel_rfl
def g75_1 {R : Type} (x0 : V16) (k0 : V16 → Bool → Option R) : Option R :=
brB (decide (x0.1 < (1 : Int))) (k0 x0 true) (k0 x0 (decide (x0.1 > (9 : Int))))
theorem t75_1 {N cl} {R} (K : KE R) (x0) : exec cl N c75_1 [(1, .loc U18 .no x0)] K = (g75_1 x0 (fun y0 y1 => K .normal [(1, .loc U18 .no y0), (3, .v .bool y1)])) := by
  kernel_rfl
def g75_2 {R : Type} (x0 : V16) (x1 : Bool) (k0 : Int → Option R) : Option R :=
k0 (1 : Int)
theorem t75_2 {N cl} {R} (K : KE R) (x0 x1) : exec cl N c75_2 [(1, .loc U18 .no x0), (3, .v .bool x1)] K = (g75_2 x0 x1 (fun y0 => K .normal [(2, .v U2 y0)])) := by
  kernel_rfl
theorem kp75_0 (x0) : keep [2] [(2, .v U2 x0)] = [(2, .v U2 x0)] := by kernel_rfl
def g75_3 {R : Type} (S90 : V16 → Option (Bool)) (x0 : V16) (x1 : Bool) (k0 : V16 → Bool → Option R) : Option R :=
(S90 x0).bind fun r336 =>
k0 x0 (!r336)
theorem t75_3 {N cl} (S90) (h90 : (ctr90 S90).holds cl) {R} (K : KE R) (x0 x1) : exec cl N c75_3 [(1, .loc U18 .no x0), (3, .v .bool x1)] K = (g75_3 S90 x0 x1 (fun y0 y1 => K .normal [(1, .loc U18 .no y0), (12, .v .bool y1)])) := by
  rw [← put_eq h90]
  kernel_rfl
def g75_4 {R : Type} (x0 : V16) (x1 : Bool) (k0 : Int → Option R) : Option R :=
k0 (6 : Int)
theorem t75_4 {N cl} {R} (K : KE R) (x0 x1) : exec cl N c75_4 [(1, .loc U18 .no x0), (12, .v .bool x1)] K = (g75_4 x0 x1 (fun y0 => K .normal [(2, .v U2 y0)])) := by
  kernel_rfl
def g75_5 {R : Type} (x0 : V16) (x1 : Bool) (k0 : V16 → Bool → Option R) : Option R :=
k0 x0 (x0.2.2.1 == ([] : List UInt8))
theorem t75_5 {N cl} {R} (K : KE R) (x0 x1) : exec cl N c75_5 [(1, .loc U18 .no x0), (12, .v .bool x1)] K = (g75_5 x0 x1 (fun y0 y1 => K .normal [(1, .loc U18 .no y0), (16, .v .bool y1)])) := by
  kernel_rfl
def g75_6 {R : Type} (x0 : V16) (x1 : Bool) (k0 : Int → Option R) : Option R :=
k0 (7 : Int)
theorem t75_6 {N cl} {R} (K : KE R) (x0 x1) : exec cl N c75_6 [(1, .loc U18 .no x0), (16, .v .bool x1)] K = (g75_6 x0 x1 (fun y0 => K .normal [(2, .v U2 y0)])) := by
  kernel_rfl
def g75_7 {R : Type} (x0 : V16) (x1 : Bool) (k0 : V16 → Bool → Option R) : Option R :=
k0 x0 (decide ((x0.2.2.1.length : Int) > (8 : Int)))
theorem t75_7 {N cl} {R} (K : KE R) (x0 x1) : exec cl N c75_7 [(1, .loc U18 .no x0), (16, .v .bool x1)] K = (g75_7 x0 x1 (fun y0 y1 => K .normal [(1, .loc U18 .no y0), (20, .v .bool y1)])) := by
  kernel_rfl
def g75_8 {R : Type} (x0 : V16) (x1 : Bool) (k0 : Int → Option R) : Option R :=
k0 (3 : Int)
theorem t75_8 {N cl} {R} (K : KE R) (x0 x1) : exec cl N c75_8 [(1, .loc U18 .no x0), (20, .v .bool x1)] K = (g75_8 x0 x1 (fun y0 => K .normal [(2, .v U2 y0)])) := by
  kernel_rfl
def g75_9 {R : Type} (S91 : V1 → V12 → Option (Bool)) (S92 : Int → Option (Bool)) (x0 : V16) (x1 : Bool) (k0 : Bool → Option R) : Option R :=
(S91 x0.2.2.1 (fun (x339 : V2) => ((S92 x339.1).bind fun b340 => some [.v .bool b340]).bind (unE .bool))).bind fun r341 =>
k0 r341
theorem t75_9 {N cl} (S91) (S92) (h91 : (ctr91 S91).holds cl) (h92 : (ctr92 S92).holds cl) {R} (K : KE R) (x0 x1) : exec cl N c75_9 [(1, .loc U18 .no x0), (20, .v .bool x1)] K = (g75_9 S91 S92 x0 x1 (fun y0 => K .normal [(25, .v .bool y0)])) := by
  rw [← put_eq h91]
  rw [← put_eq h92]
  kernel_rfl
def g75_10 {R : Type} (x0 : Bool) (k0 : Int → Option R) : Option R :=
k0 (2 : Int)
theorem t75_10 {N cl} {R} (K : KE R) (x0) : exec cl N c75_10 [(25, .v .bool x0)] K = (g75_10 x0 (fun y0 => K .normal [(2, .v U2 y0)])) := by
  kernel_rfl
theorem kp75_1 (x0) : keep [2] [(25, .v .bool x0)] = [(2, .dead)] := by kernel_rfl
theorem hb75_0 (x0 : Bool) : boolOf? (ent [(25, .v .bool x0)] (.t 25)) = some x0 := by kernel_rfl
theorem kp75_2 : keep [2] [(2, .dead)] = [(2, .dead)] := by kernel_rfl
theorem hb75_1 (x0 : V16) (x1 : Bool) : boolOf? (ent [(1, .loc U18 .no x0), (20, .v .bool x1)] (.t 20)) = some x1 := by kernel_rfl
theorem hb75_2 (x0 : V16) (x1 : Bool) : boolOf? (ent [(1, .loc U18 .no x0), (16, .v .bool x1)] (.t 16)) = some x1 := by kernel_rfl
theorem hb75_3 (x0 : V16) (x1 : Bool) : boolOf? (ent [(1, .loc U18 .no x0), (12, .v .bool x1)] (.t 12)) = some x1 := by kernel_rfl
theorem hb75_4 (x0 : V16) (x1 : Bool) : boolOf? (ent [(1, .loc U18 .no x0), (3, .v .bool x1)] (.t 3)) = some x1 := by kernel_rfl
def g75_17 {R : Type} (k0 : Int → Option R) : Option R :=
k0 (0 : Int)
theorem t75_17 {N cl} {R} (K : KE R) : exec cl N c75_17 [(2, .dead)] K = (g75_17 (fun y0 => K .normal [(2, .v U2 y0)])) := by
  kernel_rfl
def g75_18 {R : Type} (S90 : V16 → Option (Bool)) (S91 : V1 → V12 → Option (Bool)) (S92 : Int → Option (Bool)) (x0 : V16) (k0 : Int → Option R) : Option R :=
(g75_0 x0 (fun y0 => (g75_1 y0 (fun y0 y1 => brB y1 (g75_2 y0 y1 (fun y0 => ((fun y0 => (k0 y0)) y0))) (g75_3 S90 y0 y1 (fun y0 y1 => brB y1 (g75_4 y0 y1 (fun y0 => ((fun y0 => (k0 y0)) y0))) (g75_5 y0 y1 (fun y0 y1 => brB y1 (g75_6 y0 y1 (fun y0 => ((fun y0 => (k0 y0)) y0))) (g75_7 y0 y1 (fun y0 y1 => brB y1 (g75_8 y0 y1 (fun y0 => ((fun y0 => (k0 y0)) y0))) (g75_9 S91 S92 y0 y1 (fun y0 => brB y0 (g75_10 y0 (fun y0 => ((fun y0 => (k0 y0)) y0))) (g75_17 (fun y0 => (k0 y0)))))))))))))))
theorem t75_18 {N cl} (S90) (S91) (S92) (h90 : (ctr90 S90).holds cl) (h91 : (ctr91 S91).holds cl) (h92 : (ctr92 S92).holds cl) {R} (K : KE R) (x0) : exec cl N c75_18 [(0, .v U18 x0)] K = (g75_18 S90 S91 S92 x0 (fun y0 => K .ret [(2, .v U2 y0)])) := by
  simp only [c75_18, exec_seq, seqK_normal, seqK_exit, seqK_ret, t75_0, c75_16, exec_out, exec_block, t75_1, c75_15, exec_cond', hb75_4, Option.bind_some, brB_true, brB_false, t75_2, exec_ret, t75_3 S90 h90, c75_14, hb75_3, t75_4, t75_5, c75_13, hb75_2, t75_6, t75_7, c75_12, hb75_1, t75_8, t75_9 S91 S92 h91 h92, c75_11, hb75_0, t75_10, exec_skip, kp75_0, kp75_1, kp75_2, blockK_normal, blockK_ret, blockK_eq, t75_17]
  rfl
theorem rk75_0 (y0 : Int) : retK d75 .ret [(2, .v U2 y0)] = some [.v U2 y0] := by kernel_rfl
def g75 {R : Type} (S90 : V16 → Option (Bool)) (S91 : V1 → V12 → Option (Bool)) (S92 : Int → Option (Bool)) (x0 : V16) (k : Int → Option R) : Option R :=
(g75_18 S90 S91 S92 x0 (fun y0 => k y0))
theorem gen75 {N : Nat} {cl : Cal} (S90 : V16 → Option (Bool)) (S91 : V1 → V12 → Option (Bool)) (S92 : Int → Option (Bool)) (h90 : (ctr90 S90).holds cl) (h91 : (ctr91 S91).holds cl) (h92 : (ctr92 S92).holds cl) (x0 : V16) {R : Type} (k : List E → Option R) : exec cl N c75 (params 0 [.v U18 x0]) (fun e env => (retK d75 e env).bind k) = g75 S90 S91 S92 x0 (fun (r0 : Int) => k [.v U2 r0]) := by
  have e0 : params 0 [.v U18 x0] = [(0, .v U18 x0)] := by kernel_rfl
  simp only [c75, e0, t75_18 S90 S91 S92 h90 h91 h92, rk75_0, Option.bind_some]
  rfl
def ctr75 (S : V16 → Option (Int)) : Ctr := { A := V16 × Unit, B := Int, f := 75, enc := fun a => [.v U18 a.1], dec := (decC (decV U18) dec0), S := fun a => S a.1, ent := fun b => [.v U2 b], ok := (decV_cons (T := U18) (fun es b h => dec0_some h)) }
def S75 (N : Nat) (x0 : V16) : Option (Int) := g75 (S90 N) (S91 N) (S92 N) x0 (fun (r0 : Int) => some (r0))
def g55_0 {R : Type} (x0 : V18) (k0 : V18 → Option R) : Option R :=
k0 x0
theorem t55_0 {N cl} {R} (K : KE R) (x0) : exec cl N c55_0 [(0, .v U21 x0)] K = (g55_0 x0 (fun y0 => K .normal [(0, .v U21 y0)])) := by
  kernel_rfl
def g55_1 {R : Type} (x0 : V18) (k0 : V18 → Bool → Option R) : Option R :=
k0 x0 (decide ((x0.length : Int) > (200 : Int)))
theorem t55_1 {N cl} {R} (K : KE R) (x0) : exec cl N c55_1 [(0, .v U21 x0)] K = (g55_1 x0 (fun y0 y1 => K .normal [(0, .v U21 y0), (8, .v .bool y1)])) := by
  kernel_rfl
def g55_2 {R : Type} (x0 : V18) (x1 : Bool) (k0 : Int → Option R) : Option R :=
k0 (3 : Int)
theorem t55_2 {N cl} {R} (K : KE R) (x0 x1) : exec cl N c55_2 [(0, .v U21 x0), (8, .v .bool x1)] K = (g55_2 x0 x1 (fun y0 => K .normal [(2, .v U2 y0)])) := by
  kernel_rfl
theorem kp55_0 (x0) : keep [0, 2] [(2, .v U2 x0)] = [(0, .dead), (2, .v U2 x0)] := by kernel_rfl
theorem kp55_1 (x0 x1) : keep [0, 2] [(0, .v U21 x0), (8, .v .bool x1)] = [(0, .v U21 x0), (2, .dead)] := by kernel_rfl
theorem hb55_0 (x0 : V18) (x1 : Bool) : boolOf? (ent [(0, .v U21 x0), (8, .v .bool x1)] (.t 8)) = some x1 := by kernel_rfl
def g55_4 {R : Type} (x0 : V18) (k0 : V18 → Int → Int → Option R) : Option R :=
k0 x0 (x0.length : Int) (0 : Int)
theorem t55_4 {N cl} {R} (K : KE R) (x0) : exec cl N c55_4 [(0, .v U21 x0), (2, .dead)] K = (g55_4 x0 (fun y0 y1 y2 => K .normal [(9, .v U21 y0), (10, .v U2 y1), (11, .v U2 y2)])) := by
  kernel_rfl
theorem kp55_2 (x0 x1 x2) : keep [9, 10, 11] [(9, .v U21 x0), (10, .v U2 x1), (11, .v U2 x2)] = [(9, .v U21 x0), (10, .v U2 x1), (11, .v U2 x2)] := by kernel_rfl
def g55_5 {R : Type} (x0 : V18) (x1 : Int) (x2 : Int) (k0 : V18 → Int → Int → Bool → Option R) : Option R :=
k0 x0 x1 x2 (decide (x2 < x1))
theorem t55_5 {N cl} {R} (K : KE R) (x0 x1 x2) : exec cl N c55_5 [(9, .v U21 x0), (10, .v U2 x1), (11, .v U2 x2)] K = (g55_5 x0 x1 x2 (fun y0 y1 y2 y3 => K .normal [(9, .v U21 y0), (10, .v U2 y1), (11, .v U2 y2), (12, .v .bool y3)])) := by
  kernel_rfl
theorem kp55_3 (x0 x1 x2 x3) : keep [9, 10, 11] [(9, .v U21 x0), (10, .v U2 x1), (11, .v U2 x2), (12, .v .bool x3)] = [(9, .v U21 x0), (10, .v U2 x1), (11, .v U2 x2)] := by kernel_rfl
theorem hb55_1 (x0 : V18) (x1 : Int) (x2 : Int) (x3 : Bool) : boolOf? (ent [(9, .v U21 x0), (10, .v U2 x1), (11, .v U2 x2), (12, .v .bool x3)] (.t 12)) = some x3 := by kernel_rfl
def g55_7 {R : Type} (x0 : V18) (x1 : Int) (x2 : Int) (k0 : V16 → V18 → Int → Int → Option R) : Option R :=
if 0 ≤ x2 ∧ x2 < (x0.length : Int) then
k0 (x0.getD x2.toNat ((0 : Int), ((0 : Int), ([], ())))) x0 x1 x2
else none
theorem t55_7 {N cl} {R} (K : KE R) (x0 x1 x2) : exec cl N c55_7 [(9, .v U21 x0), (10, .v U2 x1), (11, .v U2 x2)] K = (g55_7 x0 x1 x2 (fun y0 y1 y2 y3 => K .normal [(4, .loc U18 .no y0), (9, .v U21 y1), (10, .v U2 y2), (11, .v U2 y3)])) := by
  kernel_rfl
def g55_8 {R : Type} (S75 : V16 → Option (Int)) (x0 : V16) (x1 : V18) (x2 : Int) (x3 : Int) (k0 : Int → V18 → Int → Int → Option R) : Option R :=
(S75 x0).bind fun r347 =>
k0 r347 x1 x2 x3
theorem t55_8 {N cl} (S75) (h75 : (ctr75 S75).holds cl) {R} (K : KE R) (x0 x1 x2 x3) : exec cl N c55_8 [(4, .loc U18 .no x0), (9, .v U21 x1), (10, .v U2 x2), (11, .v U2 x3)] K = (g55_8 S75 x0 x1 x2 x3 (fun y0 y1 y2 y3 => K .normal [(5, .v U2 y0), (9, .v U21 y1), (10, .v U2 y2), (11, .v U2 y3)])) := by
  rw [← put_eq h75]
  kernel_rfl
def g55_9 {R : Type} (x0 : Int) (x1 : V18) (x2 : Int) (x3 : Int) (k0 : Int → V18 → Int → Int → Bool → Option R) : Option R :=
k0 x0 x1 x2 x3 (x0 != (0 : Int))
theorem t55_9 {N cl} {R} (K : KE R) (x0 x1 x2 x3) : exec cl N c55_9 [(5, .v U2 x0), (9, .v U21 x1), (10, .v U2 x2), (11, .v U2 x3)] K = (g55_9 x0 x1 x2 x3 (fun y0 y1 y2 y3 y4 => K .normal [(5, .v U2 y0), (9, .v U21 y1), (10, .v U2 y2), (11, .v U2 y3), (18, .v .bool y4)])) := by
  kernel_rfl
def g55_10 {R : Type} (x0 : Int) (x1 : V18) (x2 : Int) (x3 : Int) (x4 : Bool) (k0 : Int → Option R) : Option R :=
k0 x0
theorem t55_10 {N cl} {R} (K : KE R) (x0 x1 x2 x3 x4) : exec cl N c55_10 [(5, .v U2 x0), (9, .v U21 x1), (10, .v U2 x2), (11, .v U2 x3), (18, .v .bool x4)] K = (g55_10 x0 x1 x2 x3 x4 (fun y0 => K .normal [(2, .v U2 y0)])) := by
  kernel_rfl
theorem kp55_4 (x0) : keep [2, 9, 10, 11] [(2, .v U2 x0)] = [(2, .v U2 x0), (9, .dead), (10, .dead), (11, .dead)] := by kernel_rfl
theorem kp55_5 (x0 x1 x2 x3 x4) : keep [2, 9, 10, 11] [(5, .v U2 x0), (9, .v U21 x1), (10, .v U2 x2), (11, .v U2 x3), (18, .v .bool x4)] = [(2, .dead), (9, .v U21 x1), (10, .v U2 x2), (11, .v U2 x3)] := by kernel_rfl
theorem hb55_2 (x0 : Int) (x1 : V18) (x2 : Int) (x3 : Int) (x4 : Bool) : boolOf? (ent [(5, .v U2 x0), (9, .v U21 x1), (10, .v U2 x2), (11, .v U2 x3), (18, .v .bool x4)] (.t 18)) = some x4 := by kernel_rfl
theorem kp55_6 (x0) : keep [2, 9, 10, 11] [(2, .v U2 x0), (9, .dead), (10, .dead), (11, .dead)] = [(2, .v U2 x0), (9, .dead), (10, .dead), (11, .dead)] := by kernel_rfl
theorem kp55_7 (x0 x1 x2) : keep [2, 9, 10, 11] [(2, .dead), (9, .v U21 x0), (10, .v U2 x1), (11, .v U2 x2)] = [(2, .dead), (9, .v U21 x0), (10, .v U2 x1), (11, .v U2 x2)] := by kernel_rfl
def g55_13 {R : Type} (x0 : V18) (x1 : Int) (x2 : Int) (k0 : V18 → Int → Int → Option R) : Option R :=
k0 x0 x1 (IntKind.i64.wrap (x2 + (1 : Int)))
theorem t55_13 {N cl} {R} (K : KE R) (x0 x1 x2) : exec cl N c55_13 [(2, .dead), (9, .v U21 x0), (10, .v U2 x1), (11, .v U2 x2)] K = (g55_13 x0 x1 x2 (fun y0 y1 y2 => K .normal [(9, .v U21 y0), (10, .v U2 y1), (11, .v U2 y2)])) := by
  kernel_rfl
def g55_14 {R : Type} (S75 : V16 → Option (Int)) (x0 : V18) (x1 : Int) (x2 : Int) (k0 : Int → Option R) (k1 : V18 → Int → Int → Option R) (k2 : V18 → Int → Int → Option R) : Option R :=
(g55_5 x0 x1 x2 (fun y0 y1 y2 y3 => brB y3 ((fun y0 y1 y2 => (g55_7 y0 y1 y2 (fun y0 y1 y2 y3 => (g55_8 S75 y0 y1 y2 y3 (fun y0 y1 y2 y3 => (g55_9 y0 y1 y2 y3 (fun y0 y1 y2 y3 y4 => brB y4 (g55_10 y0 y1 y2 y3 y4 (fun y0 => ((fun y0 => (k0 y0)) y0))) (g55_13 y1 y2 y3 k1)))))))) y0 y1 y2) (k2 y0 y1 y2)))
theorem t55_14 {N cl} (S75) (h75 : (ctr75 S75).holds cl) {R} (K : KE R) (x0 x1 x2) : exec cl N c55_14 [(9, .v U21 x0), (10, .v U2 x1), (11, .v U2 x2)] K = (g55_14 S75 x0 x1 x2 (fun y0 => K .ret [(2, .v U2 y0), (9, .dead), (10, .dead), (11, .dead)]) (fun y0 y1 y2 => K .normal [(9, .v U21 y0), (10, .v U2 y1), (11, .v U2 y2)]) (fun y0 y1 y2 => K (.exit 0) [(9, .v U21 y0), (10, .v U2 y1), (11, .v U2 y2)])) := by
  simp only [c55_14, exec_seq, seqK_normal, seqK_exit, seqK_ret, t55_5, c55_6, exec_out, exec_cond', hb55_1, Option.bind_some, brB_true, brB_false, exec_skip, exec_exit, kp55_3, c55_12, exec_block, t55_7, t55_8 S75 h75, t55_9, c55_11, hb55_2, t55_10, exec_ret, kp55_4, kp55_5, blockK_normal, blockK_ret, blockK_eq, kp55_6, kp55_7, t55_13]
  rfl
def l55_15 {R : Type} (S75 : V16 → Option (Int)) (k0 : Int → Option R) (k1 : V18 → Int → Int → Option R) : Nat → V18 → Int → Int → Option R
  | 0, _, _, _ => none
  | m + 1, x0, x1, x2 => (g55_14 S75 x0 x1 x2 k0 (fun y0 y1 y2 => l55_15 S75 k0 k1 m y0 y1 y2) k1)
theorem lt55_15 {N cl} (S75) (h75 : (ctr75 S75).holds cl) {R} (K : KE R) : ∀ (m) (x0 x1 x2), iter [9, 10, 11] (fun env K => exec cl N c55_14 env K) K m [(9, .v U21 x0), (10, .v U2 x1), (11, .v U2 x2)] = l55_15 S75 (fun y0 => K .ret [(2, .v U2 y0), (9, .dead), (10, .dead), (11, .dead)]) (fun y0 y1 y2 => K (.exit 0) [(9, .v U21 y0), (10, .v U2 y1), (11, .v U2 y2)]) m x0 x1 x2 := by
  intro m
  induction m with
  | zero => intros; rfl
  | succ m ih =>
    intro x0 x1 x2
    simp only [iter_succ, t55_14 S75 h75, loopK_normal, loopK_exit, loopK_ret, kp55_2, ih]
    rfl
theorem kp55_8 (x0) : keep [2] [(2, .v U2 x0), (9, .dead), (10, .dead), (11, .dead)] = [(2, .v U2 x0)] := by kernel_rfl
theorem kp55_9 (x0 x1 x2) : keep [2] [(9, .v U21 x0), (10, .v U2 x1), (11, .v U2 x2)] = [(2, .dead)] := by kernel_rfl
def g55_15 {R : Type} (N : Nat) (S75 : V16 → Option (Int)) (x0 : V18) (x1 : Int) (x2 : Int) (k0 : Int → Option R) (k1 : Option R) : Option R :=
l55_15 S75 (fun y0 => k0 y0) (fun y0 y1 y2 => k1) N x0 x1 x2
theorem t55_15 {N cl} (S75) (h75 : (ctr75 S75).holds cl) {R} (K : KE R) (x0 x1 x2) : exec cl N c55_15 [(9, .v U21 x0), (10, .v U2 x1), (11, .v U2 x2)] K = (g55_15 N S75 x0 x1 x2 (fun y0 => K .ret [(2, .v U2 y0)]) (K (.exit 0) [(2, .dead)])) := by
  simp only [c55_15, exec_out, exec_loop, kp55_2, lt55_15 S75 h75, kp55_8, kp55_9]
  rfl
theorem kp55_10 (x0) : keep [2] [(2, .v U2 x0)] = [(2, .v U2 x0)] := by kernel_rfl
theorem kp55_11 : keep [2] [(2, .dead)] = [(2, .dead)] := by kernel_rfl
def g55_17 {R : Type} (k0 : Int → Option R) : Option R :=
k0 (0 : Int)
theorem t55_17 {N cl} {R} (K : KE R) : exec cl N c55_17 [(2, .dead)] K = (g55_17 (fun y0 => K .normal [(2, .v U2 y0)])) := by
  kernel_rfl
def g55_18 {R : Type} (N : Nat) (S75 : V16 → Option (Int)) (x0 : V18) (k0 : Int → Option R) (k1 : Int → Option R) : Option R :=
(g55_0 x0 (fun y0 => (g55_1 y0 (fun y0 y1 => brB y1 (g55_2 y0 y1 (fun y0 => ((fun y0 => (k0 y0)) y0))) ((fun y0 => (g55_4 y0 (fun y0 y1 y2 => (g55_15 N S75 y0 y1 y2 (fun y0 => (k1 y0)) (g55_17 (fun y0 => (k1 y0))))))) y0)))))
theorem t55_18 {N cl} (S75) (h75 : (ctr75 S75).holds cl) {R} (K : KE R) (x0) : exec cl N c55_18 [(0, .v U21 x0)] K = (g55_18 N S75 x0 (fun y0 => K .ret [(0, .dead), (2, .v U2 y0)]) (fun y0 => K .ret [(2, .v U2 y0)])) := by
  simp only [c55_18, exec_seq, seqK_normal, seqK_exit, seqK_ret, t55_0, t55_1, c55_3, exec_out, exec_cond', hb55_0, Option.bind_some, brB_true, brB_false, t55_2, exec_ret, exec_skip, kp55_0, kp55_1, t55_4, c55_16, exec_block, t55_15 S75 h75, blockK_normal, blockK_ret, blockK_eq, kp55_10, kp55_11, t55_17]
  rfl
theorem rk55_0 (y0 : Int) : retK d55 .ret [(0, .dead), (2, .v U2 y0)] = some [.v U2 y0] := by kernel_rfl
theorem rk55_1 (y0 : Int) : retK d55 .ret [(2, .v U2 y0)] = some [.v U2 y0] := by kernel_rfl
def g55 {R : Type} (N : Nat) (S75 : V16 → Option (Int)) (x0 : V18) (k : Int → Option R) : Option R :=
(g55_18 N S75 x0 (fun y0 => k y0) (fun y0 => k y0))
theorem gen55 {N : Nat} {cl : Cal} (S75 : V16 → Option (Int)) (h75 : (ctr75 S75).holds cl) (x0 : V18) {R : Type} (k : List E → Option R) : exec cl N c55 (params 0 [.v U21 x0]) (fun e env => (retK d55 e env).bind k) = g55 N S75 x0 (fun (r0 : Int) => k [.v U2 r0]) := by
  have e0 : params 0 [.v U21 x0] = [(0, .v U21 x0)] := by kernel_rfl
  simp only [c55, e0, t55_18 S75 h75, rk55_0, rk55_1, Option.bind_some]
  rfl
def ctr55 (S : V18 → Option (Int)) : Ctr := { A := V18 × Unit, B := Int, f := 55, enc := fun a => [.v U21 a.1], dec := (decC (decV U21) dec0), S := fun a => S a.1, ent := fun b => [.v U2 b], ok := (decV_cons (T := U21) (fun es b h => dec0_some h)) }
def S55 (N : Nat) (x0 : V18) : Option (Int) := g55 N (S75 N) x0 (fun (r0 : Int) => some (r0))
def g36_0 {R : Type} (x0 : V18) (x1 : V18) (k0 : V18 → V18 → Option R) : Option R :=
k0 x0 x1
theorem t36_0 {N cl} {R} (K : KE R) (x0 x1) : exec cl N c36_0 [(0, .v U21 x0), (1, .v U21 x1)] K = (g36_0 x0 x1 (fun y0 y1 => K .normal [(0, .v U21 y0), (1, .v U21 y1)])) := by
  kernel_rfl
def g36_1 {R : Type} (S55 : V18 → Option (Int)) (x0 : V18) (x1 : V18) (k0 : V18 → Int → Option R) : Option R :=
(S55 x0).bind fun r353 =>
k0 x1 r353
theorem t36_1 {N cl} (S55) (h55 : (ctr55 S55).holds cl) {R} (K : KE R) (x0 x1) : exec cl N c36_1 [(0, .v U21 x0), (1, .v U21 x1)] K = (g36_1 S55 x0 x1 (fun y0 y1 => K .normal [(1, .v U21 y0), (5, .v U2 y1)])) := by
  rw [← put_eq h55]
  kernel_rfl
def g36_2 {R : Type} (x0 : V18) (x1 : Int) (k0 : V18 → Int → Bool → Option R) : Option R :=
k0 x0 x1 (x1 != (0 : Int))
theorem t36_2 {N cl} {R} (K : KE R) (x0 x1) : exec cl N c36_2 [(1, .v U21 x0), (5, .v U2 x1)] K = (g36_2 x0 x1 (fun y0 y1 y2 => K .normal [(1, .v U21 y0), (5, .v U2 y1), (9, .v .bool y2)])) := by
  kernel_rfl
def g36_3 {R : Type} (x0 : V18) (x1 : Int) (x2 : Bool) (k0 : Int → Option R) : Option R :=
k0 x1
theorem t36_3 {N cl} {R} (K : KE R) (x0 x1 x2) : exec cl N c36_3 [(1, .v U21 x0), (5, .v U2 x1), (9, .v .bool x2)] K = (g36_3 x0 x1 x2 (fun y0 => K .normal [(4, .v U2 y0)])) := by
  kernel_rfl
theorem kp36_0 (x0) : keep [1, 4] [(4, .v U2 x0)] = [(1, .dead), (4, .v U2 x0)] := by kernel_rfl
theorem kp36_1 (x0 x1 x2) : keep [1, 4] [(1, .v U21 x0), (5, .v U2 x1), (9, .v .bool x2)] = [(1, .v U21 x0), (4, .dead)] := by kernel_rfl
theorem hb36_0 (x0 : V18) (x1 : Int) (x2 : Bool) : boolOf? (ent [(1, .v U21 x0), (5, .v U2 x1), (9, .v .bool x2)] (.t 9)) = some x2 := by kernel_rfl
def g36_5 {R : Type} (S55 : V18 → Option (Int)) (x0 : V18) (k0 : Int → Option R) : Option R :=
(S55 x0).bind fun r355 =>
k0 r355
theorem t36_5 {N cl} (S55) (h55 : (ctr55 S55).holds cl) {R} (K : KE R) (x0) : exec cl N c36_5 [(1, .v U21 x0), (4, .dead)] K = (g36_5 S55 x0 (fun y0 => K .normal [(4, .v U2 y0)])) := by
  rw [← put_eq h55]
  kernel_rfl
def g36_6 {R : Type} (S55 : V18 → Option (Int)) (x0 : V18) (x1 : V18) (k0 : Int → Option R) (k1 : Int → Option R) : Option R :=
(g36_0 x0 x1 (fun y0 y1 => (g36_1 S55 y0 y1 (fun y0 y1 => (g36_2 y0 y1 (fun y0 y1 y2 => brB y2 (g36_3 y0 y1 y2 (fun y0 => ((fun y0 => (k0 y0)) y0))) ((fun y0 => (g36_5 S55 y0 (fun y0 => (k1 y0)))) y0)))))))
theorem t36_6 {N cl} (S55) (h55 : (ctr55 S55).holds cl) {R} (K : KE R) (x0 x1) : exec cl N c36_6 [(0, .v U21 x0), (1, .v U21 x1)] K = (g36_6 S55 x0 x1 (fun y0 => K .ret [(1, .dead), (4, .v U2 y0)]) (fun y0 => K .ret [(4, .v U2 y0)])) := by
  simp only [c36_6, exec_seq, seqK_normal, seqK_exit, seqK_ret, t36_0, t36_1 S55 h55, t36_2, c36_4, exec_out, exec_cond', hb36_0, Option.bind_some, brB_true, brB_false, t36_3, exec_ret, exec_skip, kp36_0, kp36_1, t36_5 S55 h55]
  rfl
theorem rk36_0 (y0 : Int) : retK d36 .ret [(1, .dead), (4, .v U2 y0)] = some [.v U2 y0] := by kernel_rfl
theorem rk36_1 (y0 : Int) : retK d36 .ret [(4, .v U2 y0)] = some [.v U2 y0] := by kernel_rfl
def g36 {R : Type} (S55 : V18 → Option (Int)) (x0 : V18) (x1 : V18) (k : Int → Option R) : Option R :=
(g36_6 S55 x0 x1 (fun y0 => k y0) (fun y0 => k y0))
theorem gen36 {N : Nat} {cl : Cal} (S55 : V18 → Option (Int)) (h55 : (ctr55 S55).holds cl) (x0 : V18) (x1 : V18) {R : Type} (k : List E → Option R) : exec cl N c36 (params 0 [.v U21 x0, .v U21 x1]) (fun e env => (retK d36 e env).bind k) = g36 S55 x0 x1 (fun (r0 : Int) => k [.v U2 r0]) := by
  have e0 : params 0 [.v U21 x0, .v U21 x1] = [(0, .v U21 x0), (1, .v U21 x1)] := by kernel_rfl
  simp only [c36, e0, t36_6 S55 h55, rk36_0, rk36_1, Option.bind_some]
  rfl
def ctr36 (S : V18 → V18 → Option (Int)) : Ctr := { A := V18 × V18 × Unit, B := Int, f := 36, enc := fun a => [.v U21 a.1, .v U21 a.2.1], dec := (decC (decV U21) (decC (decV U21) dec0)), S := fun a => S a.1 a.2.1, ent := fun b => [.v U2 b], ok := (decV_cons (T := U21) (decV_cons (T := U21) (fun es b h => dec0_some h))) }
def S36 (N : Nat) (x0 : V18) (x1 : V18) : Option (Int) := g36 (S55 N) x0 x1 (fun (r0 : Int) => some (r0))
def g43_0 {R : Type} (x0 : V16) (k0 : V16 → Option R) : Option R :=
k0 x0
theorem t43_0 {N cl} {R} (K : KE R) (x0) : exec cl N c43_0 [(0, .v U18 x0)] K = (g43_0 x0 (fun y0 => K .normal [(1, .loc U18 .no y0)])) := by
  kernel_rfl
def g43_1 {R : Type} (x0 : V16) (k0 : Bool → Option R) : Option R :=
brB (x0.1 == (1 : Int)) (k0 true) (k0 (x0.1 == (2 : Int)))
theorem t43_1 {N cl} {R} (K : KE R) (x0) : exec cl N c43_1 [(1, .loc U18 .no x0)] K = (g43_1 x0 (fun y0 => K .normal [(2, .v .bool y0)])) := by
  kernel_rfl
def g43_2 {R : Type} (x0 : V16) (k0 : Bool → Option R) : Option R :=
(g43_0 x0 (fun y0 => (g43_1 y0 (fun y0 => (k0 y0)))))
theorem t43_2 {N cl} {R} (K : KE R) (x0) : exec cl N c43_2 [(0, .v U18 x0)] K = (g43_2 x0 (fun y0 => K .ret [(2, .v .bool y0)])) := by
  simp only [c43_2, exec_seq, seqK_normal, seqK_exit, seqK_ret, t43_0, t43_1, exec_ret]
  rfl
theorem rk43_0 (y0 : Bool) : retK d43 .ret [(2, .v .bool y0)] = some [.v .bool y0] := by kernel_rfl
def g43 {R : Type} (x0 : V16) (k : Bool → Option R) : Option R :=
(g43_2 x0 (fun y0 => k y0))
theorem gen43 {N : Nat} {cl : Cal} (x0 : V16) {R : Type} (k : List E → Option R) : exec cl N c43 (params 0 [.v U18 x0]) (fun e env => (retK d43 e env).bind k) = g43 x0 (fun (r0 : Bool) => k [.v .bool r0]) := by
  have e0 : params 0 [.v U18 x0] = [(0, .v U18 x0)] := by kernel_rfl
  simp only [c43, e0, t43_2, rk43_0, Option.bind_some]
  rfl
def ctr43 (S : V16 → Option (Bool)) : Ctr := { A := V16 × Unit, B := Bool, f := 43, enc := fun a => [.v U18 a.1], dec := (decC (decV U18) dec0), S := fun a => S a.1, ent := fun b => [.v .bool b], ok := (decV_cons (T := U18) (fun es b h => dec0_some h)) }
def S43 (N : Nat) (x0 : V16) : Option (Bool) := g43 x0 (fun (r0 : Bool) => some (r0))
def g14_0 {R : Type} (x0 : V18) (k0 : V18 → Option R) : Option R :=
k0 x0
theorem t14_0 {N cl} {R} (K : KE R) (x0) : exec cl N c14_0 [(0, .v U21 x0)] K = (g14_0 x0 (fun y0 => K .normal [(0, .v U21 y0)])) := by
  kernel_rfl
def g14_1 {R : Type} (x0 : V18) (k0 : V18 → Int → Option R) : Option R :=
k0 x0 (x0.length : Int)
theorem t14_1 {N cl} {R} (K : KE R) (x0) : exec cl N c14_1 [(0, .v U21 x0)] K = (g14_1 x0 (fun y0 y1 => K .normal [(0, .v U21 y0), (3, .v U2 y1)])) := by
  kernel_rfl
def g14_2 {R : Type} (S43 : V16 → Option (Bool)) (x0 : V18) (x1 : Int) (k0 : V18 → Int → Bool → Option R) : Option R :=
brB (decide (x1 > (0 : Int))) (let v373 : Int := (IntKind.i64.wrap (x1 - (1 : Int)))
if 0 ≤ v373 ∧ v373 < (x0.length : Int) then
(S43 (x0.getD v373.toNat ((0 : Int), ((0 : Int), ([], ()))))).bind fun r374 =>
k0 x0 x1 r374
else none) (k0 x0 x1 false)
theorem t14_2 {N cl} (S43) (h43 : (ctr43 S43).holds cl) {R} (K : KE R) (x0 x1) : exec cl N c14_2 [(0, .v U21 x0), (3, .v U2 x1)] K = (g14_2 S43 x0 x1 (fun y0 y1 y2 => K .normal [(0, .v U21 y0), (3, .v U2 y1), (6, .v .bool y2)])) := by
  rw [← put_eq h43]
  kernel_rfl
def g14_3 {R : Type} (x0 : V18) (x1 : Int) (x2 : Bool) (k0 : Int → Option R) : Option R :=
k0 (1 : Int)
theorem t14_3 {N cl} {R} (K : KE R) (x0 x1 x2) : exec cl N c14_3 [(0, .v U21 x0), (3, .v U2 x1), (6, .v .bool x2)] K = (g14_3 x0 x1 x2 (fun y0 => K .normal [(2, .v U2 y0)])) := by
  kernel_rfl
theorem kp14_0 (x0) : keep [2] [(2, .v U2 x0)] = [(2, .v U2 x0)] := by kernel_rfl
def g14_4 {R : Type} (S43 : V16 → Option (Bool)) (x0 : V18) (x1 : Int) (x2 : Bool) (k0 : Bool → Option R) : Option R :=
brB (decide (x1 > (1 : Int))) (let v376 : Int := (IntKind.i64.wrap (x1 - (2 : Int)))
if 0 ≤ v376 ∧ v376 < (x0.length : Int) then
(S43 (x0.getD v376.toNat ((0 : Int), ((0 : Int), ([], ()))))).bind fun r377 =>
brB r377 (let v378 : Int := (IntKind.i64.wrap (x1 - (1 : Int)))
if 0 ≤ v378 ∧ v378 < (x0.length : Int) then
brB ((x0.getD v378.toNat ((0 : Int), ((0 : Int), ([], ())))).1 == (5 : Int)) (let v380 : Int := (IntKind.i64.wrap (x1 - (1 : Int)))
if 0 ≤ v380 ∧ v380 < (x0.length : Int) then
k0 ((x0.getD v380.toNat ((0 : Int), ((0 : Int), ([], ())))).2.2.1 == ([109] : List UInt8))
else none) (k0 false)
else none) (k0 false)
else none) (k0 false)
theorem t14_4 {N cl} (S43) (h43 : (ctr43 S43).holds cl) {R} (K : KE R) (x0 x1 x2) : exec cl N c14_4 [(0, .v U21 x0), (3, .v U2 x1), (6, .v .bool x2)] K = (g14_4 S43 x0 x1 x2 (fun y0 => K .normal [(17, .v .bool y0)])) := by
  rw [← put_eq h43]
  kernel_rfl
def g14_5 {R : Type} (x0 : Bool) (k0 : Int → Option R) : Option R :=
k0 (2 : Int)
theorem t14_5 {N cl} {R} (K : KE R) (x0) : exec cl N c14_5 [(17, .v .bool x0)] K = (g14_5 x0 (fun y0 => K .normal [(2, .v U2 y0)])) := by
  kernel_rfl
theorem kp14_1 (x0) : keep [2] [(17, .v .bool x0)] = [(2, .dead)] := by kernel_rfl
theorem hb14_0 (x0 : Bool) : boolOf? (ent [(17, .v .bool x0)] (.t 17)) = some x0 := by kernel_rfl
theorem kp14_2 : keep [2] [(2, .dead)] = [(2, .dead)] := by kernel_rfl
theorem hb14_1 (x0 : V18) (x1 : Int) (x2 : Bool) : boolOf? (ent [(0, .v U21 x0), (3, .v U2 x1), (6, .v .bool x2)] (.t 6)) = some x2 := by kernel_rfl
def g14_9 {R : Type} (k0 : Int → Option R) : Option R :=
k0 (0 : Int)
theorem t14_9 {N cl} {R} (K : KE R) : exec cl N c14_9 [(2, .dead)] K = (g14_9 (fun y0 => K .normal [(2, .v U2 y0)])) := by
  kernel_rfl
def g14_10 {R : Type} (S43 : V16 → Option (Bool)) (x0 : V18) (k0 : Int → Option R) : Option R :=
(g14_0 x0 (fun y0 => (g14_1 y0 (fun y0 y1 => (g14_2 S43 y0 y1 (fun y0 y1 y2 => brB y2 (g14_3 y0 y1 y2 (fun y0 => ((fun y0 => (k0 y0)) y0))) (g14_4 S43 y0 y1 y2 (fun y0 => brB y0 (g14_5 y0 (fun y0 => ((fun y0 => (k0 y0)) y0))) (g14_9 (fun y0 => (k0 y0)))))))))))
theorem t14_10 {N cl} (S43) (h43 : (ctr43 S43).holds cl) {R} (K : KE R) (x0) : exec cl N c14_10 [(0, .v U21 x0)] K = (g14_10 S43 x0 (fun y0 => K .ret [(2, .v U2 y0)])) := by
  simp only [c14_10, exec_seq, seqK_normal, seqK_exit, seqK_ret, t14_0, t14_1, c14_8, exec_out, exec_block, t14_2 S43 h43, c14_7, exec_cond', hb14_1, Option.bind_some, brB_true, brB_false, t14_3, exec_ret, t14_4 S43 h43, c14_6, hb14_0, t14_5, exec_skip, kp14_0, kp14_1, kp14_2, blockK_normal, blockK_ret, blockK_eq, t14_9]
  rfl
theorem rk14_0 (y0 : Int) : retK d14 .ret [(2, .v U2 y0)] = some [.v U2 y0] := by kernel_rfl
def g14 {R : Type} (S43 : V16 → Option (Bool)) (x0 : V18) (k : Int → Option R) : Option R :=
(g14_10 S43 x0 (fun y0 => k y0))
theorem gen14 {N : Nat} {cl : Cal} (S43 : V16 → Option (Bool)) (h43 : (ctr43 S43).holds cl) (x0 : V18) {R : Type} (k : List E → Option R) : exec cl N c14 (params 0 [.v U21 x0]) (fun e env => (retK d14 e env).bind k) = g14 S43 x0 (fun (r0 : Int) => k [.v U2 r0]) := by
  have e0 : params 0 [.v U21 x0] = [(0, .v U21 x0)] := by kernel_rfl
  simp only [c14, e0, t14_10 S43 h43, rk14_0, Option.bind_some]
  rfl
def ctr14 (S : V18 → Option (Int)) : Ctr := { A := V18 × Unit, B := Int, f := 14, enc := fun a => [.v U21 a.1], dec := (decC (decV U21) dec0), S := fun a => S a.1, ent := fun b => [.v U2 b], ok := (decV_cons (T := U21) (fun es b h => dec0_some h)) }
def S14 (N : Nat) (x0 : V18) : Option (Int) := g14 (S43 N) x0 (fun (r0 : Int) => some (r0))
def g62_0 {R : Type} (x0 : V16) (k0 : V16 → Option R) : Option R :=
k0 x0
theorem t62_0 {N cl} {R} (K : KE R) (x0) : exec cl N c62_0 [(0, .v U18 x0)] K = (g62_0 x0 (fun y0 => K .normal [(1, .loc U18 .no y0)])) := by
  kernel_rfl
def g62_1 {R : Type} (x0 : V16) (k0 : Bool → Option R) : Option R :=
k0 (x0.1 != (9 : Int))
theorem t62_1 {N cl} {R} (K : KE R) (x0) : exec cl N c62_1 [(1, .loc U18 .no x0)] K = (g62_1 x0 (fun y0 => K .normal [(2, .v .bool y0)])) := by
  kernel_rfl
def g62_2 {R : Type} (x0 : V16) (k0 : Bool → Option R) : Option R :=
(g62_0 x0 (fun y0 => (g62_1 y0 (fun y0 => (k0 y0)))))
theorem t62_2 {N cl} {R} (K : KE R) (x0) : exec cl N c62_2 [(0, .v U18 x0)] K = (g62_2 x0 (fun y0 => K .ret [(2, .v .bool y0)])) := by
  simp only [c62_2, exec_seq, seqK_normal, seqK_exit, seqK_ret, t62_0, t62_1, exec_ret]
  rfl
theorem rk62_0 (y0 : Bool) : retK d62 .ret [(2, .v .bool y0)] = some [.v .bool y0] := by kernel_rfl
def g62 {R : Type} (x0 : V16) (k : Bool → Option R) : Option R :=
(g62_2 x0 (fun y0 => k y0))
theorem gen62 {N : Nat} {cl : Cal} (x0 : V16) {R : Type} (k : List E → Option R) : exec cl N c62 (params 0 [.v U18 x0]) (fun e env => (retK d62 e env).bind k) = g62 x0 (fun (r0 : Bool) => k [.v .bool r0]) := by
  have e0 : params 0 [.v U18 x0] = [(0, .v U18 x0)] := by kernel_rfl
  simp only [c62, e0, t62_2, rk62_0, Option.bind_some]
  rfl
def ctr62 (S : V16 → Option (Bool)) : Ctr := { A := V16 × Unit, B := Bool, f := 62, enc := fun a => [.v U18 a.1], dec := (decC (decV U18) dec0), S := fun a => S a.1, ent := fun b => [.v .bool b], ok := (decV_cons (T := U18) (fun es b h => dec0_some h)) }
def S62 (N : Nat) (x0 : V16) : Option (Bool) := g62 x0 (fun (r0 : Bool) => some (r0))
def g61_0 {R : Type} (x0 : V18) (x1 : V23) (k0 : V18 → V23 → Option R) : Option R :=
k0 x0 x1
theorem t61_0 {N cl} {R} (K : KE R) (x0 x1) : exec cl N c61_0 [(0, .v U21 x0), (1, .v U25 x1)] K = (g61_0 x0 x1 (fun y0 y1 => K .normal [(0, .v U21 y0), (1, .v U25 y1)])) := by
  kernel_rfl
def g61_1 {R : Type} (x0 : V18) (x1 : V23) (k0 : V18 → V23 → Int → Int → Option R) : Option R :=
k0 x0 x1 (x0.length : Int) (0 : Int)
theorem t61_1 {N cl} {R} (K : KE R) (x0 x1) : exec cl N c61_1 [(0, .v U21 x0), (1, .v U25 x1)] K = (g61_1 x0 x1 (fun y0 y1 y2 y3 => K .normal [(0, .v U21 y0), (1, .v U25 y1), (7, .v U2 y2), (8, .v U2 y3)])) := by
  kernel_rfl
theorem kp61_0 (x0 x1 x2 x3) : keep [0, 1, 7, 8] [(0, .v U21 x0), (1, .v U25 x1), (7, .v U2 x2), (8, .v U2 x3)] = [(0, .v U21 x0), (1, .v U25 x1), (7, .v U2 x2), (8, .v U2 x3)] := by kernel_rfl
def g61_2 {R : Type} (x0 : V18) (x1 : V23) (x2 : Int) (x3 : Int) (k0 : V18 → V23 → Int → Int → Bool → Option R) : Option R :=
k0 x0 x1 x2 x3 (decide (x3 < x2))
theorem t61_2 {N cl} {R} (K : KE R) (x0 x1 x2 x3) : exec cl N c61_2 [(0, .v U21 x0), (1, .v U25 x1), (7, .v U2 x2), (8, .v U2 x3)] K = (g61_2 x0 x1 x2 x3 (fun y0 y1 y2 y3 y4 => K .normal [(0, .v U21 y0), (1, .v U25 y1), (7, .v U2 y2), (8, .v U2 y3), (9, .v .bool y4)])) := by
  kernel_rfl
theorem kp61_1 (x0 x1 x2 x3 x4) : keep [0, 1, 7, 8] [(0, .v U21 x0), (1, .v U25 x1), (7, .v U2 x2), (8, .v U2 x3), (9, .v .bool x4)] = [(0, .v U21 x0), (1, .v U25 x1), (7, .v U2 x2), (8, .v U2 x3)] := by kernel_rfl
theorem hb61_0 (x0 : V18) (x1 : V23) (x2 : Int) (x3 : Int) (x4 : Bool) : boolOf? (ent [(0, .v U21 x0), (1, .v U25 x1), (7, .v U2 x2), (8, .v U2 x3), (9, .v .bool x4)] (.t 9)) = some x4 := by kernel_rfl
def g61_4 {R : Type} (x0 : V18) (x1 : V23) (x2 : Int) (x3 : Int) (k0 : V18 → V23 → Int → Int → Int → Option R) : Option R :=
k0 x0 x1 x3 x2 x3
theorem t61_4 {N cl} {R} (K : KE R) (x0 x1 x2 x3) : exec cl N c61_4 [(0, .v U21 x0), (1, .v U25 x1), (7, .v U2 x2), (8, .v U2 x3)] K = (g61_4 x0 x1 x2 x3 (fun y0 y1 y2 y3 y4 => K .normal [(0, .v U21 y0), (1, .v U25 y1), (5, .v U2 y2), (7, .v U2 y3), (8, .v U2 y4)])) := by
  kernel_rfl
def g61_5 {R : Type} (x0 : V18) (x1 : V23) (x2 : Int) (x3 : Int) (x4 : Int) (k0 : V18 → V23 → Int → Int → Int → Bool → Option R) : Option R :=
if 0 ≤ x2 ∧ x2 < (x0.length : Int) then
(x1 ((x0.getD x2.toNat ((0 : Int), ((0 : Int), ([], ())))), ())).bind fun r392 =>
k0 x0 x1 x2 x3 x4 r392
else none
theorem t61_5 {N cl} {R} (K : KE R) (x0 x1 x2 x3 x4) : exec cl N c61_5 [(0, .v U21 x0), (1, .v U25 x1), (5, .v U2 x2), (7, .v U2 x3), (8, .v U2 x4)] K = (g61_5 x0 x1 x2 x3 x4 (fun y0 y1 y2 y3 y4 y5 => K .normal [(0, .v U21 y0), (1, .v U25 y1), (5, .v U2 y2), (7, .v U2 y3), (8, .v U2 y4), (16, .v .bool y5)])) := by
  kernel_rfl
def g61_6 {R : Type} (x0 : V18) (x1 : V23) (x2 : Int) (x3 : Int) (x4 : Int) (x5 : Bool) (k0 : Int → Option R) : Option R :=
k0 x2
theorem t61_6 {N cl} {R} (K : KE R) (x0 x1 x2 x3 x4 x5) : exec cl N c61_6 [(0, .v U21 x0), (1, .v U25 x1), (5, .v U2 x2), (7, .v U2 x3), (8, .v U2 x4), (16, .v .bool x5)] K = (g61_6 x0 x1 x2 x3 x4 x5 (fun y0 => K .normal [(4, .v U2 y0)])) := by
  kernel_rfl
theorem kp61_2 (x0) : keep [0, 1, 4, 7, 8] [(4, .v U2 x0)] = [(0, .dead), (1, .dead), (4, .v U2 x0), (7, .dead), (8, .dead)] := by kernel_rfl
theorem kp61_3 (x0 x1 x2 x3 x4 x5) : keep [0, 1, 4, 7, 8] [(0, .v U21 x0), (1, .v U25 x1), (5, .v U2 x2), (7, .v U2 x3), (8, .v U2 x4), (16, .v .bool x5)] = [(0, .v U21 x0), (1, .v U25 x1), (4, .dead), (7, .v U2 x3), (8, .v U2 x4)] := by kernel_rfl
theorem hb61_1 (x0 : V18) (x1 : V23) (x2 : Int) (x3 : Int) (x4 : Int) (x5 : Bool) : boolOf? (ent [(0, .v U21 x0), (1, .v U25 x1), (5, .v U2 x2), (7, .v U2 x3), (8, .v U2 x4), (16, .v .bool x5)] (.t 16)) = some x5 := by kernel_rfl
theorem kp61_4 (x0) : keep [0, 1, 4, 7, 8] [(0, .dead), (1, .dead), (4, .v U2 x0), (7, .dead), (8, .dead)] = [(0, .dead), (1, .dead), (4, .v U2 x0), (7, .dead), (8, .dead)] := by kernel_rfl
theorem kp61_5 (x0 x1 x2 x3) : keep [0, 1, 4, 7, 8] [(0, .v U21 x0), (1, .v U25 x1), (4, .dead), (7, .v U2 x2), (8, .v U2 x3)] = [(0, .v U21 x0), (1, .v U25 x1), (4, .dead), (7, .v U2 x2), (8, .v U2 x3)] := by kernel_rfl
def g61_9 {R : Type} (x0 : V18) (x1 : V23) (x2 : Int) (x3 : Int) (k0 : V18 → V23 → Int → Int → Option R) : Option R :=
k0 x0 x1 x2 (IntKind.i64.wrap (x3 + (1 : Int)))
theorem t61_9 {N cl} {R} (K : KE R) (x0 x1 x2 x3) : exec cl N c61_9 [(0, .v U21 x0), (1, .v U25 x1), (4, .dead), (7, .v U2 x2), (8, .v U2 x3)] K = (g61_9 x0 x1 x2 x3 (fun y0 y1 y2 y3 => K .normal [(0, .v U21 y0), (1, .v U25 y1), (7, .v U2 y2), (8, .v U2 y3)])) := by
  kernel_rfl
def g61_10 {R : Type} (x0 : V18) (x1 : V23) (x2 : Int) (x3 : Int) (k0 : Int → Option R) (k1 : V18 → V23 → Int → Int → Option R) (k2 : V18 → V23 → Int → Int → Option R) : Option R :=
(g61_2 x0 x1 x2 x3 (fun y0 y1 y2 y3 y4 => brB y4 ((fun y0 y1 y2 y3 => (g61_4 y0 y1 y2 y3 (fun y0 y1 y2 y3 y4 => (g61_5 y0 y1 y2 y3 y4 (fun y0 y1 y2 y3 y4 y5 => brB y5 (g61_6 y0 y1 y2 y3 y4 y5 (fun y0 => ((fun y0 => (k0 y0)) y0))) (g61_9 y0 y1 y3 y4 k1)))))) y0 y1 y2 y3) (k2 y0 y1 y2 y3)))
theorem t61_10 {N cl} {R} (K : KE R) (x0 x1 x2 x3) : exec cl N c61_10 [(0, .v U21 x0), (1, .v U25 x1), (7, .v U2 x2), (8, .v U2 x3)] K = (g61_10 x0 x1 x2 x3 (fun y0 => K .ret [(0, .dead), (1, .dead), (4, .v U2 y0), (7, .dead), (8, .dead)]) (fun y0 y1 y2 y3 => K .normal [(0, .v U21 y0), (1, .v U25 y1), (7, .v U2 y2), (8, .v U2 y3)]) (fun y0 y1 y2 y3 => K (.exit 0) [(0, .v U21 y0), (1, .v U25 y1), (7, .v U2 y2), (8, .v U2 y3)])) := by
  simp only [c61_10, exec_seq, seqK_normal, seqK_exit, seqK_ret, t61_2, c61_3, exec_out, exec_cond', hb61_0, Option.bind_some, brB_true, brB_false, exec_skip, exec_exit, kp61_1, c61_8, exec_block, t61_4, t61_5, c61_7, hb61_1, t61_6, exec_ret, kp61_2, kp61_3, blockK_normal, blockK_ret, blockK_eq, kp61_4, kp61_5, t61_9]
  rfl
def l61_11 {R : Type} (k0 : Int → Option R) (k1 : V18 → V23 → Int → Int → Option R) : Nat → V18 → V23 → Int → Int → Option R
  | 0, _, _, _, _ => none
  | m + 1, x0, x1, x2, x3 => (g61_10 x0 x1 x2 x3 k0 (fun y0 y1 y2 y3 => l61_11 k0 k1 m y0 y1 y2 y3) k1)
theorem lt61_11 {N cl} {R} (K : KE R) : ∀ (m) (x0 x1 x2 x3), iter [0, 1, 7, 8] (fun env K => exec cl N c61_10 env K) K m [(0, .v U21 x0), (1, .v U25 x1), (7, .v U2 x2), (8, .v U2 x3)] = l61_11 (fun y0 => K .ret [(0, .dead), (1, .dead), (4, .v U2 y0), (7, .dead), (8, .dead)]) (fun y0 y1 y2 y3 => K (.exit 0) [(0, .v U21 y0), (1, .v U25 y1), (7, .v U2 y2), (8, .v U2 y3)]) m x0 x1 x2 x3 := by
  intro m
  induction m with
  | zero => intros; rfl
  | succ m ih =>
    intro x0 x1 x2 x3
    simp only [iter_succ, t61_10, loopK_normal, loopK_exit, loopK_ret, kp61_0, ih]
    rfl
theorem kp61_6 (x0) : keep [4] [(0, .dead), (1, .dead), (4, .v U2 x0), (7, .dead), (8, .dead)] = [(4, .v U2 x0)] := by kernel_rfl
theorem kp61_7 (x0 x1 x2 x3) : keep [4] [(0, .v U21 x0), (1, .v U25 x1), (7, .v U2 x2), (8, .v U2 x3)] = [(4, .dead)] := by kernel_rfl
def g61_11 {R : Type} (N : Nat) (x0 : V18) (x1 : V23) (x2 : Int) (x3 : Int) (k0 : Int → Option R) (k1 : Option R) : Option R :=
l61_11 (fun y0 => k0 y0) (fun y0 y1 y2 y3 => k1) N x0 x1 x2 x3
theorem t61_11 {N cl} {R} (K : KE R) (x0 x1 x2 x3) : exec cl N c61_11 [(0, .v U21 x0), (1, .v U25 x1), (7, .v U2 x2), (8, .v U2 x3)] K = (g61_11 N x0 x1 x2 x3 (fun y0 => K .ret [(4, .v U2 y0)]) (K (.exit 0) [(4, .dead)])) := by
  simp only [c61_11, exec_out, exec_loop, kp61_0, lt61_11, kp61_6, kp61_7]
  rfl
theorem kp61_8 (x0) : keep [4] [(4, .v U2 x0)] = [(4, .v U2 x0)] := by kernel_rfl
theorem kp61_9 : keep [4] [(4, .dead)] = [(4, .dead)] := by kernel_rfl
def g61_13 {R : Type} (k0 : Int → Option R) : Option R :=
k0 (-1 : Int)
theorem t61_13 {N cl} {R} (K : KE R) : exec cl N c61_13 [(4, .dead)] K = (g61_13 (fun y0 => K .normal [(4, .v U2 y0)])) := by
  kernel_rfl
def g61_14 {R : Type} (N : Nat) (x0 : V18) (x1 : V23) (k0 : Int → Option R) : Option R :=
(g61_0 x0 x1 (fun y0 y1 => (g61_1 y0 y1 (fun y0 y1 y2 y3 => (g61_11 N y0 y1 y2 y3 (fun y0 => (k0 y0)) (g61_13 (fun y0 => (k0 y0))))))))
theorem t61_14 {N cl} {R} (K : KE R) (x0 x1) : exec cl N c61_14 [(0, .v U21 x0), (1, .v U25 x1)] K = (g61_14 N x0 x1 (fun y0 => K .ret [(4, .v U2 y0)])) := by
  simp only [c61_14, exec_seq, seqK_normal, seqK_exit, seqK_ret, t61_0, t61_1, c61_12, exec_out, exec_block, t61_11, blockK_normal, blockK_ret, blockK_eq, kp61_8, kp61_9, t61_13, exec_ret]
  rfl
theorem rk61_0 (y0 : Int) : retK d61 .ret [(4, .v U2 y0)] = some [.v U2 y0] := by kernel_rfl
def g61 {R : Type} (N : Nat) (x0 : V18) (x1 : V23) (k : Int → Option R) : Option R :=
(g61_14 N x0 x1 (fun y0 => k y0))
theorem gen61 {N : Nat} {cl : Cal} (x0 : V18) (x1 : V23) {R : Type} (k : List E → Option R) : exec cl N c61 (params 0 [.v U21 x0, .v U25 x1]) (fun e env => (retK d61 e env).bind k) = g61 N x0 x1 (fun (r0 : Int) => k [.v U2 r0]) := by
  have e0 : params 0 [.v U21 x0, .v U25 x1] = [(0, .v U21 x0), (1, .v U25 x1)] := by kernel_rfl
  simp only [c61, e0, t61_14, rk61_0, Option.bind_some]
  rfl
def ctr61 (S : V18 → V23 → Option (Int)) : Ctr := { A := V18 × V23 × Unit, B := Int, f := 61, enc := fun a => [.v U21 a.1, .v U25 a.2.1], dec := (decC (decV U21) (decC (decV U25) dec0)), S := fun a => S a.1 a.2.1, ent := fun b => [.v U2 b], ok := (decV_cons (T := U21) (decV_cons (T := U25) (fun es b h => dec0_some h))) }
def S61 (N : Nat) (x0 : V18) (x1 : V23) : Option (Int) := g61 N x0 x1 (fun (r0 : Int) => some (r0))
def g42_0 {R : Type} (x0 : V18) (k0 : V18 → Option R) : Option R :=
k0 x0
theorem t42_0 {N cl} {R} (K : KE R) (x0) : exec cl N c42_0 [(0, .v U21 x0)] K = (g42_0 x0 (fun y0 => K .normal [(0, .v U21 y0)])) := by
  kernel_rfl
def g42_1 {R : Type} (S61 : V18 → V23 → Option (Int)) (S62 : V16 → Option (Bool)) (x0 : V18) (k0 : V18 → Int → Option R) : Option R :=
(S61 x0 (fun (x396 : (V16 × Unit)) => ((S62 x396.1).bind fun b397 => some [.v .bool b397]).bind (unE .bool))).bind fun r398 =>
k0 x0 r398
theorem t42_1 {N cl} (S61) (S62) (h61 : (ctr61 S61).holds cl) (h62 : (ctr62 S62).holds cl) {R} (K : KE R) (x0) : exec cl N c42_1 [(0, .v U21 x0)] K = (g42_1 S61 S62 x0 (fun y0 y1 => K .normal [(0, .v U21 y0), (3, .v U2 y1)])) := by
  rw [← put_eq h61]
  rw [← put_eq h62]
  kernel_rfl
def g42_2 {R : Type} (x0 : V18) (x1 : Int) (k0 : V18 → Int → Bool → Option R) : Option R :=
k0 x0 x1 (decide (x1 < (0 : Int)))
theorem t42_2 {N cl} {R} (K : KE R) (x0 x1) : exec cl N c42_2 [(0, .v U21 x0), (3, .v U2 x1)] K = (g42_2 x0 x1 (fun y0 y1 y2 => K .normal [(0, .v U21 y0), (3, .v U2 y1), (7, .v .bool y2)])) := by
  kernel_rfl
def g42_3 {R : Type} (x0 : V18) (x1 : Int) (x2 : Bool) (k0 : Int → Option R) : Option R :=
k0 (x0.length : Int)
theorem t42_3 {N cl} {R} (K : KE R) (x0 x1 x2) : exec cl N c42_3 [(0, .v U21 x0), (3, .v U2 x1), (7, .v .bool x2)] K = (g42_3 x0 x1 x2 (fun y0 => K .normal [(2, .v U2 y0)])) := by
  kernel_rfl
theorem kp42_0 (x0) : keep [2, 3] [(2, .v U2 x0)] = [(2, .v U2 x0), (3, .dead)] := by kernel_rfl
theorem kp42_1 (x0 x1 x2) : keep [2, 3] [(0, .v U21 x0), (3, .v U2 x1), (7, .v .bool x2)] = [(2, .dead), (3, .v U2 x1)] := by kernel_rfl
theorem hb42_0 (x0 : V18) (x1 : Int) (x2 : Bool) : boolOf? (ent [(0, .v U21 x0), (3, .v U2 x1), (7, .v .bool x2)] (.t 7)) = some x2 := by kernel_rfl
def g42_5 {R : Type} (x0 : Int) (k0 : Int → Option R) : Option R :=
k0 x0
theorem t42_5 {N cl} {R} (K : KE R) (x0) : exec cl N c42_5 [(2, .dead), (3, .v U2 x0)] K = (g42_5 x0 (fun y0 => K .normal [(2, .v U2 y0)])) := by
  kernel_rfl
def g42_6 {R : Type} (S61 : V18 → V23 → Option (Int)) (S62 : V16 → Option (Bool)) (x0 : V18) (k0 : Int → Option R) (k1 : Int → Option R) : Option R :=
(g42_0 x0 (fun y0 => (g42_1 S61 S62 y0 (fun y0 y1 => (g42_2 y0 y1 (fun y0 y1 y2 => brB y2 (g42_3 y0 y1 y2 (fun y0 => ((fun y0 => (k0 y0)) y0))) ((fun y0 => (g42_5 y0 (fun y0 => (k1 y0)))) y1)))))))
theorem t42_6 {N cl} (S61) (S62) (h61 : (ctr61 S61).holds cl) (h62 : (ctr62 S62).holds cl) {R} (K : KE R) (x0) : exec cl N c42_6 [(0, .v U21 x0)] K = (g42_6 S61 S62 x0 (fun y0 => K .ret [(2, .v U2 y0), (3, .dead)]) (fun y0 => K .ret [(2, .v U2 y0)])) := by
  simp only [c42_6, exec_seq, seqK_normal, seqK_exit, seqK_ret, t42_0, t42_1 S61 S62 h61 h62, t42_2, c42_4, exec_out, exec_cond', hb42_0, Option.bind_some, brB_true, brB_false, t42_3, exec_ret, exec_skip, kp42_0, kp42_1, t42_5]
  rfl
theorem rk42_0 (y0 : Int) : retK d42 .ret [(2, .v U2 y0), (3, .dead)] = some [.v U2 y0] := by kernel_rfl
theorem rk42_1 (y0 : Int) : retK d42 .ret [(2, .v U2 y0)] = some [.v U2 y0] := by kernel_rfl
def g42 {R : Type} (S61 : V18 → V23 → Option (Int)) (S62 : V16 → Option (Bool)) (x0 : V18) (k : Int → Option R) : Option R :=
(g42_6 S61 S62 x0 (fun y0 => k y0) (fun y0 => k y0))
theorem gen42 {N : Nat} {cl : Cal} (S61 : V18 → V23 → Option (Int)) (S62 : V16 → Option (Bool)) (h61 : (ctr61 S61).holds cl) (h62 : (ctr62 S62).holds cl) (x0 : V18) {R : Type} (k : List E → Option R) : exec cl N c42 (params 0 [.v U21 x0]) (fun e env => (retK d42 e env).bind k) = g42 S61 S62 x0 (fun (r0 : Int) => k [.v U2 r0]) := by
  have e0 : params 0 [.v U21 x0] = [(0, .v U21 x0)] := by kernel_rfl
  simp only [c42, e0, t42_6 S61 S62 h61 h62, rk42_0, rk42_1, Option.bind_some]
  rfl
def ctr42 (S : V18 → Option (Int)) : Ctr := { A := V18 × Unit, B := Int, f := 42, enc := fun a => [.v U21 a.1], dec := (decC (decV U21) dec0), S := fun a => S a.1, ent := fun b => [.v U2 b], ok := (decV_cons (T := U21) (fun es b h => dec0_some h)) }
def S42 (N : Nat) (x0 : V18) : Option (Int) := g42 (S61 N) (S62 N) x0 (fun (r0 : Int) => some (r0))
def g13_0 {R : Type} (x0 : V18) (k0 : V18 → Option R) : Option R :=
k0 x0
theorem t13_0 {N cl} {R} (K : KE R) (x0) : exec cl N c13_0 [(0, .v U21 x0)] K = (g13_0 x0 (fun y0 => K .normal [(0, .v U21 y0)])) := by
  kernel_rfl
def g13_1 {R : Type} (S42 : V18 → Option (Int)) (x0 : V18) (k0 : V18 → Int → Option R) : Option R :=
(S42 x0).bind fun r403 =>
k0 x0 r403
theorem t13_1 {N cl} (S42) (h42 : (ctr42 S42).holds cl) {R} (K : KE R) (x0) : exec cl N c13_1 [(0, .v U21 x0)] K = (g13_1 S42 x0 (fun y0 y1 => K .normal [(0, .v U21 y0), (3, .v U2 y1)])) := by
  rw [← put_eq h42]
  kernel_rfl
def g13_2 {R : Type} (S43 : V16 → Option (Bool)) (x0 : V18) (x1 : Int) (k0 : Bool → Option R) : Option R :=
brB (decide (x1 < (x0.length : Int))) (if 0 ≤ x1 ∧ x1 < (x0.length : Int) then
(S43 (x0.getD x1.toNat ((0 : Int), ((0 : Int), ([], ()))))).bind fun r405 =>
k0 r405
else none) (k0 false)
theorem t13_2 {N cl} (S43) (h43 : (ctr43 S43).holds cl) {R} (K : KE R) (x0 x1) : exec cl N c13_2 [(0, .v U21 x0), (3, .v U2 x1)] K = (g13_2 S43 x0 x1 (fun y0 => K .normal [(2, .v .bool y0)])) := by
  rw [← put_eq h43]
  kernel_rfl
def g13_3 {R : Type} (S42 : V18 → Option (Int)) (S43 : V16 → Option (Bool)) (x0 : V18) (k0 : Bool → Option R) : Option R :=
(g13_0 x0 (fun y0 => (g13_1 S42 y0 (fun y0 y1 => (g13_2 S43 y0 y1 (fun y0 => (k0 y0)))))))
theorem t13_3 {N cl} (S42) (S43) (h42 : (ctr42 S42).holds cl) (h43 : (ctr43 S43).holds cl) {R} (K : KE R) (x0) : exec cl N c13_3 [(0, .v U21 x0)] K = (g13_3 S42 S43 x0 (fun y0 => K .ret [(2, .v .bool y0)])) := by
  simp only [c13_3, exec_seq, seqK_normal, seqK_exit, seqK_ret, t13_0, t13_1 S42 h42, t13_2 S43 h43, exec_ret]
  rfl
theorem rk13_0 (y0 : Bool) : retK d13 .ret [(2, .v .bool y0)] = some [.v .bool y0] := by kernel_rfl
def g13 {R : Type} (S42 : V18 → Option (Int)) (S43 : V16 → Option (Bool)) (x0 : V18) (k : Bool → Option R) : Option R :=
(g13_3 S42 S43 x0 (fun y0 => k y0))
theorem gen13 {N : Nat} {cl : Cal} (S42 : V18 → Option (Int)) (S43 : V16 → Option (Bool)) (h42 : (ctr42 S42).holds cl) (h43 : (ctr43 S43).holds cl) (x0 : V18) {R : Type} (k : List E → Option R) : exec cl N c13 (params 0 [.v U21 x0]) (fun e env => (retK d13 e env).bind k) = g13 S42 S43 x0 (fun (r0 : Bool) => k [.v .bool r0]) := by
  have e0 : params 0 [.v U21 x0] = [(0, .v U21 x0)] := by kernel_rfl
  simp only [c13, e0, t13_3 S42 S43 h42 h43, rk13_0, Option.bind_some]
  rfl
def ctr13 (S : V18 → Option (Bool)) : Ctr := { A := V18 × Unit, B := Bool, f := 13, enc := fun a => [.v U21 a.1], dec := (decC (decV U21) dec0), S := fun a => S a.1, ent := fun b => [.v .bool b], ok := (decV_cons (T := U21) (fun es b h => dec0_some h)) }
def S13 (N : Nat) (x0 : V18) : Option (Bool) := g13 (S42 N) (S43 N) x0 (fun (r0 : Bool) => some (r0))
def g37_0 {R : Type} (x0 : V18) (x1 : V18) (k0 : V18 → V18 → Option R) : Option R :=
k0 x0 x1
theorem t37_0 {N cl} {R} (K : KE R) (x0 x1) : exec cl N c37_0 [(0, .v U21 x0), (1, .v U21 x1)] K = (g37_0 x0 x1 (fun y0 y1 => K .normal [(0, .v U21 y0), (1, .v U21 y1)])) := by
  kernel_rfl
def g37_1 {R : Type} (S14 : V18 → Option (Int)) (x0 : V18) (x1 : V18) (k0 : V18 → V18 → Int → Option R) : Option R :=
(S14 x0).bind fun r410 =>
k0 x0 x1 r410
theorem t37_1 {N cl} (S14) (h14 : (ctr14 S14).holds cl) {R} (K : KE R) (x0 x1) : exec cl N c37_1 [(0, .v U21 x0), (1, .v U21 x1)] K = (g37_1 S14 x0 x1 (fun y0 y1 y2 => K .normal [(0, .v U21 y0), (1, .v U21 y1), (5, .v U2 y2)])) := by
  rw [← put_eq h14]
  kernel_rfl
def g37_2 {R : Type} (S13 : V18 → Option (Bool)) (x0 : V18) (x1 : V18) (x2 : Int) (k0 : V18 → Int → Bool → Option R) : Option R :=
brB (x2 == (0 : Int)) (k0 x0 x2 true) ((S13 x1).bind fun r412 =>
k0 x0 x2 (!r412))
theorem t37_2 {N cl} (S13) (h13 : (ctr13 S13).holds cl) {R} (K : KE R) (x0 x1 x2) : exec cl N c37_2 [(0, .v U21 x0), (1, .v U21 x1), (5, .v U2 x2)] K = (g37_2 S13 x0 x1 x2 (fun y0 y1 y2 => K .normal [(0, .v U21 y0), (5, .v U2 y1), (8, .v .bool y2)])) := by
  rw [← put_eq h13]
  kernel_rfl
def g37_3 {R : Type} (x0 : V18) (x1 : Int) (x2 : Bool) (k0 : V0 → Option R) : Option R :=
k0 [(0 : Int)]
theorem t37_3 {N cl} {R} (K : KE R) (x0 x1 x2) : exec cl N c37_3 [(0, .v U21 x0), (5, .v U2 x1), (8, .v .bool x2)] K = (g37_3 x0 x1 x2 (fun y0 => K .normal [(4, .own true 3 U2 .no y0)])) := by
  kernel_rfl
theorem kp37_0 (x0) : keep [4] [(4, .own true 3 U2 .no x0)] = [(4, .own true 3 U2 .no x0)] := by kernel_rfl
def g37_4 {R : Type} (x0 : V18) (x1 : Int) (x2 : Bool) (k0 : V18 → Bool → Option R) : Option R :=
k0 x0 (x1 == (2 : Int))
theorem t37_4 {N cl} {R} (K : KE R) (x0 x1 x2) : exec cl N c37_4 [(0, .v U21 x0), (5, .v U2 x1), (8, .v .bool x2)] K = (g37_4 x0 x1 x2 (fun y0 y1 => K .normal [(0, .v U21 y0), (17, .v .bool y1)])) := by
  kernel_rfl
def g37_5 {R : Type} (x0 : V18) (x1 : Bool) (k0 : V0 → Option R) : Option R :=
k0 [(1 : Int), (3 : Int)]
theorem t37_5 {N cl} {R} (K : KE R) (x0 x1) : exec cl N c37_5 [(0, .v U21 x0), (17, .v .bool x1)] K = (g37_5 x0 x1 (fun y0 => K .normal [(4, .own true 3 U2 .no y0)])) := by
  kernel_rfl
def g37_6 {R : Type} (x0 : V18) (x1 : Bool) (k0 : Bool → Option R) : Option R :=
let v414 : Int := (IntKind.i64.wrap ((x0.length : Int) - (1 : Int)))
if 0 ≤ v414 ∧ v414 < (x0.length : Int) then
k0 ((x0.getD v414.toNat ((0 : Int), ((0 : Int), ([], ())))).2.1 == (1 : Int))
else none
theorem t37_6 {N cl} {R} (K : KE R) (x0 x1) : exec cl N c37_6 [(0, .v U21 x0), (17, .v .bool x1)] K = (g37_6 x0 x1 (fun y0 => K .normal [(21, .v .bool y0)])) := by
  kernel_rfl
def g37_7 {R : Type} (x0 : Bool) (k0 : V0 → Option R) : Option R :=
k0 [(1 : Int), (2 : Int), (3 : Int)]
theorem t37_7 {N cl} {R} (K : KE R) (x0) : exec cl N c37_7 [(21, .v .bool x0)] K = (g37_7 x0 (fun y0 => K .normal [(4, .own true 3 U2 .no y0)])) := by
  kernel_rfl
theorem kp37_1 (x0) : keep [4] [(21, .v .bool x0)] = [(4, .dead)] := by kernel_rfl
theorem hb37_0 (x0 : Bool) : boolOf? (ent [(21, .v .bool x0)] (.t 21)) = some x0 := by kernel_rfl
theorem kp37_2 : keep [4] [(4, .dead)] = [(4, .dead)] := by kernel_rfl
theorem hb37_1 (x0 : V18) (x1 : Bool) : boolOf? (ent [(0, .v U21 x0), (17, .v .bool x1)] (.t 17)) = some x1 := by kernel_rfl
theorem hb37_2 (x0 : V18) (x1 : Int) (x2 : Bool) : boolOf? (ent [(0, .v U21 x0), (5, .v U2 x1), (8, .v .bool x2)] (.t 8)) = some x2 := by kernel_rfl
def g37_12 {R : Type} (k0 : V0 → Option R) : Option R :=
k0 [(1 : Int), (2 : Int), (3 : Int), (4 : Int)]
theorem t37_12 {N cl} {R} (K : KE R) : exec cl N c37_12 [(4, .dead)] K = (g37_12 (fun y0 => K .normal [(4, .own true 3 U2 .no y0)])) := by
  kernel_rfl
def g37_13 {R : Type} (S13 : V18 → Option (Bool)) (S14 : V18 → Option (Int)) (x0 : V18) (x1 : V18) (k0 : V0 → Option R) : Option R :=
(g37_0 x0 x1 (fun y0 y1 => (g37_1 S14 y0 y1 (fun y0 y1 y2 => (g37_2 S13 y0 y1 y2 (fun y0 y1 y2 => brB y2 (g37_3 y0 y1 y2 (fun y0 => ((fun y0 => (k0 y0)) y0))) (g37_4 y0 y1 y2 (fun y0 y1 => brB y1 (g37_5 y0 y1 (fun y0 => ((fun y0 => (k0 y0)) y0))) (g37_6 y0 y1 (fun y0 => brB y0 (g37_7 y0 (fun y0 => ((fun y0 => (k0 y0)) y0))) (g37_12 (fun y0 => (k0 y0)))))))))))))
theorem t37_13 {N cl} (S13) (S14) (h13 : (ctr13 S13).holds cl) (h14 : (ctr14 S14).holds cl) {R} (K : KE R) (x0 x1) : exec cl N c37_13 [(0, .v U21 x0), (1, .v U21 x1)] K = (g37_13 S13 S14 x0 x1 (fun y0 => K .ret [(4, .own true 3 U2 .no y0)])) := by
  simp only [c37_13, exec_seq, seqK_normal, seqK_exit, seqK_ret, t37_0, t37_1 S14 h14, c37_11, exec_out, exec_block, t37_2 S13 h13, c37_10, exec_cond', hb37_2, Option.bind_some, brB_true, brB_false, t37_3, exec_ret, t37_4, c37_9, hb37_1, t37_5, t37_6, c37_8, hb37_0, t37_7, exec_skip, kp37_0, kp37_1, kp37_2, blockK_normal, blockK_ret, blockK_eq, t37_12]
  rfl
theorem rk37_0 (y0 : V0) : retK d37 .ret [(4, .own true 3 U2 .no y0)] = some [.own true 3 U2 .no y0] := by kernel_rfl
def g37 {R : Type} (S13 : V18 → Option (Bool)) (S14 : V18 → Option (Int)) (x0 : V18) (x1 : V18) (k : V0 → Option R) : Option R :=
(g37_13 S13 S14 x0 x1 (fun y0 => k y0))
theorem gen37 {N : Nat} {cl : Cal} (S13 : V18 → Option (Bool)) (S14 : V18 → Option (Int)) (h13 : (ctr13 S13).holds cl) (h14 : (ctr14 S14).holds cl) (x0 : V18) (x1 : V18) {R : Type} (k : List E → Option R) : exec cl N c37 (params 0 [.v U21 x0, .v U21 x1]) (fun e env => (retK d37 e env).bind k) = g37 S13 S14 x0 x1 (fun (r0 : V0) => k [.own true 3 U2 .no r0]) := by
  have e0 : params 0 [.v U21 x0, .v U21 x1] = [(0, .v U21 x0), (1, .v U21 x1)] := by kernel_rfl
  simp only [c37, e0, t37_13 S13 S14 h13 h14, rk37_0, Option.bind_some]
  rfl
def ctr37 (S : V18 → V18 → Option V3) : Ctr := { A := V18 × V18 × Unit, B := V0, f := 37, enc := fun a => [.v U21 a.1, .v U21 a.2.1], dec := (decC (decV U21) (decC (decV U21) dec0)), S := fun a => S a.1 a.2.1, ent := fun b => [.own true 3 U2 .no b], ok := (decV_cons (T := U21) (decV_cons (T := U21) (fun es b h => dec0_some h))) }
def S37 (N : Nat) (x0 : V18) (x1 : V18) : Option V3 := g37 (S13 N) (S14 N) x0 x1 (fun (r0 : V0) => some (r0))
def g39_0 {R : Type} (x0 : Int) (x1 : Int) (k0 : Int → Int → Option R) : Option R :=
k0 x0 x1
theorem t39_0 {N cl} {R} (K : KE R) (x0 x1) : exec cl N c39_0 [(0, .v U2 x0), (1, .v U2 x1)] K = (g39_0 x0 x1 (fun y0 y1 => K .normal [(0, .v U2 y0), (1, .v U2 y1)])) := by
  kernel_rfl
def g39_1 {R : Type} (x0 : Int) (x1 : Int) (k0 : Int → Int → Option R) : Option R :=
k0 x1 x0
theorem t39_1 {N cl} {R} (K : KE R) (x0 x1) : exec cl N c39_1 [(0, .v U2 x0), (1, .v U2 x1)] K = (g39_1 x0 x1 (fun y0 y1 => K .normal [(1, .v U2 y0), (5, .v U2 y1)])) := by
  kernel_rfl
def g39_2 {R : Type} (x0 : Int) (x1 : Int) (k0 : Int → Int → Bool → Option R) : Option R :=
k0 x0 x1 (x1 == (2 : Int))
theorem t39_2 {N cl} {R} (K : KE R) (x0 x1) : exec cl N c39_2 [(1, .v U2 x0), (5, .v U2 x1)] K = (g39_2 x0 x1 (fun y0 y1 y2 => K .normal [(1, .v U2 y0), (5, .v U2 y1), (6, .v .bool y2)])) := by
  kernel_rfl
def g39_3 {R : Type} (x0 : Int) (x1 : Int) (x2 : Bool) (k0 : Int → Option R) : Option R :=
k0 (10 : Int)
theorem t39_3 {N cl} {R} (K : KE R) (x0 x1 x2) : exec cl N c39_3 [(1, .v U2 x0), (5, .v U2 x1), (6, .v .bool x2)] K = (g39_3 x0 x1 x2 (fun y0 => K .normal [(4, .v U2 y0)])) := by
  kernel_rfl
theorem kp39_0 (x0) : keep [1, 4] [(4, .v U2 x0)] = [(1, .dead), (4, .v U2 x0)] := by kernel_rfl
def g39_4 {R : Type} (x0 : Int) (x1 : Int) (x2 : Bool) (k0 : Int → Int → Bool → Option R) : Option R :=
k0 x0 x1 (x1 == (3 : Int))
theorem t39_4 {N cl} {R} (K : KE R) (x0 x1 x2) : exec cl N c39_4 [(1, .v U2 x0), (5, .v U2 x1), (6, .v .bool x2)] K = (g39_4 x0 x1 x2 (fun y0 y1 y2 => K .normal [(1, .v U2 y0), (5, .v U2 y1), (8, .v .bool y2)])) := by
  kernel_rfl
def g39_5 {R : Type} (x0 : Int) (x1 : Int) (x2 : Bool) (k0 : Int → Option R) : Option R :=
k0 (11 : Int)
theorem t39_5 {N cl} {R} (K : KE R) (x0 x1 x2) : exec cl N c39_5 [(1, .v U2 x0), (5, .v U2 x1), (8, .v .bool x2)] K = (g39_5 x0 x1 x2 (fun y0 => K .normal [(4, .v U2 y0)])) := by
  kernel_rfl
def g39_6 {R : Type} (x0 : Int) (x1 : Int) (x2 : Bool) (k0 : Int → Bool → Option R) : Option R :=
k0 x0 (x1 == (4 : Int))
theorem t39_6 {N cl} {R} (K : KE R) (x0 x1 x2) : exec cl N c39_6 [(1, .v U2 x0), (5, .v U2 x1), (8, .v .bool x2)] K = (g39_6 x0 x1 x2 (fun y0 y1 => K .normal [(1, .v U2 y0), (10, .v .bool y1)])) := by
  kernel_rfl
def g39_7 {R : Type} (x0 : Int) (x1 : Bool) (k0 : Int → Option R) : Option R :=
k0 (12 : Int)
theorem t39_7 {N cl} {R} (K : KE R) (x0 x1) : exec cl N c39_7 [(1, .v U2 x0), (10, .v .bool x1)] K = (g39_7 x0 x1 (fun y0 => K .normal [(4, .v U2 y0)])) := by
  kernel_rfl
theorem kp39_1 (x0 x1) : keep [1, 4] [(1, .v U2 x0), (10, .v .bool x1)] = [(1, .v U2 x0), (4, .dead)] := by kernel_rfl
theorem hb39_0 (x0 : Int) (x1 : Bool) : boolOf? (ent [(1, .v U2 x0), (10, .v .bool x1)] (.t 10)) = some x1 := by kernel_rfl
theorem kp39_2 (x0) : keep [1, 4] [(1, .dead), (4, .v U2 x0)] = [(1, .dead), (4, .v U2 x0)] := by kernel_rfl
theorem kp39_3 (x0) : keep [1, 4] [(1, .v U2 x0), (4, .dead)] = [(1, .v U2 x0), (4, .dead)] := by kernel_rfl
theorem hb39_1 (x0 : Int) (x1 : Int) (x2 : Bool) : boolOf? (ent [(1, .v U2 x0), (5, .v U2 x1), (8, .v .bool x2)] (.t 8)) = some x2 := by kernel_rfl
theorem hb39_2 (x0 : Int) (x1 : Int) (x2 : Bool) : boolOf? (ent [(1, .v U2 x0), (5, .v U2 x1), (6, .v .bool x2)] (.t 6)) = some x2 := by kernel_rfl
def g39_12 {R : Type} (x0 : Int) (k0 : Bool → Option R) : Option R :=
k0 (x0 == (2 : Int))
theorem t39_12 {N cl} {R} (K : KE R) (x0) : exec cl N c39_12 [(1, .v U2 x0), (4, .dead)] K = (g39_12 x0 (fun y0 => K .normal [(13, .v .bool y0)])) := by
  kernel_rfl
def g39_13 {R : Type} (x0 : Bool) (k0 : Int → Option R) : Option R :=
k0 (9 : Int)
theorem t39_13 {N cl} {R} (K : KE R) (x0) : exec cl N c39_13 [(13, .v .bool x0)] K = (g39_13 x0 (fun y0 => K .normal [(4, .v U2 y0)])) := by
  kernel_rfl
theorem kp39_4 (x0) : keep [4] [(4, .v U2 x0)] = [(4, .v U2 x0)] := by kernel_rfl
theorem kp39_5 (x0) : keep [4] [(13, .v .bool x0)] = [(4, .dead)] := by kernel_rfl
theorem hb39_3 (x0 : Bool) : boolOf? (ent [(13, .v .bool x0)] (.t 13)) = some x0 := by kernel_rfl
def g39_15 {R : Type} (k0 : Int → Option R) : Option R :=
k0 (8 : Int)
theorem t39_15 {N cl} {R} (K : KE R) : exec cl N c39_15 [(4, .dead)] K = (g39_15 (fun y0 => K .normal [(4, .v U2 y0)])) := by
  kernel_rfl
def g39_16 {R : Type} (x0 : Int) (x1 : Int) (k0 : Int → Option R) (k1 : Int → Option R) : Option R :=
(g39_0 x0 x1 (fun y0 y1 => (g39_1 y0 y1 (fun y0 y1 => (g39_2 y0 y1 (fun y0 y1 y2 => brB y2 (g39_3 y0 y1 y2 (fun y0 => ((fun y0 => (k0 y0)) y0))) (g39_4 y0 y1 y2 (fun y0 y1 y2 => brB y2 (g39_5 y0 y1 y2 (fun y0 => ((fun y0 => (k0 y0)) y0))) (g39_6 y0 y1 y2 (fun y0 y1 => brB y1 (g39_7 y0 y1 (fun y0 => ((fun y0 => (k0 y0)) y0))) ((fun y0 => ((fun y0 => ((fun y0 => ((fun y0 => (g39_12 y0 (fun y0 => brB y0 (g39_13 y0 (fun y0 => ((fun y0 => (k1 y0)) y0))) (g39_15 (fun y0 => (k1 y0)))))) y0)) y0)) y0)) y0)))))))))))
theorem t39_16 {N cl} {R} (K : KE R) (x0 x1) : exec cl N c39_16 [(0, .v U2 x0), (1, .v U2 x1)] K = (g39_16 x0 x1 (fun y0 => K .ret [(1, .dead), (4, .v U2 y0)]) (fun y0 => K .ret [(4, .v U2 y0)])) := by
  simp only [c39_16, exec_seq, seqK_normal, seqK_exit, seqK_ret, t39_0, t39_1, c39_11, exec_out, exec_block, t39_2, c39_10, exec_cond', hb39_2, Option.bind_some, brB_true, brB_false, t39_3, exec_ret, t39_4, c39_9, hb39_1, t39_5, t39_6, c39_8, hb39_0, t39_7, exec_skip, kp39_0, kp39_1, kp39_2, kp39_3, blockK_normal, blockK_ret, blockK_eq, t39_12, c39_14, hb39_3, t39_13, kp39_4, kp39_5, t39_15]
  rfl
theorem rk39_0 (y0 : Int) : retK d39 .ret [(1, .dead), (4, .v U2 y0)] = some [.v U2 y0] := by kernel_rfl
theorem rk39_1 (y0 : Int) : retK d39 .ret [(4, .v U2 y0)] = some [.v U2 y0] := by kernel_rfl
def g39 {R : Type} (x0 : Int) (x1 : Int) (k : Int → Option R) : Option R :=
(g39_16 x0 x1 (fun y0 => k y0) (fun y0 => k y0))
theorem gen39 {N : Nat} {cl : Cal} (x0 : Int) (x1 : Int) {R : Type} (k : List E → Option R) : exec cl N c39 (params 0 [.v U2 x0, .v U2 x1]) (fun e env => (retK d39 e env).bind k) = g39 x0 x1 (fun (r0 : Int) => k [.v U2 r0]) := by
  have e0 : params 0 [.v U2 x0, .v U2 x1] = [(0, .v U2 x0), (1, .v U2 x1)] := by kernel_rfl
  simp only [c39, e0, t39_16, rk39_0, rk39_1, Option.bind_some]
  rfl
def ctr39 (S : Int → Int → Option (Int)) : Ctr := { A := Int × Int × Unit, B := Int, f := 39, enc := fun a => [.v U2 a.1, .v U2 a.2.1], dec := (decC (decV U2) (decC (decV U2) dec0)), S := fun a => S a.1 a.2.1, ent := fun b => [.v U2 b], ok := (decV_cons (T := U2) (decV_cons (T := U2) (fun es b h => dec0_some h))) }
def S39 (N : Nat) (x0 : Int) (x1 : Int) : Option (Int) := g39 x0 x1 (fun (r0 : Int) => some (r0))
end Go.Fw.L19
