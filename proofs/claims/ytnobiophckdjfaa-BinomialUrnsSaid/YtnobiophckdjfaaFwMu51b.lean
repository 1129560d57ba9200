/- Printed by an own program for this claim: the machine's code of functions, or their typed forms with their equations; no conditions. -/
import Derived.Test.YtnobiophckdjfaaFwMu51a
import Derived.Test.YtnobiophckdjfaaFwB4
set_option linter.unusedVariables false
set_option linter.unusedSimpArgs false
namespace Go.Fw.L51
open Go Go.Fw
set_option maxRecDepth 100000
set_option linter.unusedVariables false
set_option linter.unusedSimpArgs false
variable {N : Nat} {cl : Cal} {R : Type} {K : KE R}
def g113_0 (k0 : V0 → Option R) (x0 : V0) : Option R :=
k0 x0
theorem t113_0 (x0) : exec cl N c113_0 [(0, .v U2 x0)] K = (g113_0 (fun y0 => K .normal [(0, .v U2 y0)]) x0) := by
 kernel_rfl
theorem kp113_0 (x0) : keep [0] [(0, .v U2 x0)] = [(0, .v U2 x0)] := by kernel_rfl
def g113_1 (k0 : V0 → Bool → Option R) (x0 : V0) : Option R :=
brB (decide ((x0.length : Int) > (0 : Int))) (let v548 : Int := (IntKind.i64.wrap ((x0.length : Int) - (1 : Int)))
if 0 ≤ v548 ∧ v548 < (x0.length : Int) then
k0 x0 ((x0.getD v548.toNat (0 : Int)) == (0 : Int))
else none) (k0 x0 false)
theorem t113_1 (x0) : exec cl N c113_1 [(0, .v U2 x0)] K = (g113_1 (fun y0 y1 => K .normal (e1 y0 y1)) x0) := by
 kernel_rfl
theorem kp113_1 (x0 x1) : keep [0] (e1 x0 x1) = [(0, .v U2 x0)] := by kernel_rfl
theorem hb113_0 (x0 x1) : boolOf? (ent (e1 x0 x1) (.t 14)) = some x1 := by kernel_rfl
def g113_3 (k0 : V0 → Option R) (x0 : V0) : Option R :=
let v550 : Int := (IntKind.i64.wrap ((x0.length : Int) - (1 : Int)))
if 0 ≤ (0 : Int) ∧ (0 : Int) ≤ v550 ∧ v550 ≤ (x0.length : Int) ∧ (x0.length : Int) ≤ (x0.length : Int) then
k0 ((x0.drop (0 : Int).toNat).take (v550.toNat - (0 : Int).toNat))
else none
theorem t113_3 (x0) : exec cl N c113_3 [(0, .v U2 x0)] K = (g113_3 (fun y0 => K .normal [(0, .v U2 y0)]) x0) := by
 kernel_rfl
def g113_5 (k0 : V0 → Option R) (k1 : V0 → Option R) (x0 : V0) : Option R :=
(g113_1 (fun y0 y1 => brB y1 ((g113_3 k0) y0) (k1 y0)) x0)
theorem t113_5 (x0) : exec cl N c113_5 [(0, .v U2 x0)] K = (g113_5 (fun y0 => K .normal [(0, .v U2 y0)]) (fun y0 => K (.exit 0) [(0, .v U2 y0)]) x0) := by
 simp only [c113_5, exec_seq, seqK_normal, seqK_exit, seqK_ret, t113_1, c113_2, exec_out, exec_cond', hb113_0, Option.bind_some, brB_true, brB_false, exec_skip, exec_exit, kp113_1, c113_4, exec_block, t113_3, blockK_normal, blockK_ret, blockK_eq, kp113_0]
 rfl
def l113_6 {R : Type} (k0 : V0 → Option R) : Nat → V0 → Option R
 | 0, _ => none
 | m + 1, x0 => (g113_5 (l113_6 k0 m) k0 x0)
theorem lt113_6 : ∀ (m) (x0), iter [0] (fun env K => exec cl N c113_5 env K) K m [(0, .v U2 x0)] = l113_6 (fun y0 => K (.exit 0) [(0, .v U2 y0)]) m x0 := by
 intro m
 induction m with
 | zero => intros; rfl
 | succ m ih =>
   intro x0
   simp only [iter_succ, t113_5, loopK_normal, loopK_exit, loopK_ret, kp113_0, ih]
   rfl
def g113_6 (N : Nat) (k0 : V0 → Option R) (x0 : V0) : Option R :=
l113_6 k0 N x0
theorem t113_6 (x0) : exec cl N c113_6 [(0, .v U2 x0)] K = (g113_6 N (fun y0 => K (.exit 0) [(0, .v U2 y0)]) x0) := by
 simp only [c113_6, exec_out, exec_loop, kp113_0, lt113_6, kp113_0]
 rfl
def g113_8 (k0 : V0 → Option R) (x0 : V0) : Option R :=
k0 x0
theorem t113_8 (x0) : exec cl N c113_8 [(0, .v U2 x0)] K = (g113_8 (fun y0 => K .normal [(2, .v U2 y0)]) x0) := by
 kernel_rfl
def g113_9 (N : Nat) (k0 : V0 → Option R) (x0 : V0) : Option R :=
(g113_0 (g113_6 N ((g113_8 k0))) x0)
theorem t113_9 (x0) : exec cl N c113_9 [(0, .v U2 x0)] K = (g113_9 N (fun y0 => K .ret [(2, .v U2 y0)]) x0) := by
 simp only [c113_9, exec_seq, seqK_normal, seqK_exit, seqK_ret, t113_0, c113_7, exec_out, exec_block, t113_6, blockK_normal, blockK_ret, blockK_eq, kp113_0, t113_8, exec_ret]
 rfl
theorem rk113_0 (y0) : retK d113 .ret [(2, .v U2 y0)] = some [.v U2 y0] := by kernel_rfl
def g113 (N : Nat) (x0 : V0) (k : V0 → Option R) : Option R :=
(g113_9 N k x0)
theorem gen113 (x0) (k : List E → Option R) : exec cl N c113 [(0, .v U2 x0)] (fun e env => (retK d113 e env).bind k) = g113 N x0 (fun r0 => k [.v U2 r0]) := by
 simp only [c113, t113_9, rk113_0, Option.bind_some]
 rfl
def ctr113 (S : V0 → Option V1) : Ctr := cv1 113 U2 S fun b => [.v U2 b]
def S113 (N : Nat) (x0 : V0) : Option V1 := g113 N x0 (fun (r0 : V0) => some (r0))
def g109_16 (k0 : V0 → V0 → Int → Option R) (x0 : V0) : Option R :=
if 0 ≤ (x0.length : Int) ∧ (x0.length : Int) ≤ (x0.length : Int) ∧ (x0.length : Int) ≤ ((17592186044416 : Nat) : Int) then
k0 x0 (List.replicate (x0.length : Int).toNat (0 : Int)) (0 : Int)
else none
theorem t109_16 (x0) : exec cl N c109_16 [(0, .v U2 x0)] K = (g109_16 (fun y0 y1 y2 => exec cl N (.seq (.seq c109_3 c109_14) (.seq c109_15 .ret)) [(0, .v U2 y0), (3, .own true 3 U1 .no y1), (4, .v U1 y2)] K) x0) := by
 kernel_rfl
def g109_3 (k0 : V0 → V0 → Int → Int → Option R) (x0 x1 : V0) (x2 : Int) : Option R :=
k0 x0 x1 x2 (IntKind.i64.wrap ((x0.length : Int) - (1 : Int)))
theorem t109_3 (x0 x1 x2) : exec cl N c109_3 [(0, .v U2 x0), (3, .own true 3 U1 .no x1), (4, .v U1 x2)] K = (g109_3 (fun y0 y1 y2 y3 => K .normal (e116 y0 y1 y2 y3)) x0 x1 x2) := by
 kernel_rfl
theorem kp109_0 (x0 x1 x2 x3) : keep [0, 3, 4, 5] (e116 x0 x1 x2 x3) = (e116 x0 x1 x2 x3) := by kernel_rfl
def g109_4 (k0 : V0 → V0 → Int → Int → Bool → Option R) (x0 x1 : V0) (x2 x3 : Int) : Option R :=
k0 x0 x1 x2 x3 (decide (x3 ≥ (0 : Int)))
theorem t109_4 (x0 x1 x2 x3) : exec cl N c109_4 (e116 x0 x1 x2 x3) K = (g109_4 (fun y0 y1 y2 y3 y4 => K .normal (e117 y0 y1 y2 y3 y4)) x0 x1 x2 x3) := by
 kernel_rfl
theorem kp109_1 (x0 x1 x2 x3 x4) : keep [0, 3, 4, 5] (e117 x0 x1 x2 x3 x4) = (e116 x0 x1 x2 x3) := by kernel_rfl
theorem hb109_0 (x0 x1 x2 x3 x4) : boolOf? (ent (e117 x0 x1 x2 x3 x4) (.t 14)) = some x4 := by kernel_rfl
def g109_9 (k0 : V0 → V0 → Int → Int → Option R) (x0 x1 : V0) (x2 x3 : Int) : Option R :=
if 0 ≤ x3 ∧ x3 < (x0.length : Int) then
let v561 : Int := (IntKind.i64.wrap ((IntKind.i64.wrap (x2 * (10000 : Int))) + (x0.getD x3.toNat (0 : Int))))
if 0 ≤ x3 ∧ x3 < (x1.length : Int) then
if x3.toNat < x1.length then
k0 x0 (x1.set x3.toNat (IntKind.i64.wrap (Int.tdiv v561 (2 : Int)))) (Int.tmod v561 (2 : Int)) x3
else none
else none
else none
theorem t109_9 (x0 x1 x2 x3) : exec cl N c109_9 (e116 x0 x1 x2 x3) K = (g109_9 (fun y0 y1 y2 y3 => K .normal (e116 y0 y1 y2 y3)) x0 x1 x2 x3) := by
 kernel_rfl
def g109_11 (k0 : V0 → V0 → Int → Int → Option R) (x0 x1 : V0) (x2 x3 : Int) : Option R :=
k0 x0 x1 x2 (IntKind.i64.wrap (x3 - (1 : Int)))
theorem t109_11 (x0 x1 x2 x3) : exec cl N c109_11 (e116 x0 x1 x2 x3) K = (g109_11 (fun y0 y1 y2 y3 => K .normal (e116 y0 y1 y2 y3)) x0 x1 x2 x3) := by
 kernel_rfl
def g109_12 (k0 : V0 → V0 → Int → Int → Option R) (k1 : V0 → V0 → Int → Int → Option R) (x0 x1 : V0) (x2 x3 : Int) : Option R :=
(g109_4 (fun y0 y1 y2 y3 y4 => brB y4 ((g109_9 ((g109_11 k0))) y0 y1 y2 y3) (k1 y0 y1 y2 y3)) x0 x1 x2 x3)
theorem t109_12 (x0 x1 x2 x3) : exec cl N c109_12 (e116 x0 x1 x2 x3) K = (g109_12 (fun y0 y1 y2 y3 => K .normal (e116 y0 y1 y2 y3)) (fun y0 y1 y2 y3 => K (.exit 0) (e116 y0 y1 y2 y3)) x0 x1 x2 x3) := by
 simp only [c109_12, exec_seq, seqK_normal, seqK_exit, seqK_ret, t109_4, c109_5, exec_out, exec_cond', hb109_0, Option.bind_some, brB_true, brB_false, exec_skip, exec_exit, kp109_1, c109_10, exec_block, t109_9, blockK_normal, blockK_ret, blockK_eq, kp109_0, t109_11]
 rfl
def l109_13 {R : Type} (k0 : V0 → V0 → Int → Int → Option R) : Nat → V0 → V0 → Int → Int → Option R
 | 0, _, _, _, _ => none
 | m + 1, x0, x1, x2, x3 => (g109_12 (l109_13 k0 m) k0 x0 x1 x2 x3)
theorem lt109_13 : ∀ (m) (x0 x1 x2 x3), iter [0, 3, 4, 5] (fun env K => exec cl N c109_12 env K) K m (e116 x0 x1 x2 x3) = l109_13 (fun y0 y1 y2 y3 => K (.exit 0) (e116 y0 y1 y2 y3)) m x0 x1 x2 x3 := by
 intro m
 induction m with
 | zero => intros; rfl
 | succ m ih =>
   intro x0 x1 x2 x3
   simp only [iter_succ, t109_12, loopK_normal, loopK_exit, loopK_ret, kp109_0, ih]
   rfl
theorem kp109_2 (x0 x1 x2 x3) : keep [3] (e116 x0 x1 x2 x3) = (e118 x1) := by kernel_rfl
def g109_13 (N : Nat) (k0 : V0 → Option R) (x0 x1 : V0) (x2 x3 : Int) : Option R :=
l109_13 (fun y0 y1 y2 y3 => k0 y1) N x0 x1 x2 x3
theorem t109_13 (x0 x1 x2 x3) : exec cl N c109_13 (e116 x0 x1 x2 x3) K = (g109_13 N (fun y0 => K (.exit 0) (e118 y0)) x0 x1 x2 x3) := by
 simp only [c109_13, exec_out, exec_loop, kp109_0, lt109_13, kp109_2]
 rfl
theorem kp109_3 (x0) : keep [3] (e118 x0) = (e118 x0) := by kernel_rfl
def g109_15 (S113 : V0 → Option V1) (k0 : V0 → Option R) (x0 : V0) : Option R :=
(S113 x0).bind fun r565 =>
k0 r565
theorem t109_15 (S113) (h113 : (ctr113 S113).holds cl) (x0) : exec cl N c109_15 (e118 x0) K = (g109_15 S113 (fun y0 => K .normal [(2, .v U2 y0)]) x0) := by
 rw [← put_eq h113]
 kernel_rfl
def g109_16b (N : Nat) (S113 : V0 → Option V1) (k0 : V0 → Option R) (x0 : V0) : Option R :=
(g109_16 (g109_3 (g109_13 N ((g109_15 S113 k0)))) x0)
theorem t109_16b (S113) (h113 : (ctr113 S113).holds cl) (x0) : exec cl N c109_16 [(0, .v U2 x0)] K = (g109_16b N S113 (fun y0 => K .ret [(2, .v U2 y0)]) x0) := by
 simp only [exec_seq, seqK_normal, seqK_exit, seqK_ret, t109_16, t109_3, c109_14, exec_out, exec_block, t109_13, blockK_normal, blockK_ret, blockK_eq, kp109_3, t109_15 S113 h113, exec_ret]
 rfl
theorem rk109_0 (y0) : retK d109 .ret [(2, .v U2 y0)] = some [.v U2 y0] := by kernel_rfl
def g109 (N : Nat) (S113 : V0 → Option V1) (x0 : V0) (k : V0 → Option R) : Option R :=
(g109_16b N S113 k x0)
theorem gen109 (S113) (h113 : (ctr113 S113).holds cl) (x0) (k : List E → Option R) : exec cl N c109 [(0, .v U2 x0)] (fun e env => (retK d109 e env).bind k) = g109 N S113 x0 (fun r0 => k [.v U2 r0]) := by
 simp only [c109, t109_16b S113 h113, rk109_0, Option.bind_some]
 rfl
def ctr109 (S : V0 → Option V1) : Ctr := cv1 109 U2 S fun b => [.v U2 b]
def S109 (N : Nat) (x0 : V0) : Option V1 := g109 N (S113 N) x0 (fun (r0 : V0) => some (r0))
def g90_0 (k0 : V0 → V0 → Option R) (x0 x1 : V0) : Option R :=
k0 x0 x1
theorem t90_0 (x0 x1) : exec cl N c90_0 (e14 x0 x1) K = (g90_0 (fun y0 y1 => K .normal (e14 y0 y1)) x0 x1) := by
 kernel_rfl
def g90_1 (k0 : V0 → V0 → Bool → Option R) (x0 x1 : V0) : Option R :=
k0 x0 x1 (decide ((x0.length : Int) < (x1.length : Int)))
theorem t90_1 (x0 x1) : exec cl N c90_1 (e14 x0 x1) K = (g90_1 (fun y0 y1 y2 => K .normal (e23 y0 y1 y2)) x0 x1) := by
 kernel_rfl
def g90_2 (k0 : Int → Option R) (x0 x1 : V0) (x2 : Bool) : Option R :=
k0 (-1 : Int)
theorem t90_2 (x0 x1 x2) : exec cl N c90_2 (e23 x0 x1 x2) K = (g90_2 (fun y0 => K .normal [(4, .v U1 y0)]) x0 x1 x2) := by
 kernel_rfl
theorem kp90_0 (x0) : keep [0, 1, 4] [(4, .v U1 x0)] = (e24 x0) := by kernel_rfl
theorem kp90_1 (x0 x1 x2) : keep [0, 1, 4] (e23 x0 x1 x2) = (e25 x0 x1) := by kernel_rfl
theorem hb90_0 (x0 x1 x2) : boolOf? (ent (e23 x0 x1 x2) (.t 10)) = some x2 := by kernel_rfl
def g90_4 (k0 : V0 → V0 → Bool → Option R) (x0 x1 : V0) : Option R :=
k0 x0 x1 (decide ((x0.length : Int) > (x1.length : Int)))
theorem t90_4 (x0 x1) : exec cl N c90_4 (e25 x0 x1) K = (g90_4 (fun y0 y1 y2 => K .normal (e119 y0 y1 y2)) x0 x1) := by
 kernel_rfl
def g90_5 (k0 : Int → Option R) (x0 x1 : V0) (x2 : Bool) : Option R :=
k0 (1 : Int)
theorem t90_5 (x0 x1 x2) : exec cl N c90_5 (e119 x0 x1 x2) K = (g90_5 (fun y0 => K .normal [(4, .v U1 y0)]) x0 x1 x2) := by
 kernel_rfl
theorem kp90_2 (x0 x1 x2) : keep [0, 1, 4] (e119 x0 x1 x2) = (e25 x0 x1) := by kernel_rfl
theorem hb90_1 (x0 x1 x2) : boolOf? (ent (e119 x0 x1 x2) (.t 15)) = some x2 := by kernel_rfl
def g90_7 (k0 : V0 → V0 → Int → Option R) (x0 x1 : V0) : Option R :=
k0 x0 x1 (IntKind.i64.wrap ((x0.length : Int) - (1 : Int)))
theorem t90_7 (x0 x1) : exec cl N c90_7 (e25 x0 x1) K = (g90_7 (fun y0 y1 y2 => K .normal (e26 y0 y1 y2)) x0 x1) := by
 kernel_rfl
theorem kp90_3 (x0 x1 x2) : keep [0, 1, 5] (e26 x0 x1 x2) = (e26 x0 x1 x2) := by kernel_rfl
def g90_8 (k0 : V0 → V0 → Int → Bool → Option R) (x0 x1 : V0) (x2 : Int) : Option R :=
k0 x0 x1 x2 (decide (x2 ≥ (0 : Int)))
theorem t90_8 (x0 x1 x2) : exec cl N c90_8 (e26 x0 x1 x2) K = (g90_8 (fun y0 y1 y2 y3 => K .normal (e27 y0 y1 y2 y3)) x0 x1 x2) := by
 kernel_rfl
theorem kp90_4 (x0 x1 x2 x3) : keep [0, 1, 5] (e27 x0 x1 x2 x3) = (e26 x0 x1 x2) := by kernel_rfl
theorem hb90_2 (x0 x1 x2 x3) : boolOf? (ent (e27 x0 x1 x2 x3) (.t 20)) = some x3 := by kernel_rfl
def g90_10 (k0 : V0 → V0 → Int → Bool → Option R) (x0 x1 : V0) (x2 : Int) : Option R :=
if 0 ≤ x2 ∧ x2 < (x0.length : Int) then
if 0 ≤ x2 ∧ x2 < (x1.length : Int) then
k0 x0 x1 x2 (decide ((x0.getD x2.toNat (0 : Int)) < (x1.getD x2.toNat (0 : Int))))
else none
else none
theorem t90_10 (x0 x1 x2) : exec cl N c90_10 (e26 x0 x1 x2) K = (g90_10 (fun y0 y1 y2 y3 => K .normal (e28 y0 y1 y2 y3)) x0 x1 x2) := by
 kernel_rfl
def g90_11 (k0 : Int → Option R) (x0 x1 : V0) (x2 : Int) (x3 : Bool) : Option R :=
k0 (-1 : Int)
theorem t90_11 (x0 x1 x2 x3) : exec cl N c90_11 (e28 x0 x1 x2 x3) K = (g90_11 (fun y0 => K .normal [(4, .v U1 y0)]) x0 x1 x2 x3) := by
 kernel_rfl
theorem kp90_5 (x0) : keep [0, 1, 4, 5] [(4, .v U1 x0)] = (e29 x0) := by kernel_rfl
theorem kp90_6 (x0 x1 x2 x3) : keep [0, 1, 4, 5] (e28 x0 x1 x2 x3) = (e30 x0 x1 x2) := by kernel_rfl
theorem hb90_3 (x0 x1 x2 x3) : boolOf? (ent (e28 x0 x1 x2 x3) (.t 31)) = some x3 := by kernel_rfl
def g90_13 (k0 : V0 → V0 → Int → Bool → Option R) (x0 x1 : V0) (x2 : Int) : Option R :=
if 0 ≤ x2 ∧ x2 < (x0.length : Int) then
if 0 ≤ x2 ∧ x2 < (x1.length : Int) then
k0 x0 x1 x2 (decide ((x0.getD x2.toNat (0 : Int)) > (x1.getD x2.toNat (0 : Int))))
else none
else none
theorem t90_13 (x0 x1 x2) : exec cl N c90_13 (e30 x0 x1 x2) K = (g90_13 (fun y0 y1 y2 y3 => K .normal (e120 y0 y1 y2 y3)) x0 x1 x2) := by
 kernel_rfl
def g90_14 (k0 : Int → Option R) (x0 x1 : V0) (x2 : Int) (x3 : Bool) : Option R :=
k0 (1 : Int)
theorem t90_14 (x0 x1 x2 x3) : exec cl N c90_14 (e120 x0 x1 x2 x3) K = (g90_14 (fun y0 => K .normal [(4, .v U1 y0)]) x0 x1 x2 x3) := by
 kernel_rfl
theorem kp90_7 (x0 x1 x2 x3) : keep [0, 1, 4, 5] (e120 x0 x1 x2 x3) = (e30 x0 x1 x2) := by kernel_rfl
theorem hb90_4 (x0 x1 x2 x3) : boolOf? (ent (e120 x0 x1 x2 x3) (.t 40)) = some x3 := by kernel_rfl
theorem kp90_8 (x0) : keep [0, 1, 4, 5] (e29 x0) = (e29 x0) := by kernel_rfl
theorem kp90_9 (x0 x1 x2) : keep [0, 1, 4, 5] (e30 x0 x1 x2) = (e30 x0 x1 x2) := by kernel_rfl
def g90_17 (k0 : V0 → V0 → Int → Option R) (x0 x1 : V0) (x2 : Int) : Option R :=
k0 x0 x1 (IntKind.i64.wrap (x2 - (1 : Int)))
theorem t90_17 (x0 x1 x2) : exec cl N c90_17 (e30 x0 x1 x2) K = (g90_17 (fun y0 y1 y2 => K .normal (e26 y0 y1 y2)) x0 x1 x2) := by
 kernel_rfl
def g90_18 (k0 : Int → Option R) (k1 : V0 → V0 → Int → Option R) (k2 : V0 → V0 → Int → Option R) (x0 x1 : V0) (x2 : Int) : Option R :=
(g90_8 (fun y0 y1 y2 y3 => brB y3 ((g90_10 (fun y0 y1 y2 y3 => brB y3 (g90_11 k0 y0 y1 y2 y3) ((g90_13 (fun y0 y1 y2 y3 => brB y3 (g90_14 k0 y0 y1 y2 y3) (((g90_17 k1)) y0 y1 y2))) y0 y1 y2))) y0 y1 y2) (k2 y0 y1 y2)) x0 x1 x2)
theorem t90_18 (x0 x1 x2) : exec cl N c90_18 (e26 x0 x1 x2) K = (g90_18 (fun y0 => K .ret (e29 y0)) (fun y0 y1 y2 => K .normal (e26 y0 y1 y2)) (fun y0 y1 y2 => K (.exit 0) (e26 y0 y1 y2)) x0 x1 x2) := by
 simp only [c90_18, exec_seq, seqK_normal, seqK_exit, seqK_ret, t90_8, c90_9, exec_out, exec_cond', hb90_2, Option.bind_some, brB_true, brB_false, exec_skip, exec_exit, kp90_4, c90_16, exec_block, t90_10, c90_12, hb90_3, t90_11, exec_ret, kp90_5, kp90_6, t90_13, c90_15, hb90_4, t90_14, kp90_7, blockK_normal, blockK_ret, blockK_eq, kp90_8, kp90_9, t90_17]
 rfl
def l90_19 {R : Type} (k0 : Int → Option R) (k1 : V0 → V0 → Int → Option R) : Nat → V0 → V0 → Int → Option R
 | 0, _, _, _ => none
 | m + 1, x0, x1, x2 => (g90_18 k0 (l90_19 k0 k1 m) k1 x0 x1 x2)
theorem lt90_19 : ∀ (m) (x0 x1 x2), iter [0, 1, 5] (fun env K => exec cl N c90_18 env K) K m (e26 x0 x1 x2) = l90_19 (fun y0 => K .ret (e29 y0)) (fun y0 y1 y2 => K (.exit 0) (e26 y0 y1 y2)) m x0 x1 x2 := by
 intro m
 induction m with
 | zero => intros; rfl
 | succ m ih =>
   intro x0 x1 x2
   simp only [iter_succ, t90_18, loopK_normal, loopK_exit, loopK_ret, kp90_3, ih]
   rfl
theorem kp90_10 (x0) : keep [4] (e29 x0) = [(4, .v U1 x0)] := by kernel_rfl
theorem kp90_11 (x0 x1 x2) : keep [4] (e26 x0 x1 x2) = [(4, .dead)] := by kernel_rfl
def g90_19 (N : Nat) (k0 : Int → Option R) (k1 : Option R) (x0 x1 : V0) (x2 : Int) : Option R :=
l90_19 k0 (fun y0 y1 y2 => k1) N x0 x1 x2
theorem t90_19 (x0 x1 x2) : exec cl N c90_19 (e26 x0 x1 x2) K = (g90_19 N (fun y0 => K .ret [(4, .v U1 y0)]) (K (.exit 0) [(4, .dead)]) x0 x1 x2) := by
 simp only [c90_19, exec_out, exec_loop, kp90_3, lt90_19, kp90_10, kp90_11]
 rfl
theorem kp90_12 (x0) : keep [4] [(4, .v U1 x0)] = [(4, .v U1 x0)] := by kernel_rfl
theorem kp90_13 : keep [4] [(4, .dead)] = [(4, .dead)] := by kernel_rfl
def g90_21 (k0 : Int → Option R) : Option R :=
k0 (0 : Int)
theorem t90_21 : exec cl N c90_21 [(4, .dead)] K = (g90_21 (fun y0 => K .normal [(4, .v U1 y0)])) := by
 kernel_rfl
def g90_22 (N : Nat) (k0 : Int → Option R) (k1 : Int → Option R) (x0 x1 : V0) : Option R :=
(g90_0 (g90_1 (fun y0 y1 y2 => brB y2 (g90_2 k0 y0 y1 y2) ((g90_4 (fun y0 y1 y2 => brB y2 (g90_5 k0 y0 y1 y2) ((g90_7 (g90_19 N k1 (g90_21 k1))) y0 y1))) y0 y1))) x0 x1)
theorem t90_22 (x0 x1) : exec cl N c90_22 (e14 x0 x1) K = (g90_22 N (fun y0 => K .ret (e24 y0)) (fun y0 => K .ret [(4, .v U1 y0)]) x0 x1) := by
 simp only [c90_22, exec_seq, seqK_normal, seqK_exit, seqK_ret, t90_0, t90_1, c90_3, exec_out, exec_cond', hb90_0, Option.bind_some, brB_true, brB_false, t90_2, exec_ret, exec_skip, kp90_0, kp90_1, t90_4, c90_6, hb90_1, t90_5, kp90_2, t90_7, c90_20, exec_block, t90_19, blockK_normal, blockK_ret, blockK_eq, kp90_12, kp90_13, t90_21]
 rfl
theorem rk90_0 (y0) : retK d90 .ret (e24 y0) = some [.v U1 y0] := by kernel_rfl
theorem rk90_1 (y0) : retK d90 .ret [(4, .v U1 y0)] = some [.v U1 y0] := by kernel_rfl
def g90 (N : Nat) (x0 x1 : V0) (k : Int → Option R) : Option R :=
(g90_22 N k k x0 x1)
theorem gen90 (x0 x1) (k : List E → Option R) : exec cl N c90 (e14 x0 x1) (fun e env => (retK d90 e env).bind k) = g90 N x0 x1 (fun r0 => k [.v U1 r0]) := by
 simp only [c90, t90_22, rk90_0, rk90_1, Option.bind_some]
 rfl
def ctr90 (S : V0 → V0 → Option (Int)) : Ctr := cv2 90 U2 U2 S fun b => [.v U1 b]
def S90 (N : Nat) (x0 : V0) (x1 : V0) : Option (Int) := g90 N x0 x1 (fun (r0 : Int) => some (r0))
def g112_0 (k0 : V0 → Int → Option R) (x0 : V0) (x1 : Int) : Option R :=
k0 x0 x1
theorem t112_0 (x0 x1) : exec cl N c112_0 (e121 x0 x1) K = (g112_0 (fun y0 y1 => K .normal (e121 y0 y1)) x0 x1) := by
 kernel_rfl
def g112_1 (k0 : V0 → Int → Bool → Option R) (x0 : V0) (x1 : Int) : Option R :=
k0 x0 x1 (decide (x1 < (x0.length : Int)))
theorem t112_1 (x0 x1) : exec cl N c112_1 (e121 x0 x1) K = (g112_1 (fun y0 y1 y2 => K .normal (e122 y0 y1 y2)) x0 x1) := by
 kernel_rfl
def g112_2 (k0 : Int → Option R) (x0 : V0) (x1 : Int) (x2 : Bool) : Option R :=
if 0 ≤ x1 ∧ x1 < (x0.length : Int) then
k0 (x0.getD x1.toNat (0 : Int))
else none
theorem t112_2 (x0 x1 x2) : exec cl N c112_2 (e122 x0 x1 x2) K = (g112_2 (fun y0 => K .normal [(4, .v U1 y0)]) x0 x1 x2) := by
 kernel_rfl
theorem kp112_0 (x0) : keep [4] [(4, .v U1 x0)] = [(4, .v U1 x0)] := by kernel_rfl
theorem kp112_1 (x0 x1 x2) : keep [4] (e122 x0 x1 x2) = [(4, .dead)] := by kernel_rfl
theorem hb112_0 (x0 x1 x2) : boolOf? (ent (e122 x0 x1 x2) (.t 8)) = some x2 := by kernel_rfl
def g112_4 (k0 : Int → Option R) : Option R :=
k0 (0 : Int)
theorem t112_4 : exec cl N c112_4 [(4, .dead)] K = (g112_4 (fun y0 => K .normal [(4, .v U1 y0)])) := by
 kernel_rfl
def g112_5 (k0 : Int → Option R) (x0 : V0) (x1 : Int) : Option R :=
(g112_0 (g112_1 (fun y0 y1 y2 => brB y2 (g112_2 k0 y0 y1 y2) (g112_4 k0))) x0 x1)
theorem t112_5 (x0 x1) : exec cl N c112_5 (e121 x0 x1) K = (g112_5 (fun y0 => K .ret [(4, .v U1 y0)]) x0 x1) := by
 simp only [c112_5, exec_seq, seqK_normal, seqK_exit, seqK_ret, t112_0, t112_1, c112_3, exec_out, exec_cond', hb112_0, Option.bind_some, brB_true, brB_false, t112_2, exec_ret, exec_skip, kp112_0, kp112_1, t112_4]
 rfl
theorem rk112_0 (y0) : retK d112 .ret [(4, .v U1 y0)] = some [.v U1 y0] := by kernel_rfl
def g112 (x0 : V0) (x1 : Int) (k : Int → Option R) : Option R :=
(g112_5 k x0 x1)
theorem gen112 (x0 x1) (k : List E → Option R) : exec cl N c112 (e121 x0 x1) (fun e env => (retK d112 e env).bind k) = g112 x0 x1 (fun r0 => k [.v U1 r0]) := by
 simp only [c112, t112_5, rk112_0, Option.bind_some]
 rfl
def ctr112 (S : V0 → Int → Option (Int)) : Ctr := cv2 112 U2 U1 S fun b => [.v U1 b]
def S112 (N : Nat) (x0 : V0) (x1 : Int) : Option (Int) := g112 x0 x1 (fun (r0 : Int) => some (r0))
def g91_22 (k0 : V0 → V0 → V0 → Int → Option R) (x0 x1 : V0) : Option R :=
k0 x0 x1 [] (0 : Int)
theorem t91_22 (x0 x1) : exec cl N c91_22 (e14 x0 x1) K = (g91_22 (fun y0 y1 y2 y3 => exec cl N (.seq (.seq c91_3 c91_20) (.seq c91_21 .ret)) (e96 y0 y1 y2 y3) K) x0 x1) := by
 kernel_rfl
def g91_3 (k0 : V0 → V0 → V0 → Int → Int → Option R) (x0 x1 x2 : V0) (x3 : Int) : Option R :=
k0 x0 x1 x2 x3 (0 : Int)
theorem t91_3 (x0 x1 x2 x3) : exec cl N c91_3 (e96 x0 x1 x2 x3) K = (g91_3 (fun y0 y1 y2 y3 y4 => K .normal (e123 y0 y1 y2 y3 y4)) x0 x1 x2 x3) := by
 kernel_rfl
theorem kp91_0 (x0 x1 x2 x3 x4) : keep [0, 1, 5, 6, 7] (e123 x0 x1 x2 x3 x4) = (e123 x0 x1 x2 x3 x4) := by kernel_rfl
def g91_4 (k0 : V0 → V0 → V0 → Int → Int → Bool → Option R) (x0 x1 x2 : V0) (x3 x4 : Int) : Option R :=
k0 x0 x1 x2 x3 x4 (decide (x4 < (x0.length : Int)))
theorem t91_4 (x0 x1 x2 x3 x4) : exec cl N c91_4 (e123 x0 x1 x2 x3 x4) K = (g91_4 (fun y0 y1 y2 y3 y4 y5 => K .normal (e124 y0 y1 y2 y3 y4 y5)) x0 x1 x2 x3 x4) := by
 kernel_rfl
theorem kp91_1 (x0 x1 x2 x3 x4 x5) : keep [0, 1, 5, 6, 7] (e124 x0 x1 x2 x3 x4 x5) = (e123 x0 x1 x2 x3 x4) := by kernel_rfl
theorem hb91_0 (x0 x1 x2 x3 x4 x5) : boolOf? (ent (e124 x0 x1 x2 x3 x4 x5) (.t 12)) = some x5 := by kernel_rfl
def g91_15 (S112 : V0 → Int → Option (Int)) (k0 : V0 → V0 → V0 → Int → Int → Int → Option R) (x0 x1 x2 : V0) (x3 x4 : Int) : Option R :=
if 0 ≤ x4 ∧ x4 < (x0.length : Int) then
(S112 x1 x4).bind fun r609 =>
k0 x0 x1 x2 (0 : Int) x4 (IntKind.i64.wrap ((IntKind.i64.wrap ((x0.getD x4.toNat (0 : Int)) - r609)) - x3))
else none
theorem t91_15 (S112) (h112 : (ctr112 S112).holds cl) (x0 x1 x2 x3 x4) : exec cl N c91_15 (e123 x0 x1 x2 x3 x4) K = (g91_15 S112 (fun y0 y1 y2 y3 y4 y5 => exec cl N (.seq c91_13 c91_14) (e125 y0 y1 y2 y3 y4 y5) K) x0 x1 x2 x3 x4) := by
 rw [← put_eq h112]
 kernel_rfl
def g91_8 (k0 : V0 → V0 → V0 → Int → Int → Int → Bool → Option R) (x0 x1 x2 : V0) (x3 x4 x5 : Int) : Option R :=
k0 x0 x1 x2 x3 x4 x5 (decide (x5 < (0 : Int)))
theorem t91_8 (x0 x1 x2 x3 x4 x5) : exec cl N c91_8 (e125 x0 x1 x2 x3 x4 x5) K = (g91_8 (fun y0 y1 y2 y3 y4 y5 y6 => K .normal (e126 y0 y1 y2 y3 y4 y5 y6)) x0 x1 x2 x3 x4 x5) := by
 kernel_rfl
def g91_11 (k0 : V0 → V0 → V0 → Int → Int → Int → Option R) (x0 x1 x2 : V0) (x3 x4 x5 : Int) (x6 : Bool) : Option R :=
k0 x0 x1 x2 (1 : Int) x4 (IntKind.i64.wrap (x5 + (10000 : Int)))
theorem t91_11 (x0 x1 x2 x3 x4 x5 x6) : exec cl N c91_11 (e126 x0 x1 x2 x3 x4 x5 x6) K = (g91_11 (fun y0 y1 y2 y3 y4 y5 => K .normal (e125 y0 y1 y2 y3 y4 y5)) x0 x1 x2 x3 x4 x5 x6) := by
 kernel_rfl
theorem kp91_2 (x0 x1 x2 x3 x4 x5) : keep [0, 1, 5, 6, 7, 8] (e125 x0 x1 x2 x3 x4 x5) = (e125 x0 x1 x2 x3 x4 x5) := by kernel_rfl
theorem kp91_3 (x0 x1 x2 x3 x4 x5 x6) : keep [0, 1, 5, 6, 7, 8] (e126 x0 x1 x2 x3 x4 x5 x6) = (e125 x0 x1 x2 x3 x4 x5) := by kernel_rfl
theorem hb91_1 (x0 x1 x2 x3 x4 x5 x6) : boolOf? (ent (e126 x0 x1 x2 x3 x4 x5 x6) (.t 26)) = some x6 := by kernel_rfl
def g91_13 (k0 : V0 → V0 → V0 → Int → Int → Int → Option R) (x0 x1 x2 : V0) (x3 x4 x5 : Int) : Option R :=
(g91_8 (fun y0 y1 y2 y3 y4 y5 y6 => brB y6 (g91_11 k0 y0 y1 y2 y3 y4 y5 y6) (k0 y0 y1 y2 y3 y4 y5)) x0 x1 x2 x3 x4 x5)
theorem t91_13 (x0 x1 x2 x3 x4 x5) : exec cl N c91_13 (e125 x0 x1 x2 x3 x4 x5) K = (g91_13 (fun y0 y1 y2 y3 y4 y5 => K .normal (e125 y0 y1 y2 y3 y4 y5)) x0 x1 x2 x3 x4 x5) := by
 simp only [c91_13, exec_seq, seqK_normal, seqK_exit, seqK_ret, t91_8, c91_12, exec_out, exec_cond', hb91_1, Option.bind_some, brB_true, brB_false, t91_11, exec_skip, kp91_2, kp91_3]
 rfl
def g91_14 (k0 : V0 → V0 → V0 → Int → Int → Option R) (x0 x1 x2 : V0) (x3 x4 x5 : Int) : Option R :=
if x2.length + [x5].length ≤ 17592186044416 then
k0 x0 x1 (x2 ++ [x5]) x3 x4
else none
theorem t91_14 (x0 x1 x2 x3 x4 x5) : exec cl N c91_14 (e125 x0 x1 x2 x3 x4 x5) K = (g91_14 (fun y0 y1 y2 y3 y4 => K .normal (e123 y0 y1 y2 y3 y4)) x0 x1 x2 x3 x4 x5) := by
 kernel_rfl
def g91_17 (k0 : V0 → V0 → V0 → Int → Int → Option R) (x0 x1 x2 : V0) (x3 x4 : Int) : Option R :=
k0 x0 x1 x2 x3 (IntKind.i64.wrap (x4 + (1 : Int)))
theorem t91_17 (x0 x1 x2 x3 x4) : exec cl N c91_17 (e123 x0 x1 x2 x3 x4) K = (g91_17 (fun y0 y1 y2 y3 y4 => K .normal (e123 y0 y1 y2 y3 y4)) x0 x1 x2 x3 x4) := by
 kernel_rfl
def g91_18 (S112 : V0 → Int → Option (Int)) (k0 : V0 → V0 → V0 → Int → Int → Option R) (k1 : V0 → V0 → V0 → Int → Int → Option R) (x0 x1 x2 : V0) (x3 x4 : Int) : Option R :=
(g91_4 (fun y0 y1 y2 y3 y4 y5 => brB y5 ((g91_15 S112 (g91_13 (g91_14 ((g91_17 k0))))) y0 y1 y2 y3 y4) (k1 y0 y1 y2 y3 y4)) x0 x1 x2 x3 x4)
theorem t91_18 (S112) (h112 : (ctr112 S112).holds cl) (x0 x1 x2 x3 x4) : exec cl N c91_18 (e123 x0 x1 x2 x3 x4) K = (g91_18 S112 (fun y0 y1 y2 y3 y4 => K .normal (e123 y0 y1 y2 y3 y4)) (fun y0 y1 y2 y3 y4 => K (.exit 0) (e123 y0 y1 y2 y3 y4)) x0 x1 x2 x3 x4) := by
 simp only [c91_18, exec_seq, seqK_normal, seqK_exit, seqK_ret, t91_4, c91_5, exec_out, exec_cond', hb91_0, Option.bind_some, brB_true, brB_false, exec_skip, exec_exit, kp91_1, c91_16, exec_block, t91_15 S112 h112, t91_13, t91_14, blockK_normal, blockK_ret, blockK_eq, kp91_0, t91_17]
 rfl
def l91_19 {R : Type} (S112 : V0 → Int → Option (Int)) (k0 : V0 → V0 → V0 → Int → Int → Option R) : Nat → V0 → V0 → V0 → Int → Int → Option R
 | 0, _, _, _, _, _ => none
 | m + 1, x0, x1, x2, x3, x4 => (g91_18 S112 (l91_19 S112 k0 m) k0 x0 x1 x2 x3 x4)
theorem lt91_19 (S112) (h112 : (ctr112 S112).holds cl) : ∀ (m) (x0 x1 x2 x3 x4), iter [0, 1, 5, 6, 7] (fun env K => exec cl N c91_18 env K) K m (e123 x0 x1 x2 x3 x4) = l91_19 S112 (fun y0 y1 y2 y3 y4 => K (.exit 0) (e123 y0 y1 y2 y3 y4)) m x0 x1 x2 x3 x4 := by
 intro m
 induction m with
 | zero => intros; rfl
 | succ m ih =>
   intro x0 x1 x2 x3 x4
   simp only [iter_succ, t91_18 S112 h112, loopK_normal, loopK_exit, loopK_ret, kp91_0, ih]
   rfl
theorem kp91_4 (x0 x1 x2 x3 x4) : keep [5] (e123 x0 x1 x2 x3 x4) = (e22 x2) := by kernel_rfl
def g91_19 (N : Nat) (S112 : V0 → Int → Option (Int)) (k0 : V0 → Option R) (x0 x1 x2 : V0) (x3 x4 : Int) : Option R :=
l91_19 S112 (fun y0 y1 y2 y3 y4 => k0 y2) N x0 x1 x2 x3 x4
theorem t91_19 (S112) (h112 : (ctr112 S112).holds cl) (x0 x1 x2 x3 x4) : exec cl N c91_19 (e123 x0 x1 x2 x3 x4) K = (g91_19 N S112 (fun y0 => K (.exit 0) (e22 y0)) x0 x1 x2 x3 x4) := by
 simp only [c91_19, exec_out, exec_loop, kp91_0, lt91_19 S112 h112, kp91_4]
 rfl
theorem kp91_5 (x0) : keep [5] (e22 x0) = (e22 x0) := by kernel_rfl
def g91_21 (S113 : V0 → Option V1) (k0 : V0 → Option R) (x0 : V0) : Option R :=
(S113 x0).bind fun r616 =>
k0 r616
theorem t91_21 (S113) (h113 : (ctr113 S113).holds cl) (x0) : exec cl N c91_21 (e22 x0) K = (g91_21 S113 (fun y0 => K .normal [(4, .v U2 y0)]) x0) := by
 rw [← put_eq h113]
 kernel_rfl
def g91_22b (N : Nat) (S112 : V0 → Int → Option (Int)) (S113 : V0 → Option V1) (k0 : V0 → Option R) (x0 x1 : V0) : Option R :=
(g91_22 (g91_3 (g91_19 N S112 ((g91_21 S113 k0)))) x0 x1)
theorem t91_22b (S112) (S113) (h112 : (ctr112 S112).holds cl) (h113 : (ctr113 S113).holds cl) (x0 x1) : exec cl N c91_22 (e14 x0 x1) K = (g91_22b N S112 S113 (fun y0 => K .ret [(4, .v U2 y0)]) x0 x1) := by
 simp only [exec_seq, seqK_normal, seqK_exit, seqK_ret, t91_22, t91_3, c91_20, exec_out, exec_block, t91_19 S112 h112, blockK_normal, blockK_ret, blockK_eq, kp91_5, t91_21 S113 h113, exec_ret]
 rfl
theorem rk91_0 (y0) : retK d91 .ret [(4, .v U2 y0)] = some [.v U2 y0] := by kernel_rfl
def g91 (N : Nat) (S112 : V0 → Int → Option (Int)) (S113 : V0 → Option V1) (x0 x1 : V0) (k : V0 → Option R) : Option R :=
(g91_22b N S112 S113 k x0 x1)
theorem gen91 (S112) (S113) (h112 : (ctr112 S112).holds cl) (h113 : (ctr113 S113).holds cl) (x0 x1) (k : List E → Option R) : exec cl N c91 (e14 x0 x1) (fun e env => (retK d91 e env).bind k) = g91 N S112 S113 x0 x1 (fun r0 => k [.v U2 r0]) := by
 simp only [c91, t91_22b S112 S113 h112 h113, rk91_0, Option.bind_some]
 rfl
def ctr91 (S : V0 → V0 → Option V1) : Ctr := cv2 91 U2 U2 S fun b => [.v U2 b]
def S91 (N : Nat) (x0 : V0) (x1 : V0) : Option V1 := g91 N (S112 N) (S113 N) x0 x1 (fun (r0 : V0) => some (r0))
def g89_16 (k0 : V0 → V0 → V0 → Int → Option R) (x0 x1 : V0) : Option R :=
k0 x0 x1 [] (0 : Int)
theorem t89_16 (x0 x1) : exec cl N c89_16 (e14 x0 x1) K = (g89_16 (fun y0 y1 y2 y3 => exec cl N (.seq (.seq c89_3 c89_14) (.seq c89_15 .ret)) (e96 y0 y1 y2 y3) K) x0 x1) := by
 kernel_rfl
def g89_3 (k0 : V0 → V0 → V0 → Int → Int → Option R) (x0 x1 x2 : V0) (x3 : Int) : Option R :=
k0 x0 x1 x2 x3 (0 : Int)
theorem t89_3 (x0 x1 x2 x3) : exec cl N c89_3 (e96 x0 x1 x2 x3) K = (g89_3 (fun y0 y1 y2 y3 y4 => K .normal (e123 y0 y1 y2 y3 y4)) x0 x1 x2 x3) := by
 kernel_rfl
theorem kp89_0 (x0 x1 x2 x3 x4) : keep [0, 1, 5, 6, 7] (e123 x0 x1 x2 x3 x4) = (e123 x0 x1 x2 x3 x4) := by kernel_rfl
def g89_4 (k0 : V0 → V0 → V0 → Int → Int → Bool → Option R) (x0 x1 x2 : V0) (x3 x4 : Int) : Option R :=
brB (decide (x4 < (x0.length : Int))) (k0 x0 x1 x2 x3 x4 true) (k0 x0 x1 x2 x3 x4 (decide (x4 < (x1.length : Int))))
theorem t89_4 (x0 x1 x2 x3 x4) : exec cl N c89_4 (e123 x0 x1 x2 x3 x4) K = (g89_4 (fun y0 y1 y2 y3 y4 y5 => K .normal (e127 y0 y1 y2 y3 y4 y5)) x0 x1 x2 x3 x4) := by
 kernel_rfl
theorem kp89_1 (x0 x1 x2 x3 x4 x5) : keep [0, 1, 5, 6, 7] (e127 x0 x1 x2 x3 x4 x5) = (e123 x0 x1 x2 x3 x4) := by kernel_rfl
theorem hb89_0 (x0 x1 x2 x3 x4 x5) : boolOf? (ent (e127 x0 x1 x2 x3 x4 x5) (.t 18)) = some x5 := by kernel_rfl
def g89_9 (S112 : V0 → Int → Option (Int)) (k0 : V0 → V0 → V0 → Int → Int → Option R) (x0 x1 x2 : V0) (x3 x4 : Int) : Option R :=
(S112 x0 x4).bind fun r650 =>
(S112 x1 x4).bind fun r651 =>
let v653 : Int := (IntKind.i64.wrap ((IntKind.i64.wrap (r650 + r651)) + x3))
let v654 : Int := (Int.tmod v653 (10000 : Int))
if x2.length + [v654].length ≤ 17592186044416 then
k0 x0 x1 (x2 ++ [v654]) (IntKind.i64.wrap (Int.tdiv v653 (10000 : Int))) x4
else none
theorem t89_9 (S112) (h112 : (ctr112 S112).holds cl) (x0 x1 x2 x3 x4) : exec cl N c89_9 (e123 x0 x1 x2 x3 x4) K = (g89_9 S112 (fun y0 y1 y2 y3 y4 => K .normal (e123 y0 y1 y2 y3 y4)) x0 x1 x2 x3 x4) := by
 rw [← put_eq h112]
 kernel_rfl
def g89_11 (k0 : V0 → V0 → V0 → Int → Int → Option R) (x0 x1 x2 : V0) (x3 x4 : Int) : Option R :=
k0 x0 x1 x2 x3 (IntKind.i64.wrap (x4 + (1 : Int)))
theorem t89_11 (x0 x1 x2 x3 x4) : exec cl N c89_11 (e123 x0 x1 x2 x3 x4) K = (g89_11 (fun y0 y1 y2 y3 y4 => K .normal (e123 y0 y1 y2 y3 y4)) x0 x1 x2 x3 x4) := by
 kernel_rfl
def g89_12 (S112 : V0 → Int → Option (Int)) (k0 : V0 → V0 → V0 → Int → Int → Option R) (k1 : V0 → V0 → V0 → Int → Int → Option R) (x0 x1 x2 : V0) (x3 x4 : Int) : Option R :=
(g89_4 (fun y0 y1 y2 y3 y4 y5 => brB y5 ((g89_9 S112 ((g89_11 k0))) y0 y1 y2 y3 y4) (k1 y0 y1 y2 y3 y4)) x0 x1 x2 x3 x4)
theorem t89_12 (S112) (h112 : (ctr112 S112).holds cl) (x0 x1 x2 x3 x4) : exec cl N c89_12 (e123 x0 x1 x2 x3 x4) K = (g89_12 S112 (fun y0 y1 y2 y3 y4 => K .normal (e123 y0 y1 y2 y3 y4)) (fun y0 y1 y2 y3 y4 => K (.exit 0) (e123 y0 y1 y2 y3 y4)) x0 x1 x2 x3 x4) := by
 simp only [c89_12, exec_seq, seqK_normal, seqK_exit, seqK_ret, t89_4, c89_5, exec_out, exec_cond', hb89_0, Option.bind_some, brB_true, brB_false, exec_skip, exec_exit, kp89_1, c89_10, exec_block, t89_9 S112 h112, blockK_normal, blockK_ret, blockK_eq, kp89_0, t89_11]
 rfl
def l89_13 {R : Type} (S112 : V0 → Int → Option (Int)) (k0 : V0 → V0 → V0 → Int → Int → Option R) : Nat → V0 → V0 → V0 → Int → Int → Option R
 | 0, _, _, _, _, _ => none
 | m + 1, x0, x1, x2, x3, x4 => (g89_12 S112 (l89_13 S112 k0 m) k0 x0 x1 x2 x3 x4)
theorem lt89_13 (S112) (h112 : (ctr112 S112).holds cl) : ∀ (m) (x0 x1 x2 x3 x4), iter [0, 1, 5, 6, 7] (fun env K => exec cl N c89_12 env K) K m (e123 x0 x1 x2 x3 x4) = l89_13 S112 (fun y0 y1 y2 y3 y4 => K (.exit 0) (e123 y0 y1 y2 y3 y4)) m x0 x1 x2 x3 x4 := by
 intro m
 induction m with
 | zero => intros; rfl
 | succ m ih =>
   intro x0 x1 x2 x3 x4
   simp only [iter_succ, t89_12 S112 h112, loopK_normal, loopK_exit, loopK_ret, kp89_0, ih]
   rfl
theorem kp89_2 (x0 x1 x2 x3 x4) : keep [5, 6] (e123 x0 x1 x2 x3 x4) = (e101 x2 x3) := by kernel_rfl
def g89_13 (N : Nat) (S112 : V0 → Int → Option (Int)) (k0 : V0 → Int → Option R) (x0 x1 x2 : V0) (x3 x4 : Int) : Option R :=
l89_13 S112 (fun y0 y1 y2 y3 y4 => k0 y2 y3) N x0 x1 x2 x3 x4
theorem t89_13 (S112) (h112 : (ctr112 S112).holds cl) (x0 x1 x2 x3 x4) : exec cl N c89_13 (e123 x0 x1 x2 x3 x4) K = (g89_13 N S112 (fun y0 y1 => K (.exit 0) (e101 y0 y1)) x0 x1 x2 x3 x4) := by
 simp only [c89_13, exec_out, exec_loop, kp89_0, lt89_13 S112 h112, kp89_2]
 rfl
theorem kp89_3 (x0 x1) : keep [5, 6] (e101 x0 x1) = (e101 x0 x1) := by kernel_rfl
def g89_15 (S113 : V0 → Option V1) (k0 : V0 → Option R) (x0 : V0) (x1 : Int) : Option R :=
if x0.length + [x1].length ≤ 17592186044416 then
(S113 (x0 ++ [x1])).bind fun r657 =>
k0 r657
else none
theorem t89_15 (S113) (h113 : (ctr113 S113).holds cl) (x0 x1) : exec cl N c89_15 (e101 x0 x1) K = (g89_15 S113 (fun y0 => K .normal [(4, .v U2 y0)]) x0 x1) := by
 rw [← put_eq h113]
 kernel_rfl
def g89_16b (N : Nat) (S112 : V0 → Int → Option (Int)) (S113 : V0 → Option V1) (k0 : V0 → Option R) (x0 x1 : V0) : Option R :=
(g89_16 (g89_3 (g89_13 N S112 ((g89_15 S113 k0)))) x0 x1)
theorem t89_16b (S112) (S113) (h112 : (ctr112 S112).holds cl) (h113 : (ctr113 S113).holds cl) (x0 x1) : exec cl N c89_16 (e14 x0 x1) K = (g89_16b N S112 S113 (fun y0 => K .ret [(4, .v U2 y0)]) x0 x1) := by
 simp only [exec_seq, seqK_normal, seqK_exit, seqK_ret, t89_16, t89_3, c89_14, exec_out, exec_block, t89_13 S112 h112, blockK_normal, blockK_ret, blockK_eq, kp89_3, t89_15 S113 h113, exec_ret]
 rfl
theorem rk89_0 (y0) : retK d89 .ret [(4, .v U2 y0)] = some [.v U2 y0] := by kernel_rfl
def g89 (N : Nat) (S112 : V0 → Int → Option (Int)) (S113 : V0 → Option V1) (x0 x1 : V0) (k : V0 → Option R) : Option R :=
(g89_16b N S112 S113 k x0 x1)
theorem gen89 (S112) (S113) (h112 : (ctr112 S112).holds cl) (h113 : (ctr113 S113).holds cl) (x0 x1) (k : List E → Option R) : exec cl N c89 (e14 x0 x1) (fun e env => (retK d89 e env).bind k) = g89 N S112 S113 x0 x1 (fun r0 => k [.v U2 r0]) := by
 simp only [c89, t89_16b S112 S113 h112 h113, rk89_0, Option.bind_some]
 rfl
def ctr89 (S : V0 → V0 → Option V1) : Ctr := cv2 89 U2 U2 S fun b => [.v U2 b]
def S89 (N : Nat) (x0 : V0) (x1 : V0) : Option V1 := g89 N (S112 N) (S113 N) x0 x1 (fun (r0 : V0) => some (r0))
def g83_0 (k0 : V2 → V2 → V2 → Option R) (x0 x1 : V2) : Option R :=
k0 x0 x1 ([], ())
theorem t83_0 (x0 x1) : exec cl N c83_0 (e68 x0 x1) K = (g83_0 (fun y0 y1 y2 => K .normal (e69 y0 y1 y2)) x0 x1) := by
 kernel_rfl
def g83_1 (S86 : V2 → Option (Bool)) (k0 : V2 → V2 → V2 → Bool → Option R) (x0 x1 x2 : V2) : Option R :=
(S86 x0).bind fun r660 =>
brB (!r660) (k0 x0 x1 x2 true) ((S86 x1).bind fun r661 =>
k0 x0 x1 x2 (!r661))
theorem t83_1 (S86) (h86 : (ctr86 S86).holds cl) (x0 x1 x2) : exec cl N c83_1 (e69 x0 x1 x2) K = (g83_1 S86 (fun y0 y1 y2 y3 => K .normal (e128 y0 y1 y2 y3)) x0 x1 x2) := by
 rw [← put_eq h86]
 kernel_rfl
def g83_2 (k0 : V2 → Int → Option R) (x0 x1 x2 : V2) (x3 : Bool) : Option R :=
k0 ([], ()) (1 : Int)
theorem t83_2 (x0 x1 x2 x3) : exec cl N c83_2 (e128 x0 x1 x2 x3) K = (g83_2 (fun y0 y1 => K .normal (e51 y0 y1)) x0 x1 x2 x3) := by
 kernel_rfl
theorem kp83_0 (x0 x1) : keep [2, 3, 4, 5] (e51 x0 x1) = (e71 x0 x1) := by kernel_rfl
theorem kp83_1 (x0 x1 x2 x3) : keep [2, 3, 4, 5] (e128 x0 x1 x2 x3) = (e72 x0 x1 x2) := by kernel_rfl
theorem hb83_0 (x0 x1 x2 x3) : boolOf? (ent (e128 x0 x1 x2 x3) (.t 18)) = some x3 := by kernel_rfl
def g83_4 (k0 : V2 → V0 → V0 → Option R) (x0 x1 x2 : V2) : Option R :=
k0 x2 x0.1 x1.1
theorem t83_4 (x0 x1 x2) : exec cl N c83_4 (e72 x0 x1 x2) K = (g83_4 (fun y0 y1 y2 => K .normal (e74 y0 y1 y2)) x0 x1 x2) := by
 kernel_rfl
def g83_5 (k0 : V2 → V0 → V0 → Bool → Option R) (x0 : V2) (x1 x2 : V0) : Option R :=
k0 x0 x1 x2 ((x1.length : Int) == (0 : Int))
theorem t83_5 (x0 x1 x2) : exec cl N c83_5 (e74 x0 x1 x2) K = (g83_5 (fun y0 y1 y2 y3 => K .normal (e129 y0 y1 y2 y3)) x0 x1 x2) := by
 kernel_rfl
def g83_6 (k0 : V2 → Int → Option R) (x0 : V2) (x1 x2 : V0) (x3 : Bool) : Option R :=
if ([] : List Int).length + x2.length ≤ 17592186044416 then
k0 ((([] : List Int) ++ x2), ()) (0 : Int)
else none
theorem t83_6 (x0 x1 x2 x3) : exec cl N c83_6 (e129 x0 x1 x2 x3) K = (g83_6 (fun y0 y1 => K .normal (e58 y0 y1)) x0 x1 x2 x3) := by
 kernel_rfl
theorem kp83_2 (x0 x1) : keep [4, 5, 6, 7] (e58 x0 x1) = (e130 x0 x1) := by kernel_rfl
theorem kp83_3 (x0 x1 x2 x3) : keep [4, 5, 6, 7] (e129 x0 x1 x2 x3) = (e131 x0 x1 x2) := by kernel_rfl
theorem hb83_1 (x0 x1 x2 x3) : boolOf? (ent (e129 x0 x1 x2 x3) (.t 26)) = some x3 := by kernel_rfl
def g83_8 (k0 : V2 → V0 → V0 → Int → Option R) (x0 : V2) (x1 x2 : V0) : Option R :=
k0 x0 x1 x2 (0 : Int)
theorem t83_8 (x0 x1 x2) : exec cl N c83_8 (e131 x0 x1 x2) K = (g83_8 (fun y0 y1 y2 y3 => K .normal (e132 y0 y1 y2 y3)) x0 x1 x2) := by
 kernel_rfl
theorem kp83_4 (x0 x1 x2 x3) : keep [4, 6, 7, 8] (e132 x0 x1 x2 x3) = (e132 x0 x1 x2 x3) := by kernel_rfl
def g83_9 (k0 : V2 → V0 → V0 → Int → Bool → Option R) (x0 : V2) (x1 x2 : V0) (x3 : Int) : Option R :=
k0 x0 x1 x2 x3 (decide ((x2.length : Int) > (0 : Int)))
theorem t83_9 (x0 x1 x2 x3) : exec cl N c83_9 (e132 x0 x1 x2 x3) K = (g83_9 (fun y0 y1 y2 y3 y4 => K .normal (e133 y0 y1 y2 y3 y4)) x0 x1 x2 x3) := by
 kernel_rfl
theorem kp83_5 (x0 x1 x2 x3 x4) : keep [4, 6, 7, 8] (e133 x0 x1 x2 x3 x4) = (e132 x0 x1 x2 x3) := by kernel_rfl
theorem hb83_2 (x0 x1 x2 x3 x4) : boolOf? (ent (e133 x0 x1 x2 x3 x4) (.t 33)) = some x4 := by kernel_rfl
def g83_11 (S108 : V0 → Option (Bool)) (k0 : V2 → V0 → V0 → Int → Bool → Option R) (x0 : V2) (x1 x2 : V0) (x3 : Int) : Option R :=
(S108 x1).bind fun r665 =>
brB r665 ((S108 x2).bind fun r666 =>
k0 x0 x1 x2 x3 r666) (k0 x0 x1 x2 x3 false)
theorem t83_11 (S108) (h108 : (ctr108 S108).holds cl) (x0 x1 x2 x3) : exec cl N c83_11 (e132 x0 x1 x2 x3) K = (g83_11 S108 (fun y0 y1 y2 y3 y4 => K .normal (e134 y0 y1 y2 y3 y4)) x0 x1 x2 x3) := by
 rw [← put_eq h108]
 kernel_rfl
def g83_14 (S109 : V0 → Option V1) (k0 : V2 → V0 → V0 → Int → Option R) (x0 : V2) (x1 x2 : V0) (x3 : Int) (x4 : Bool) : Option R :=
(S109 x1).bind fun r669 =>
(S109 x2).bind fun r670 =>
k0 x0 r669 r670 (IntKind.i64.wrap (x3 + (1 : Int)))
theorem t83_14 (S109) (h109 : (ctr109 S109).holds cl) (x0 x1 x2 x3 x4) : exec cl N c83_14 (e134 x0 x1 x2 x3 x4) K = (g83_14 S109 (fun y0 y1 y2 y3 => K .normal (e132 y0 y1 y2 y3)) x0 x1 x2 x3 x4) := by
 rw [← put_eq h109]
 kernel_rfl
def g83_15 (S108 : V0 → Option (Bool)) (k0 : V2 → V0 → V0 → Int → Bool → Option R) (x0 : V2) (x1 x2 : V0) (x3 : Int) (x4 : Bool) : Option R :=
(S108 x1).bind fun r672 =>
k0 x0 x1 x2 x3 r672
theorem t83_15 (S108) (h108 : (ctr108 S108).holds cl) (x0 x1 x2 x3 x4) : exec cl N c83_15 (e134 x0 x1 x2 x3 x4) K = (g83_15 S108 (fun y0 y1 y2 y3 y4 => K .normal (e135 y0 y1 y2 y3 y4)) x0 x1 x2 x3 x4) := by
 rw [← put_eq h108]
 kernel_rfl
def g83_16 (S109 : V0 → Option V1) (k0 : V2 → V0 → V0 → Int → Option R) (x0 : V2) (x1 x2 : V0) (x3 : Int) (x4 : Bool) : Option R :=
(S109 x1).bind fun r673 =>
k0 x0 r673 x2 x3
theorem t83_16 (S109) (h109 : (ctr109 S109).holds cl) (x0 x1 x2 x3 x4) : exec cl N c83_16 (e135 x0 x1 x2 x3 x4) K = (g83_16 S109 (fun y0 y1 y2 y3 => K .normal (e132 y0 y1 y2 y3)) x0 x1 x2 x3 x4) := by
 rw [← put_eq h109]
 kernel_rfl
def g83_17 (S108 : V0 → Option (Bool)) (k0 : V2 → V0 → V0 → Int → Bool → Option R) (x0 : V2) (x1 x2 : V0) (x3 : Int) (x4 : Bool) : Option R :=
(S108 x2).bind fun r674 =>
k0 x0 x1 x2 x3 r674
theorem t83_17 (S108) (h108 : (ctr108 S108).holds cl) (x0 x1 x2 x3 x4) : exec cl N c83_17 (e135 x0 x1 x2 x3 x4) K = (g83_17 S108 (fun y0 y1 y2 y3 y4 => K .normal (e136 y0 y1 y2 y3 y4)) x0 x1 x2 x3 x4) := by
 rw [← put_eq h108]
 kernel_rfl
def g83_18 (S109 : V0 → Option V1) (k0 : V2 → V0 → V0 → Int → Option R) (x0 : V2) (x1 x2 : V0) (x3 : Int) (x4 : Bool) : Option R :=
(S109 x2).bind fun r675 =>
k0 x0 x1 r675 x3
theorem t83_18 (S109) (h109 : (ctr109 S109).holds cl) (x0 x1 x2 x3 x4) : exec cl N c83_18 (e136 x0 x1 x2 x3 x4) K = (g83_18 S109 (fun y0 y1 y2 y3 => K .normal (e132 y0 y1 y2 y3)) x0 x1 x2 x3 x4) := by
 rw [← put_eq h109]
 kernel_rfl
def g83_19 (S90 : V0 → V0 → Option (Int)) (k0 : V2 → V0 → V0 → Int → Bool → Option R) (x0 : V2) (x1 x2 : V0) (x3 : Int) (x4 : Bool) : Option R :=
(S90 x1 x2).bind fun r676 =>
k0 x0 x1 x2 x3 (decide (r676 > (0 : Int)))
theorem t83_19 (S90) (h90 : (ctr90 S90).holds cl) (x0 x1 x2 x3 x4) : exec cl N c83_19 (e136 x0 x1 x2 x3 x4) K = (g83_19 S90 (fun y0 y1 y2 y3 y4 => K .normal (e137 y0 y1 y2 y3 y4)) x0 x1 x2 x3 x4) := by
 rw [← put_eq h90]
 kernel_rfl
def g83_20 (S91 : V0 → V0 → Option V1) (k0 : V2 → V0 → V0 → Int → Option R) (x0 : V2) (x1 x2 : V0) (x3 : Int) (x4 : Bool) : Option R :=
(S91 x1 x2).bind fun r678 =>
k0 x0 x2 r678 x3
theorem t83_20 (S91) (h91 : (ctr91 S91).holds cl) (x0 x1 x2 x3 x4) : exec cl N c83_20 (e137 x0 x1 x2 x3 x4) K = (g83_20 S91 (fun y0 y1 y2 y3 => K .normal (e132 y0 y1 y2 y3)) x0 x1 x2 x3 x4) := by
 rw [← put_eq h91]
 kernel_rfl
def g83_21 (S91 : V0 → V0 → Option V1) (k0 : V2 → V0 → V0 → Int → Option R) (x0 : V2) (x1 x2 : V0) (x3 : Int) (x4 : Bool) : Option R :=
(S91 x2 x1).bind fun r679 =>
k0 x0 x1 r679 x3
theorem t83_21 (S91) (h91 : (ctr91 S91).holds cl) (x0 x1 x2 x3 x4) : exec cl N c83_21 (e137 x0 x1 x2 x3 x4) K = (g83_21 S91 (fun y0 y1 y2 y3 => K .normal (e132 y0 y1 y2 y3)) x0 x1 x2 x3 x4) := by
 rw [← put_eq h91]
 kernel_rfl
theorem hb83_3 (x0 x1 x2 x3 x4) : boolOf? (ent (e137 x0 x1 x2 x3 x4) (.t 60)) = some x4 := by kernel_rfl
theorem hb83_4 (x0 x1 x2 x3 x4) : boolOf? (ent (e136 x0 x1 x2 x3 x4) (.t 55)) = some x4 := by kernel_rfl
theorem hb83_5 (x0 x1 x2 x3 x4) : boolOf? (ent (e135 x0 x1 x2 x3 x4) (.t 50)) = some x4 := by kernel_rfl
theorem hb83_6 (x0 x1 x2 x3 x4) : boolOf? (ent (e134 x0 x1 x2 x3 x4) (.t 37)) = some x4 := by kernel_rfl
def g83_28 (S90 : V0 → V0 → Option (Int)) (S91 : V0 → V0 → Option V1) (S108 : V0 → Option (Bool)) (S109 : V0 → Option V1) (k0 : V2 → V0 → V0 → Int → Option R) (k1 : V2 → V0 → V0 → Int → Option R) (x0 : V2) (x1 x2 : V0) (x3 : Int) : Option R :=
(g83_9 (fun y0 y1 y2 y3 y4 => brB y4 ((g83_11 S108 (fun y0 y1 y2 y3 y4 => brB y4 (g83_14 S109 k0 y0 y1 y2 y3 y4) (g83_15 S108 (fun y0 y1 y2 y3 y4 => brB y4 (g83_16 S109 k0 y0 y1 y2 y3 y4) (g83_17 S108 (fun y0 y1 y2 y3 y4 => brB y4 (g83_18 S109 k0 y0 y1 y2 y3 y4) (g83_19 S90 (fun y0 y1 y2 y3 y4 => brB y4 (g83_20 S91 k0 y0 y1 y2 y3 y4) (g83_21 S91 k0 y0 y1 y2 y3 y4)) y0 y1 y2 y3 y4)) y0 y1 y2 y3 y4)) y0 y1 y2 y3 y4))) y0 y1 y2 y3) (k1 y0 y1 y2 y3)) x0 x1 x2 x3)
theorem t83_28 (S90) (S91) (S108) (S109) (h90 : (ctr90 S90).holds cl) (h91 : (ctr91 S91).holds cl) (h108 : (ctr108 S108).holds cl) (h109 : (ctr109 S109).holds cl) (x0 x1 x2 x3) : exec cl N c83_28 (e132 x0 x1 x2 x3) K = (g83_28 S90 S91 S108 S109 (fun y0 y1 y2 y3 => K .normal (e132 y0 y1 y2 y3)) (fun y0 y1 y2 y3 => K (.exit 0) (e132 y0 y1 y2 y3)) x0 x1 x2 x3) := by
 simp only [c83_28, exec_seq, seqK_normal, seqK_exit, seqK_ret, t83_9, c83_10, exec_out, exec_cond', hb83_2, Option.bind_some, brB_true, brB_false, exec_skip, exec_exit, kp83_5, c83_27, exec_block, c83_26, t83_11 S108 h108, c83_25, hb83_6, t83_14 S109 h109, t83_15 S108 h108, c83_24, hb83_5, t83_16 S109 h109, t83_17 S108 h108, c83_23, hb83_4, t83_18 S109 h109, t83_19 S90 h90, c83_22, hb83_3, t83_20 S91 h91, t83_21 S91 h91, kp83_4, blockK_normal, blockK_ret, blockK_eq]
 rfl
def l83_29 {R : Type} (S90 : V0 → V0 → Option (Int)) (S91 : V0 → V0 → Option V1) (S108 : V0 → Option (Bool)) (S109 : V0 → Option V1) (k0 : V2 → V0 → V0 → Int → Option R) : Nat → V2 → V0 → V0 → Int → Option R
 | 0, _, _, _, _ => none
 | m + 1, x0, x1, x2, x3 => (g83_28 S90 S91 S108 S109 (l83_29 S90 S91 S108 S109 k0 m) k0 x0 x1 x2 x3)
theorem lt83_29 (S90) (S91) (S108) (S109) (h90 : (ctr90 S90).holds cl) (h91 : (ctr91 S91).holds cl) (h108 : (ctr108 S108).holds cl) (h109 : (ctr109 S109).holds cl) : ∀ (m) (x0 x1 x2 x3), iter [4, 6, 7, 8] (fun env K => exec cl N c83_28 env K) K m (e132 x0 x1 x2 x3) = l83_29 S90 S91 S108 S109 (fun y0 y1 y2 y3 => K (.exit 0) (e132 y0 y1 y2 y3)) m x0 x1 x2 x3 := by
 intro m
 induction m with
 | zero => intros; rfl
 | succ m ih =>
   intro x0 x1 x2 x3
   simp only [iter_succ, t83_28 S90 S91 S108 S109 h90 h91 h108 h109, loopK_normal, loopK_exit, loopK_ret, kp83_4, ih]
   rfl
theorem kp83_6 (x0 x1 x2 x3) : keep [4, 6, 8] (e132 x0 x1 x2 x3) = (e138 x0 x1 x3) := by kernel_rfl
def g83_29 (N : Nat) (S90 : V0 → V0 → Option (Int)) (S91 : V0 → V0 → Option V1) (S108 : V0 → Option (Bool)) (S109 : V0 → Option V1) (k0 : V2 → V0 → Int → Option R) (x0 : V2) (x1 x2 : V0) (x3 : Int) : Option R :=
l83_29 S90 S91 S108 S109 (fun y0 y1 y2 y3 => k0 y0 y1 y3) N x0 x1 x2 x3
theorem t83_29 (S90) (S91) (S108) (S109) (h90 : (ctr90 S90).holds cl) (h91 : (ctr91 S91).holds cl) (h108 : (ctr108 S108).holds cl) (h109 : (ctr109 S109).holds cl) (x0 x1 x2 x3) : exec cl N c83_29 (e132 x0 x1 x2 x3) K = (g83_29 N S90 S91 S108 S109 (fun y0 y1 y2 => K (.exit 0) (e138 y0 y1 y2)) x0 x1 x2 x3) := by
 simp only [c83_29, exec_out, exec_loop, kp83_4, lt83_29 S90 S91 S108 S109 h90 h91 h108 h109, kp83_6]
 rfl
theorem kp83_7 (x0 x1 x2) : keep [4, 6, 8] (e138 x0 x1 x2) = (e138 x0 x1 x2) := by kernel_rfl
def g83_31 (k0 : V2 → Int → V0 → Option R) (x0 : V2) (x1 : V0) (x2 : Int) : Option R :=
if ([] : List Int).length + x1.length ≤ 17592186044416 then
k0 x0 x2 (([] : List Int) ++ x1)
else none
theorem t83_31 (x0 x1 x2) : exec cl N c83_31 (e138 x0 x1 x2) K = (g83_31 (fun y0 y1 y2 => K .normal (e139 y0 y1 y2)) x0 x1 x2) := by
 kernel_rfl
def g83_32 (k0 : V2 → Int → V0 → Int → Option R) (x0 : V2) (x1 : Int) (x2 : V0) : Option R :=
k0 x0 x1 x2 (0 : Int)
theorem t83_32 (x0 x1 x2) : exec cl N c83_32 (e139 x0 x1 x2) K = (g83_32 (fun y0 y1 y2 y3 => K .normal (e140 y0 y1 y2 y3)) x0 x1 x2) := by
 kernel_rfl
theorem kp83_8 (x0 x1 x2 x3) : keep [4, 8, 9, 10] (e140 x0 x1 x2 x3) = (e140 x0 x1 x2 x3) := by kernel_rfl
def g83_33 (k0 : V2 → Int → V0 → Int → Bool → Option R) (x0 : V2) (x1 : Int) (x2 : V0) (x3 : Int) : Option R :=
k0 x0 x1 x2 x3 (decide (x3 < x1))
theorem t83_33 (x0 x1 x2 x3) : exec cl N c83_33 (e140 x0 x1 x2 x3) K = (g83_33 (fun y0 y1 y2 y3 y4 => K .normal (e141 y0 y1 y2 y3 y4)) x0 x1 x2 x3) := by
 kernel_rfl
theorem kp83_9 (x0 x1 x2 x3 x4) : keep [4, 8, 9, 10] (e141 x0 x1 x2 x3 x4) = (e140 x0 x1 x2 x3) := by kernel_rfl
theorem hb83_7 (x0 x1 x2 x3 x4) : boolOf? (ent (e141 x0 x1 x2 x3 x4) (.t 74)) = some x4 := by kernel_rfl
def g83_35 (S89 : V0 → V0 → Option V1) (k0 : V2 → Int → V0 → Int → Option R) (x0 : V2) (x1 : Int) (x2 : V0) (x3 : Int) : Option R :=
(S89 x2 x2).bind fun r681 =>
k0 x0 x1 r681 x3
theorem t83_35 (S89) (h89 : (ctr89 S89).holds cl) (x0 x1 x2 x3) : exec cl N c83_35 (e140 x0 x1 x2 x3) K = (g83_35 S89 (fun y0 y1 y2 y3 => K .normal (e140 y0 y1 y2 y3)) x0 x1 x2 x3) := by
 rw [← put_eq h89]
 kernel_rfl
def g83_37 (k0 : V2 → Int → V0 → Int → Option R) (x0 : V2) (x1 : Int) (x2 : V0) (x3 : Int) : Option R :=
k0 x0 x1 x2 (IntKind.i64.wrap (x3 + (1 : Int)))
theorem t83_37 (x0 x1 x2 x3) : exec cl N c83_37 (e140 x0 x1 x2 x3) K = (g83_37 (fun y0 y1 y2 y3 => K .normal (e140 y0 y1 y2 y3)) x0 x1 x2 x3) := by
 kernel_rfl
def g83_38 (S89 : V0 → V0 → Option V1) (k0 : V2 → Int → V0 → Int → Option R) (k1 : V2 → Int → V0 → Int → Option R) (x0 : V2) (x1 : Int) (x2 : V0) (x3 : Int) : Option R :=
(g83_33 (fun y0 y1 y2 y3 y4 => brB y4 ((g83_35 S89 ((g83_37 k0))) y0 y1 y2 y3) (k1 y0 y1 y2 y3)) x0 x1 x2 x3)
theorem t83_38 (S89) (h89 : (ctr89 S89).holds cl) (x0 x1 x2 x3) : exec cl N c83_38 (e140 x0 x1 x2 x3) K = (g83_38 S89 (fun y0 y1 y2 y3 => K .normal (e140 y0 y1 y2 y3)) (fun y0 y1 y2 y3 => K (.exit 3) (e140 y0 y1 y2 y3)) x0 x1 x2 x3) := by
 simp only [c83_38, exec_seq, seqK_normal, seqK_exit, seqK_ret, t83_33, c83_34, exec_out, exec_cond', hb83_7, Option.bind_some, brB_true, brB_false, exec_skip, exec_exit, kp83_9, c83_36, exec_block, t83_35 S89 h89, blockK_normal, blockK_ret, blockK_eq, kp83_8, t83_37]
 rfl
def l83_39 {R : Type} (S89 : V0 → V0 → Option V1) (k0 : V2 → Int → V0 → Int → Option R) : Nat → V2 → Int → V0 → Int → Option R
 | 0, _, _, _, _ => none
 | m + 1, x0, x1, x2, x3 => (g83_38 S89 (l83_39 S89 k0 m) k0 x0 x1 x2 x3)
theorem lt83_39 (S89) (h89 : (ctr89 S89).holds cl) : ∀ (m) (x0 x1 x2 x3), iter [4, 8, 9, 10] (fun env K => exec cl N c83_38 env K) K m (e140 x0 x1 x2 x3) = l83_39 S89 (fun y0 y1 y2 y3 => K (.exit 3) (e140 y0 y1 y2 y3)) m x0 x1 x2 x3 := by
 intro m
 induction m with
 | zero => intros; rfl
 | succ m ih =>
   intro x0 x1 x2 x3
   simp only [iter_succ, t83_38 S89 h89, loopK_normal, loopK_exit, loopK_ret, kp83_8, ih]
   rfl
theorem kp83_10 (x0 x1 x2 x3) : keep [4, 9] (e140 x0 x1 x2 x3) = (e142 x0 x2) := by kernel_rfl
def g83_39 (N : Nat) (S89 : V0 → V0 → Option V1) (k0 : V2 → V0 → Option R) (x0 : V2) (x1 : Int) (x2 : V0) (x3 : Int) : Option R :=
l83_39 S89 (fun y0 y1 y2 y3 => k0 y0 y2) N x0 x1 x2 x3
theorem t83_39 (S89) (h89 : (ctr89 S89).holds cl) (x0 x1 x2 x3) : exec cl N c83_39 (e140 x0 x1 x2 x3) K = (g83_39 N S89 (fun y0 y1 => K (.exit 3) (e142 y0 y1)) x0 x1 x2 x3) := by
 simp only [c83_39, exec_out, exec_loop, kp83_8, lt83_39 S89 h89, kp83_10]
 rfl
theorem kp83_11 (x0 x1) : keep [4, 9] (e142 x0 x1) = (e142 x0 x1) := by kernel_rfl
def g83_41 (k0 : V2 → Int → Option R) (x0 : V2) (x1 : V0) : Option R :=
k0 (x1, ()) (0 : Int)
theorem t83_41 (x0 x1) : exec cl N c83_41 (e142 x0 x1) K = (g83_41 (fun y0 y1 => K .normal (e58 y0 y1)) x0 x1) := by
 kernel_rfl
def g83_42 (N : Nat) (S86 : V2 → Option (Bool)) (S89 : V0 → V0 → Option V1) (S90 : V0 → V0 → Option (Int)) (S91 : V0 → V0 → Option V1) (S108 : V0 → Option (Bool)) (S109 : V0 → Option V1) (k0 : V2 → Int → Option R) (k1 : V2 → Int → Option R) (k2 : V2 → Int → Option R) (x0 x1 : V2) : Option R :=
(g83_0 (g83_1 S86 (fun y0 y1 y2 y3 => brB y3 (g83_2 k0 y0 y1 y2 y3) ((g83_4 (g83_5 (fun y0 y1 y2 y3 => brB y3 (g83_6 k1 y0 y1 y2 y3) ((g83_8 (g83_29 N S90 S91 S108 S109 ((g83_31 (g83_32 (g83_39 N S89 ((g83_41 k2)))))))) y0 y1 y2)))) y0 y1 y2))) x0 x1)
theorem t83_42 (S86) (S89) (S90) (S91) (S108) (S109) (h86 : (ctr86 S86).holds cl) (h89 : (ctr89 S89).holds cl) (h90 : (ctr90 S90).holds cl) (h91 : (ctr91 S91).holds cl) (h108 : (ctr108 S108).holds cl) (h109 : (ctr109 S109).holds cl) (x0 x1) : exec cl N c83_42 (e68 x0 x1) K = (g83_42 N S86 S89 S90 S91 S108 S109 (fun y0 y1 => K .ret (e71 y0 y1)) (fun y0 y1 => K .ret (e130 y0 y1)) (fun y0 y1 => K .ret (e58 y0 y1)) x0 x1) := by
 simp only [c83_42, exec_seq, seqK_normal, seqK_exit, seqK_ret, t83_0, t83_1 S86 h86, c83_3, exec_out, exec_cond', hb83_0, Option.bind_some, brB_true, brB_false, t83_2, exec_ret, exec_skip, kp83_0, kp83_1, t83_4, t83_5, c83_7, hb83_1, t83_6, kp83_2, kp83_3, t83_8, c83_30, exec_block, t83_29 S90 S91 S108 S109 h90 h91 h108 h109, blockK_normal, blockK_ret, blockK_eq, kp83_7, t83_31, t83_32, c83_40, t83_39 S89 h89, kp83_11, t83_41]
 rfl
theorem rk83_0 (y0 y1) : retK d83 .ret (e71 y0 y1) = some [.v U5 y0, .v U1 y1] := by kernel_rfl
theorem rk83_1 (y0 y1) : retK d83 .ret (e130 y0 y1) = some [.v U5 y0, .v U1 y1] := by kernel_rfl
theorem rk83_2 (y0 y1) : retK d83 .ret (e58 y0 y1) = some [.v U5 y0, .v U1 y1] := by kernel_rfl
def g83 (N : Nat) (S86 : V2 → Option (Bool)) (S89 : V0 → V0 → Option V1) (S90 : V0 → V0 → Option (Int)) (S91 : V0 → V0 → Option V1) (S108 : V0 → Option (Bool)) (S109 : V0 → Option V1) (x0 x1 : V2) (k : V2 → Int → Option R) : Option R :=
(g83_42 N S86 S89 S90 S91 S108 S109 k k k x0 x1)
theorem gen83 (S86) (S89) (S90) (S91) (S108) (S109) (h86 : (ctr86 S86).holds cl) (h89 : (ctr89 S89).holds cl) (h90 : (ctr90 S90).holds cl) (h91 : (ctr91 S91).holds cl) (h108 : (ctr108 S108).holds cl) (h109 : (ctr109 S109).holds cl) (x0 x1) (k : List E → Option R) : exec cl N c83 (e68 x0 x1) (fun e env => (retK d83 e env).bind k) = g83 N S86 S89 S90 S91 S108 S109 x0 x1 (fun r0 r1 => k [.v U5 r0, .v U1 r1]) := by
 simp only [c83, t83_42 S86 S89 S90 S91 S108 S109 h86 h89 h90 h91 h108 h109, rk83_0, rk83_1, rk83_2, Option.bind_some]
 rfl
def ctr83 (S : V2 → V2 → Option V5) : Ctr := cv2 83 U5 U5 S fun b => [.v U5 b.1, .v U1 b.2]
def S83 (N : Nat) (x0 : V2) (x1 : V2) : Option V5 := g83 N (S86 N) (S89 N) (S90 N) (S91 N) (S108 N) (S109 N) x0 x1 (fun (r0 : V2) (r1 : Int) => some (r0, r1))
def g111_0 (k0 : Int → V2 → Option R) (x0 : Int) : Option R :=
k0 x0 ([], ())
theorem t111_0 (x0) : exec cl N c111_0 [(0, .v U1 x0)] K = (g111_0 (fun y0 y1 => K .normal (e5 y0 y1)) x0) := by
 kernel_rfl
def g111_1 (k0 : Int → V2 → Bool → Option R) (x0 : Int) (x1 : V2) : Option R :=
k0 x0 x1 (decide (x0 < (0 : Int)))
theorem t111_1 (x0 x1) : exec cl N c111_1 (e5 x0 x1) K = (g111_1 (fun y0 y1 y2 => K .normal (e6 y0 y1 y2)) x0 x1) := by
 kernel_rfl
def g111_2 (k0 : V2 → Int → Option R) (x0 : Int) (x1 : V2) (x2 : Bool) : Option R :=
k0 ([], ()) (6 : Int)
theorem t111_2 (x0 x1 x2) : exec cl N c111_2 (e6 x0 x1 x2) K = (g111_2 (fun y0 y1 => K .normal (e7 y0 y1)) x0 x1 x2) := by
 kernel_rfl
theorem kp111_0 (x0 x1) : keep [0, 2, 3] (e7 x0 x1) = (e8 x0 x1) := by kernel_rfl
theorem kp111_1 (x0 x1 x2) : keep [0, 2, 3] (e6 x0 x1 x2) = (e9 x0 x1) := by kernel_rfl
theorem hb111_0 (x0 x1 x2) : boolOf? (ent (e6 x0 x1 x2) (.t 6)) = some x2 := by kernel_rfl
def g111_4 (k0 : Int → V2 → V0 → Option R) (x0 : Int) (x1 : V2) : Option R :=
k0 x0 x1 []
theorem t111_4 (x0 x1) : exec cl N c111_4 (e9 x0 x1) K = (g111_4 (fun y0 y1 y2 => K .normal (e10 y0 y1 y2)) x0 x1) := by
 kernel_rfl
theorem kp111_2 (x0 x1 x2) : keep [0, 2, 4] (e10 x0 x1 x2) = (e10 x0 x1 x2) := by kernel_rfl
def g111_5 (k0 : Int → V2 → V0 → Bool → Option R) (x0 : Int) (x1 : V2) (x2 : V0) : Option R :=
k0 x0 x1 x2 (decide (x0 > (0 : Int)))
theorem t111_5 (x0 x1 x2) : exec cl N c111_5 (e10 x0 x1 x2) K = (g111_5 (fun y0 y1 y2 y3 => K .normal (e11 y0 y1 y2 y3)) x0 x1 x2) := by
 kernel_rfl
theorem kp111_3 (x0 x1 x2 x3) : keep [0, 2, 4] (e11 x0 x1 x2 x3) = (e10 x0 x1 x2) := by kernel_rfl
theorem hb111_1 (x0 x1 x2 x3) : boolOf? (ent (e11 x0 x1 x2 x3) (.t 9)) = some x3 := by kernel_rfl
def g111_9 (k0 : Int → V2 → V0 → Option R) (x0 : Int) (x1 : V2) (x2 : V0) : Option R :=
let v694 : Int := (Int.tmod x0 (10000 : Int))
if x2.length + [v694].length ≤ 17592186044416 then
k0 (IntKind.i64.wrap (Int.tdiv x0 (10000 : Int))) x1 (x2 ++ [v694])
else none
theorem t111_9 (x0 x1 x2) : exec cl N c111_9 (e10 x0 x1 x2) K = (g111_9 (fun y0 y1 y2 => K .normal (e10 y0 y1 y2)) x0 x1 x2) := by
 kernel_rfl
def g111_11 (k0 : Int → V2 → V0 → Option R) (k1 : Int → V2 → V0 → Option R) (x0 : Int) (x1 : V2) (x2 : V0) : Option R :=
(g111_5 (fun y0 y1 y2 y3 => brB y3 ((g111_9 k0) y0 y1 y2) (k1 y0 y1 y2)) x0 x1 x2)
theorem t111_11 (x0 x1 x2) : exec cl N c111_11 (e10 x0 x1 x2) K = (g111_11 (fun y0 y1 y2 => K .normal (e10 y0 y1 y2)) (fun y0 y1 y2 => K (.exit 0) (e10 y0 y1 y2)) x0 x1 x2) := by
 simp only [c111_11, exec_seq, seqK_normal, seqK_exit, seqK_ret, t111_5, c111_6, exec_out, exec_cond', hb111_1, Option.bind_some, brB_true, brB_false, exec_skip, exec_exit, kp111_3, c111_10, exec_block, t111_9, blockK_normal, blockK_ret, blockK_eq, kp111_2]
 rfl
def l111_12 {R : Type} (k0 : Int → V2 → V0 → Option R) : Nat → Int → V2 → V0 → Option R
 | 0, _, _, _ => none
 | m + 1, x0, x1, x2 => (g111_11 (l111_12 k0 m) k0 x0 x1 x2)
theorem lt111_12 : ∀ (m) (x0 x1 x2), iter [0, 2, 4] (fun env K => exec cl N c111_11 env K) K m (e10 x0 x1 x2) = l111_12 (fun y0 y1 y2 => K (.exit 0) (e10 y0 y1 y2)) m x0 x1 x2 := by
 intro m
 induction m with
 | zero => intros; rfl
 | succ m ih =>
   intro x0 x1 x2
   simp only [iter_succ, t111_11, loopK_normal, loopK_exit, loopK_ret, kp111_2, ih]
   rfl
theorem kp111_4 (x0 x1 x2) : keep [2, 4] (e10 x0 x1 x2) = (e12 x1 x2) := by kernel_rfl
def g111_12 (N : Nat) (k0 : V2 → V0 → Option R) (x0 : Int) (x1 : V2) (x2 : V0) : Option R :=
l111_12 (fun y0 y1 y2 => k0 y1 y2) N x0 x1 x2
theorem t111_12 (x0 x1 x2) : exec cl N c111_12 (e10 x0 x1 x2) K = (g111_12 N (fun y0 y1 => K (.exit 0) (e12 y0 y1)) x0 x1 x2) := by
 simp only [c111_12, exec_out, exec_loop, kp111_2, lt111_12, kp111_4]
 rfl
theorem kp111_5 (x0 x1) : keep [2, 4] (e12 x0 x1) = (e12 x0 x1) := by kernel_rfl
def g111_14 (k0 : V2 → Int → Option R) (x0 : V2) (x1 : V0) : Option R :=
k0 (x1, ()) (0 : Int)
theorem t111_14 (x0 x1) : exec cl N c111_14 (e12 x0 x1) K = (g111_14 (fun y0 y1 => K .normal (e13 y0 y1)) x0 x1) := by
 kernel_rfl
def g111_15 (N : Nat) (k0 : V2 → Int → Option R) (k1 : V2 → Int → Option R) (x0 : Int) : Option R :=
(g111_0 (g111_1 (fun y0 y1 y2 => brB y2 (g111_2 k0 y0 y1 y2) ((g111_4 (g111_12 N ((g111_14 k1)))) y0 y1))) x0)
theorem t111_15 (x0) : exec cl N c111_15 [(0, .v U1 x0)] K = (g111_15 N (fun y0 y1 => K .ret (e8 y0 y1)) (fun y0 y1 => K .ret (e13 y0 y1)) x0) := by
 simp only [c111_15, exec_seq, seqK_normal, seqK_exit, seqK_ret, t111_0, t111_1, c111_3, exec_out, exec_cond', hb111_0, Option.bind_some, brB_true, brB_false, t111_2, exec_ret, exec_skip, kp111_0, kp111_1, t111_4, c111_13, exec_block, t111_12, blockK_normal, blockK_ret, blockK_eq, kp111_5, t111_14]
 rfl
theorem rk111_0 (y0 y1) : retK d111 .ret (e8 y0 y1) = some [.v U5 y0, .v U1 y1] := by kernel_rfl
theorem rk111_1 (y0 y1) : retK d111 .ret (e13 y0 y1) = some [.v U5 y0, .v U1 y1] := by kernel_rfl
def g111 (N : Nat) (x0 : Int) (k : V2 → Int → Option R) : Option R :=
(g111_15 N k k x0)
theorem gen111 (x0) (k : List E → Option R) : exec cl N c111 [(0, .v U1 x0)] (fun e env => (retK d111 e env).bind k) = g111 N x0 (fun r0 r1 => k [.v U5 r0, .v U1 r1]) := by
 simp only [c111, t111_15, rk111_0, rk111_1, Option.bind_some]
 rfl
def ctr111 (S : Int → Option V5) : Ctr := cv1 111 U1 S fun b => [.v U5 b.1, .v U1 b.2]
def S111 (N : Nat) (x0 : Int) : Option V5 := g111 N x0 (fun (r0 : V2) (r1 : Int) => some (r0, r1))
def g85_3 (S111 : Int → Option V5) (k0 : V2 → Option R) (x0 : Int) : Option R :=
(S111 x0).bind fun r699 =>
k0 r699.1
theorem t85_3 (S111) (h111 : (ctr111 S111).holds cl) (x0) : exec cl N c85_3 [(0, .v U1 x0)] K = (g85_3 S111 (fun y0 => exec cl N .ret [(2, .loc U5 .no y0)] K) x0) := by
 rw [← put_eq h111]
 kernel_rfl
def g85_3b (S111 : Int → Option V5) (k0 : V2 → Option R) (x0 : Int) : Option R :=
(g85_3 S111 k0 x0)
theorem t85_3b (S111) (h111 : (ctr111 S111).holds cl) (x0) : exec cl N c85_3 [(0, .v U1 x0)] K = (g85_3b S111 (fun y0 => K .ret [(2, .loc U5 .no y0)]) x0) := by
 simp only [exec_seq, seqK_normal, seqK_exit, seqK_ret, t85_3 S111 h111, exec_ret]
 rfl
theorem rk85_0 (y0) : retK d85 .ret [(2, .loc U5 .no y0)] = some [.v U5 y0] := by kernel_rfl
def g85 (S111 : Int → Option V5) (x0 : Int) (k : V2 → Option R) : Option R :=
(g85_3b S111 k x0)
theorem gen85 (S111) (h111 : (ctr111 S111).holds cl) (x0) (k : List E → Option R) : exec cl N c85 [(0, .v U1 x0)] (fun e env => (retK d85 e env).bind k) = g85 S111 x0 (fun r0 => k [.v U5 r0]) := by
 simp only [c85, t85_3b S111 h111, rk85_0, Option.bind_some]
 rfl
def ctr85 (S : Int → Option V3) : Ctr := cv1 85 U1 S fun b => [.v U5 b]
def S85 (N : Nat) (x0 : Int) : Option V3 := g85 (S111 N) x0 (fun (r0 : V2) => some (r0))
def g53_2 (S85 : Int → Option V3) (k0 : V2 → Option R) (x0 : Int) : Option R :=
(S85 (if (0 : Int) > x0 then (0 : Int) else x0)).bind fun r702 =>
k0 r702
theorem t53_2 (S85) (h85 : (ctr85 S85).holds cl) (x0) : exec cl N c53_2 [(0, .v U1 x0)] K = (g53_2 S85 (fun y0 => exec cl N .ret [(2, .loc U5 .no y0)] K) x0) := by
 rw [← put_eq h85]
 kernel_rfl
def g53_2b (S85 : Int → Option V3) (k0 : V2 → Option R) (x0 : Int) : Option R :=
(g53_2 S85 k0 x0)
theorem t53_2b (S85) (h85 : (ctr85 S85).holds cl) (x0) : exec cl N c53_2 [(0, .v U1 x0)] K = (g53_2b S85 (fun y0 => K .ret [(2, .loc U5 .no y0)]) x0) := by
 simp only [exec_seq, seqK_normal, seqK_exit, seqK_ret, t53_2 S85 h85, exec_ret]
 rfl
theorem rk53_0 (y0) : retK d53 .ret [(2, .loc U5 .no y0)] = some [.v U5 y0] := by kernel_rfl
def g53 (S85 : Int → Option V3) (x0 : Int) (k : V2 → Option R) : Option R :=
(g53_2b S85 k x0)
theorem gen53 (S85) (h85 : (ctr85 S85).holds cl) (x0) (k : List E → Option R) : exec cl N c53 [(0, .v U1 x0)] (fun e env => (retK d53 e env).bind k) = g53 S85 x0 (fun r0 => k [.v U5 r0]) := by
 simp only [c53, t53_2b S85 h85, rk53_0, Option.bind_some]
 rfl
def ctr53 (S : Int → Option V3) : Ctr := cv1 53 U1 S fun b => [.v U5 b]
def S53 (N : Nat) (x0 : Int) : Option V3 := g53 (S85 N) x0 (fun (r0 : V2) => some (r0))
def g60_2 (S90 : V0 → V0 → Option (Int)) (k0 : Int → Option R) (x0 x1 : V2) : Option R :=
(S90 x0.1 x1.1).bind fun r705 =>
k0 r705
theorem t60_2 (S90) (h90 : (ctr90 S90).holds cl) (x0 x1) : exec cl N c60_2 (e68 x0 x1) K = (g60_2 S90 (fun y0 => exec cl N .ret [(4, .v U1 y0)] K) x0 x1) := by
 rw [← put_eq h90]
 kernel_rfl
def g60_2b (S90 : V0 → V0 → Option (Int)) (k0 : Int → Option R) (x0 x1 : V2) : Option R :=
(g60_2 S90 k0 x0 x1)
theorem t60_2b (S90) (h90 : (ctr90 S90).holds cl) (x0 x1) : exec cl N c60_2 (e68 x0 x1) K = (g60_2b S90 (fun y0 => K .ret [(4, .v U1 y0)]) x0 x1) := by
 simp only [exec_seq, seqK_normal, seqK_exit, seqK_ret, t60_2 S90 h90, exec_ret]
 rfl
theorem rk60_0 (y0) : retK d60 .ret [(4, .v U1 y0)] = some [.v U1 y0] := by kernel_rfl
def g60 (S90 : V0 → V0 → Option (Int)) (x0 x1 : V2) (k : Int → Option R) : Option R :=
(g60_2b S90 k x0 x1)
theorem gen60 (S90) (h90 : (ctr90 S90).holds cl) (x0 x1) (k : List E → Option R) : exec cl N c60 (e68 x0 x1) (fun e env => (retK d60 e env).bind k) = g60 S90 x0 x1 (fun r0 => k [.v U1 r0]) := by
 simp only [c60, t60_2b S90 h90, rk60_0, Option.bind_some]
 rfl
def ctr60 (S : V2 → V2 → Option (Int)) : Ctr := cv2 60 U5 U5 S fun b => [.v U1 b]
def S60 (N : Nat) (x0 : V2) (x1 : V2) : Option (Int) := g60 (S90 N) x0 x1 (fun (r0 : Int) => some (r0))
def g51_2 (S60 : V2 → V2 → Option (Int)) (k0 : Bool → Option R) (x0 x1 : V2) : Option R :=
(S60 x0 x1).bind fun r708 =>
k0 (r708 == (0 : Int))
theorem t51_2 (S60) (h60 : (ctr60 S60).holds cl) (x0 x1) : exec cl N c51_2 (e68 x0 x1) K = (g51_2 S60 (fun y0 => exec cl N .ret [(4, .v .bool y0)] K) x0 x1) := by
 rw [← put_eq h60]
 kernel_rfl
def g51_2b (S60 : V2 → V2 → Option (Int)) (k0 : Bool → Option R) (x0 x1 : V2) : Option R :=
(g51_2 S60 k0 x0 x1)
theorem t51_2b (S60) (h60 : (ctr60 S60).holds cl) (x0 x1) : exec cl N c51_2 (e68 x0 x1) K = (g51_2b S60 (fun y0 => K .ret [(4, .v .bool y0)]) x0 x1) := by
 simp only [exec_seq, seqK_normal, seqK_exit, seqK_ret, t51_2 S60 h60, exec_ret]
 rfl
theorem rk51_0 (y0) : retK d51 .ret [(4, .v .bool y0)] = some [.v .bool y0] := by kernel_rfl
def g51 (S60 : V2 → V2 → Option (Int)) (x0 x1 : V2) (k : Bool → Option R) : Option R :=
(g51_2b S60 k x0 x1)
theorem gen51 (S60) (h60 : (ctr60 S60).holds cl) (x0 x1) (k : List E → Option R) : exec cl N c51 (e68 x0 x1) (fun e env => (retK d51 e env).bind k) = g51 S60 x0 x1 (fun r0 => k [.v .bool r0]) := by
 simp only [c51, t51_2b S60 h60, rk51_0, Option.bind_some]
 rfl
def ctr51 (S : V2 → V2 → Option (Bool)) : Ctr := cv2 51 U5 U5 S fun b => [.v .bool b]
def S51 (N : Nat) (x0 : V2) (x1 : V2) : Option (Bool) := g51 (S60 N) x0 x1 (fun (r0 : Bool) => some (r0))
def g54_0 (k0 : V10 → Option R) (x0 : V10) : Option R :=
k0 x0
theorem t54_0 (x0) : exec cl N c54_0 [(0, .v U9 x0)] K = (g54_0 (fun y0 => K .normal [(1, .loc U9 .no y0)]) x0) := by
 kernel_rfl
def g54_1 (S56 : V2 → Option (Bool)) (S86 : V2 → Option (Bool)) (k0 : V10 → Bool → Option R) (x0 : V10) : Option R :=
(S86 x0.2.1).bind fun r711 =>
brB (!r711) (k0 x0 true) ((S86 x0.2.2.1).bind fun r712 =>
brB (!r712) (k0 x0 true) ((S56 x0.2.2.1).bind fun r713 =>
brB r713 (k0 x0 true) ((S56 x0.2.1).bind fun r714 =>
brB r714 (k0 x0 x0.1) (k0 x0 false))))
theorem t54_1 (S56) (S86) (h56 : (ctr56 S56).holds cl) (h86 : (ctr86 S86).holds cl) (x0) : exec cl N c54_1 [(1, .loc U9 .no x0)] K = (g54_1 S56 S86 (fun y0 y1 => K .normal (e143 y0 y1)) x0) := by
 rw [← put_eq h56]
 rw [← put_eq h86]
 kernel_rfl
def g54_2 (k0 : Bool → Option R) (x0 : V10) (x1 : Bool) : Option R :=
k0 false
theorem t54_2 (x0 x1) : exec cl N c54_2 (e143 x0 x1) K = (g54_2 (fun y0 => K .normal [(2, .v .bool y0)]) x0 x1) := by
 kernel_rfl
theorem kp54_0 (x0) : keep [1, 2] [(2, .v .bool x0)] = (e144 x0) := by kernel_rfl
theorem kp54_1 (x0 x1) : keep [1, 2] (e143 x0 x1) = [(1, .loc U9 .no x0), (2, .dead)] := by kernel_rfl
theorem hb54_0 (x0 x1) : boolOf? (ent (e143 x0 x1) (.t 28)) = some x1 := by kernel_rfl
def g54_6 (S51 : V2 → V2 → Option (Bool)) (S53 : Int → Option V3) (S83 : V2 → V2 → Option V5) (k0 : Bool → Option R) (x0 : V10) : Option R :=
(S83 x0.2.1 x0.2.2.1).bind fun r716 =>
(S53 (1 : Int)).bind fun r717 =>
(S51 r716.1 r717).bind fun r718 =>
k0 r718
theorem t54_6 (S51) (S53) (S83) (h51 : (ctr51 S51).holds cl) (h53 : (ctr53 S53).holds cl) (h83 : (ctr83 S83).holds cl) (x0) : exec cl N c54_6 [(1, .loc U9 .no x0), (2, .dead)] K = (g54_6 S51 S53 S83 (fun y0 => exec cl N .ret [(2, .v .bool y0)] K) x0) := by
 rw [← put_eq h51]
 rw [← put_eq h53]
 rw [← put_eq h83]
 kernel_rfl
def g54_7 (S51 : V2 → V2 → Option (Bool)) (S53 : Int → Option V3) (S56 : V2 → Option (Bool)) (S83 : V2 → V2 → Option V5) (S86 : V2 → Option (Bool)) (k0 : Bool → Option R) (k1 : Bool → Option R) (x0 : V10) : Option R :=
(g54_0 (g54_1 S56 S86 (fun y0 y1 => brB y1 (g54_2 k0 y0 y1) ((g54_6 S51 S53 S83 k1) y0))) x0)
theorem t54_7 (S51) (S53) (S56) (S83) (S86) (h51 : (ctr51 S51).holds cl) (h53 : (ctr53 S53).holds cl) (h56 : (ctr56 S56).holds cl) (h83 : (ctr83 S83).holds cl) (h86 : (ctr86 S86).holds cl) (x0) : exec cl N c54_7 [(0, .v U9 x0)] K = (g54_7 S51 S53 S56 S83 S86 (fun y0 => K .ret (e144 y0)) (fun y0 => K .ret [(2, .v .bool y0)]) x0) := by
 simp only [c54_7, exec_seq, seqK_normal, seqK_exit, seqK_ret, t54_0, t54_1 S56 S86 h56 h86, c54_3, exec_out, exec_cond', hb54_0, Option.bind_some, brB_true, brB_false, t54_2, exec_ret, exec_skip, kp54_0, kp54_1, t54_6 S51 S53 S83 h51 h53 h83]
 rfl
theorem rk54_0 (y0) : retK d54 .ret (e144 y0) = some [.v .bool y0] := by kernel_rfl
theorem rk54_1 (y0) : retK d54 .ret [(2, .v .bool y0)] = some [.v .bool y0] := by kernel_rfl
def g54 (S51 : V2 → V2 → Option (Bool)) (S53 : Int → Option V3) (S56 : V2 → Option (Bool)) (S83 : V2 → V2 → Option V5) (S86 : V2 → Option (Bool)) (x0 : V10) (k : Bool → Option R) : Option R :=
(g54_7 S51 S53 S56 S83 S86 k k x0)
theorem gen54 (S51) (S53) (S56) (S83) (S86) (h51 : (ctr51 S51).holds cl) (h53 : (ctr53 S53).holds cl) (h56 : (ctr56 S56).holds cl) (h83 : (ctr83 S83).holds cl) (h86 : (ctr86 S86).holds cl) (x0) (k : List E → Option R) : exec cl N c54 [(0, .v U9 x0)] (fun e env => (retK d54 e env).bind k) = g54 S51 S53 S56 S83 S86 x0 (fun r0 => k [.v .bool r0]) := by
 simp only [c54, t54_7 S51 S53 S56 S83 S86 h51 h53 h56 h83 h86, rk54_0, rk54_1, Option.bind_some]
 rfl
def ctr54 (S : V10 → Option (Bool)) : Ctr := cv1 54 U9 S fun b => [.v .bool b]
def S54 (N : Nat) (x0 : V10) : Option (Bool) := g54 (S51 N) (S53 N) (S56 N) (S83 N) (S86 N) x0 (fun (r0 : Bool) => some (r0))
def g94_2 (S53 : Int → Option V3) (k0 : V10 → Option R) : Option R :=
(S53 (1 : Int)).bind fun r724 =>
k0 (false, ([], ()), r724, ())
theorem t94_2 (S53) (h53 : (ctr53 S53).holds cl) : exec cl N c94_2 [] K = (g94_2 S53 (fun y0 => exec cl N .ret [(0, .loc U9 .no y0)] K)) := by
 rw [← put_eq h53]
 kernel_rfl
def g94_2b (S53 : Int → Option V3) (k0 : V10 → Option R) : Option R :=
(g94_2 S53 k0)
theorem t94_2b (S53) (h53 : (ctr53 S53).holds cl) : exec cl N c94_2 [] K = (g94_2b S53 (fun y0 => K .ret [(0, .loc U9 .no y0)])) := by
 simp only [exec_seq, seqK_normal, seqK_exit, seqK_ret, t94_2 S53 h53, exec_ret]
 rfl
theorem rk94_0 (y0) : retK d94 .ret [(0, .loc U9 .no y0)] = some [.v U9 y0] := by kernel_rfl
def g94 (S53 : Int → Option V3) (k : V10 → Option R) : Option R :=
(g94_2b S53 k)
theorem gen94 (S53) (h53 : (ctr53 S53).holds cl) (k : List E → Option R) : exec cl N c94 [] (fun e env => (retK d94 e env).bind k) = g94 S53 (fun r0 => k [.v U9 r0]) := by
 simp only [c94, t94_2b S53 h53, rk94_0, Option.bind_some]
 rfl
def ctr94 (S : Option V11) : Ctr := { A := Unit, B := V10, f := 94, enc := fun a => [], dec := dec0, S := fun a => S, ent := fun b => [.v U9 b], ok := (fun es b h => dec0_some h) }
def S94 (N : Nat) : Option V11 := g94 (S53 N) (fun (r0 : V10) => some (r0))
def g88_25 (k0 : V0 → V0 → V0 → Option R) (x0 x1 : V0) : Option R :=
let v765 : Int := (IntKind.i64.wrap ((IntKind.i64.wrap ((x0.length : Int) + (x1.length : Int))) + (1 : Int)))
if 0 ≤ v765 ∧ v765 ≤ v765 ∧ v765 ≤ ((17592186044416 : Nat) : Int) then
k0 x0 x1 (List.replicate v765.toNat (0 : Int))
else none
theorem t88_25 (x0 x1) : exec cl N c88_25 (e14 x0 x1) K = (g88_25 (fun y0 y1 y2 => exec cl N (.seq (.seq c88_2 c88_23) (.seq c88_24 .ret)) (e15 y0 y1 y2) K) x0 x1) := by
 kernel_rfl
def g88_2 (k0 : V0 → V0 → V0 → Int → Option R) (x0 x1 x2 : V0) : Option R :=
k0 x0 x1 x2 (0 : Int)
theorem t88_2 (x0 x1 x2) : exec cl N c88_2 (e15 x0 x1 x2) K = (g88_2 (fun y0 y1 y2 y3 => K .normal (e96 y0 y1 y2 y3)) x0 x1 x2) := by
 kernel_rfl
theorem kp88_0 (x0 x1 x2 x3) : keep [0, 1, 5, 6] (e96 x0 x1 x2 x3) = (e96 x0 x1 x2 x3) := by kernel_rfl
def g88_3 (k0 : V0 → V0 → V0 → Int → Bool → Option R) (x0 x1 x2 : V0) (x3 : Int) : Option R :=
k0 x0 x1 x2 x3 (decide (x3 < (x0.length : Int)))
theorem t88_3 (x0 x1 x2 x3) : exec cl N c88_3 (e96 x0 x1 x2 x3) K = (g88_3 (fun y0 y1 y2 y3 y4 => K .normal (e145 y0 y1 y2 y3 y4)) x0 x1 x2 x3) := by
 kernel_rfl
theorem kp88_1 (x0 x1 x2 x3 x4) : keep [0, 1, 5, 6] (e145 x0 x1 x2 x3 x4) = (e96 x0 x1 x2 x3) := by kernel_rfl
theorem hb88_0 (x0 x1 x2 x3 x4) : boolOf? (ent (e145 x0 x1 x2 x3 x4) (.t 20)) = some x4 := by kernel_rfl
def g88_18 (k0 : V0 → V0 → V0 → Int → Int → Int → Option R) (x0 x1 x2 : V0) (x3 : Int) : Option R :=
k0 x0 x1 x2 x3 (0 : Int) (0 : Int)
theorem t88_18 (x0 x1 x2 x3) : exec cl N c88_18 (e96 x0 x1 x2 x3) K = (g88_18 (fun y0 y1 y2 y3 y4 y5 => exec cl N c88_17 (e125 y0 y1 y2 y3 y4 y5) K) x0 x1 x2 x3) := by
 kernel_rfl
theorem kp88_2 (x0 x1 x2 x3 x4 x5) : keep [0, 1, 5, 6, 7, 8] (e125 x0 x1 x2 x3 x4 x5) = (e125 x0 x1 x2 x3 x4 x5) := by kernel_rfl
def g88_7 (k0 : V0 → V0 → V0 → Int → Int → Int → Bool → Option R) (x0 x1 x2 : V0) (x3 x4 x5 : Int) : Option R :=
brB (decide (x5 < (x1.length : Int))) (k0 x0 x1 x2 x3 x4 x5 true) (k0 x0 x1 x2 x3 x4 x5 (decide (x4 > (0 : Int))))
theorem t88_7 (x0 x1 x2 x3 x4 x5) : exec cl N c88_7 (e125 x0 x1 x2 x3 x4 x5) K = (g88_7 (fun y0 y1 y2 y3 y4 y5 y6 => K .normal (e146 y0 y1 y2 y3 y4 y5 y6)) x0 x1 x2 x3 x4 x5) := by
 kernel_rfl
theorem kp88_3 (x0 x1 x2 x3 x4 x5 x6) : keep [0, 1, 5, 6, 7, 8] (e146 x0 x1 x2 x3 x4 x5 x6) = (e125 x0 x1 x2 x3 x4 x5) := by kernel_rfl
theorem hb88_1 (x0 x1 x2 x3 x4 x5 x6) : boolOf? (ent (e146 x0 x1 x2 x3 x4 x5 x6) (.t 30)) = some x6 := by kernel_rfl
def g88_12 (S112 : V0 → Int → Option (Int)) (k0 : V0 → V0 → V0 → Int → Int → Int → Option R) (x0 x1 x2 : V0) (x3 x4 x5 : Int) : Option R :=
let v783 : Int := (IntKind.i64.wrap (x3 + x5))
if 0 ≤ v783 ∧ v783 < (x2.length : Int) then
if v783.toNat < x2.length then
if 0 ≤ x3 ∧ x3 < (x0.length : Int) then
(S112 x1 x5).bind fun r785 =>
let v788 : Int := (IntKind.i64.wrap ((IntKind.i64.wrap ((x2.getD v783.toNat (0 : Int)) + (IntKind.i64.wrap ((x0.getD x3.toNat (0 : Int)) * r785)))) + x4))
let v789 : Int := (IntKind.i64.wrap (x3 + x5))
if 0 ≤ v789 ∧ v789 < (x2.length : Int) then
if v789.toNat < x2.length then
k0 x0 x1 (x2.set v789.toNat (Int.tmod v788 (10000 : Int))) x3 (IntKind.i64.wrap (Int.tdiv v788 (10000 : Int))) x5
else none
else none
else none
else none
else none
theorem t88_12 (S112) (h112 : (ctr112 S112).holds cl) (x0 x1 x2 x3 x4 x5) : exec cl N c88_12 (e125 x0 x1 x2 x3 x4 x5) K = (g88_12 S112 (fun y0 y1 y2 y3 y4 y5 => K .normal (e125 y0 y1 y2 y3 y4 y5)) x0 x1 x2 x3 x4 x5) := by
 rw [← put_eq h112]
 kernel_rfl
def g88_14 (k0 : V0 → V0 → V0 → Int → Int → Int → Option R) (x0 x1 x2 : V0) (x3 x4 x5 : Int) : Option R :=
k0 x0 x1 x2 x3 x4 (IntKind.i64.wrap (x5 + (1 : Int)))
theorem t88_14 (x0 x1 x2 x3 x4 x5) : exec cl N c88_14 (e125 x0 x1 x2 x3 x4 x5) K = (g88_14 (fun y0 y1 y2 y3 y4 y5 => K .normal (e125 y0 y1 y2 y3 y4 y5)) x0 x1 x2 x3 x4 x5) := by
 kernel_rfl
def g88_15 (S112 : V0 → Int → Option (Int)) (k0 : V0 → V0 → V0 → Int → Int → Int → Option R) (k1 : V0 → V0 → V0 → Int → Int → Int → Option R) (x0 x1 x2 : V0) (x3 x4 x5 : Int) : Option R :=
(g88_7 (fun y0 y1 y2 y3 y4 y5 y6 => brB y6 ((g88_12 S112 ((g88_14 k0))) y0 y1 y2 y3 y4 y5) (k1 y0 y1 y2 y3 y4 y5)) x0 x1 x2 x3 x4 x5)
theorem t88_15 (S112) (h112 : (ctr112 S112).holds cl) (x0 x1 x2 x3 x4 x5) : exec cl N c88_15 (e125 x0 x1 x2 x3 x4 x5) K = (g88_15 S112 (fun y0 y1 y2 y3 y4 y5 => K .normal (e125 y0 y1 y2 y3 y4 y5)) (fun y0 y1 y2 y3 y4 y5 => K (.exit 2) (e125 y0 y1 y2 y3 y4 y5)) x0 x1 x2 x3 x4 x5) := by
 simp only [c88_15, exec_seq, seqK_normal, seqK_exit, seqK_ret, t88_7, c88_8, exec_out, exec_cond', hb88_1, Option.bind_some, brB_true, brB_false, exec_skip, exec_exit, kp88_3, c88_13, exec_block, t88_12 S112 h112, blockK_normal, blockK_ret, blockK_eq, kp88_2, t88_14]
 rfl
def l88_16 {R : Type} (S112 : V0 → Int → Option (Int)) (k0 : V0 → V0 → V0 → Int → Int → Int → Option R) : Nat → V0 → V0 → V0 → Int → Int → Int → Option R
 | 0, _, _, _, _, _, _ => none
 | m + 1, x0, x1, x2, x3, x4, x5 => (g88_15 S112 (l88_16 S112 k0 m) k0 x0 x1 x2 x3 x4 x5)
theorem lt88_16 (S112) (h112 : (ctr112 S112).holds cl) : ∀ (m) (x0 x1 x2 x3 x4 x5), iter [0, 1, 5, 6, 7, 8] (fun env K => exec cl N c88_15 env K) K m (e125 x0 x1 x2 x3 x4 x5) = l88_16 S112 (fun y0 y1 y2 y3 y4 y5 => K (.exit 2) (e125 y0 y1 y2 y3 y4 y5)) m x0 x1 x2 x3 x4 x5 := by
 intro m
 induction m with
 | zero => intros; rfl
 | succ m ih =>
   intro x0 x1 x2 x3 x4 x5
   simp only [iter_succ, t88_15 S112 h112, loopK_normal, loopK_exit, loopK_ret, kp88_2, ih]
   rfl
theorem kp88_4 (x0 x1 x2 x3 x4 x5) : keep [0, 1, 5, 6] (e125 x0 x1 x2 x3 x4 x5) = (e96 x0 x1 x2 x3) := by kernel_rfl
def g88_16 (N : Nat) (S112 : V0 → Int → Option (Int)) (k0 : V0 → V0 → V0 → Int → Option R) (x0 x1 x2 : V0) (x3 x4 x5 : Int) : Option R :=
l88_16 S112 (fun y0 y1 y2 y3 y4 y5 => k0 y0 y1 y2 y3) N x0 x1 x2 x3 x4 x5
theorem t88_16 (S112) (h112 : (ctr112 S112).holds cl) (x0 x1 x2 x3 x4 x5) : exec cl N c88_16 (e125 x0 x1 x2 x3 x4 x5) K = (g88_16 N S112 (fun y0 y1 y2 y3 => K (.exit 2) (e96 y0 y1 y2 y3)) x0 x1 x2 x3 x4 x5) := by
 simp only [c88_16, exec_out, exec_loop, kp88_2, lt88_16 S112 h112, kp88_4]
 rfl
def g88_20 (k0 : V0 → V0 → V0 → Int → Option R) (x0 x1 x2 : V0) (x3 : Int) : Option R :=
k0 x0 x1 x2 (IntKind.i64.wrap (x3 + (1 : Int)))
theorem t88_20 (x0 x1 x2 x3) : exec cl N c88_20 (e96 x0 x1 x2 x3) K = (g88_20 (fun y0 y1 y2 y3 => K .normal (e96 y0 y1 y2 y3)) x0 x1 x2 x3) := by
 kernel_rfl
def g88_21 (N : Nat) (S112 : V0 → Int → Option (Int)) (k0 : V0 → V0 → V0 → Int → Option R) (k1 : V0 → V0 → V0 → Int → Option R) (x0 x1 x2 : V0) (x3 : Int) : Option R :=
(g88_3 (fun y0 y1 y2 y3 y4 => brB y4 ((g88_18 (g88_16 N S112 (((g88_20 k0))))) y0 y1 y2 y3) (k1 y0 y1 y2 y3)) x0 x1 x2 x3)
theorem t88_21 (S112) (h112 : (ctr112 S112).holds cl) (x0 x1 x2 x3) : exec cl N c88_21 (e96 x0 x1 x2 x3) K = (g88_21 N S112 (fun y0 y1 y2 y3 => K .normal (e96 y0 y1 y2 y3)) (fun y0 y1 y2 y3 => K (.exit 0) (e96 y0 y1 y2 y3)) x0 x1 x2 x3) := by
 simp only [c88_21, exec_seq, seqK_normal, seqK_exit, seqK_ret, t88_3, c88_4, exec_out, exec_cond', hb88_0, Option.bind_some, brB_true, brB_false, exec_skip, exec_exit, kp88_1, c88_19, exec_block, t88_18, c88_17, t88_16 S112 h112, blockK_normal, blockK_ret, blockK_eq, kp88_0, t88_20]
 rfl
def l88_22 {R : Type} (N : Nat) (S112 : V0 → Int → Option (Int)) (k0 : V0 → V0 → V0 → Int → Option R) : Nat → V0 → V0 → V0 → Int → Option R
 | 0, _, _, _, _ => none
 | m + 1, x0, x1, x2, x3 => (g88_21 N S112 (l88_22 N S112 k0 m) k0 x0 x1 x2 x3)
theorem lt88_22 (S112) (h112 : (ctr112 S112).holds cl) : ∀ (m) (x0 x1 x2 x3), iter [0, 1, 5, 6] (fun env K => exec cl N c88_21 env K) K m (e96 x0 x1 x2 x3) = l88_22 N S112 (fun y0 y1 y2 y3 => K (.exit 0) (e96 y0 y1 y2 y3)) m x0 x1 x2 x3 := by
 intro m
 induction m with
 | zero => intros; rfl
 | succ m ih =>
   intro x0 x1 x2 x3
   simp only [iter_succ, t88_21 S112 h112, loopK_normal, loopK_exit, loopK_ret, kp88_0, ih]
   rfl
theorem kp88_5 (x0 x1 x2 x3) : keep [5] (e96 x0 x1 x2 x3) = (e22 x2) := by kernel_rfl
def g88_22 (N : Nat) (S112 : V0 → Int → Option (Int)) (k0 : V0 → Option R) (x0 x1 x2 : V0) (x3 : Int) : Option R :=
l88_22 N S112 (fun y0 y1 y2 y3 => k0 y2) N x0 x1 x2 x3
theorem t88_22 (S112) (h112 : (ctr112 S112).holds cl) (x0 x1 x2 x3) : exec cl N c88_22 (e96 x0 x1 x2 x3) K = (g88_22 N S112 (fun y0 => K (.exit 0) (e22 y0)) x0 x1 x2 x3) := by
 simp only [c88_22, exec_out, exec_loop, kp88_0, lt88_22 S112 h112, kp88_5]
 rfl
theorem kp88_6 (x0) : keep [5] (e22 x0) = (e22 x0) := by kernel_rfl
def g88_24 (S113 : V0 → Option V1) (k0 : V0 → Option R) (x0 : V0) : Option R :=
(S113 x0).bind fun r794 =>
k0 r794
theorem t88_24 (S113) (h113 : (ctr113 S113).holds cl) (x0) : exec cl N c88_24 (e22 x0) K = (g88_24 S113 (fun y0 => K .normal [(4, .v U2 y0)]) x0) := by
 rw [← put_eq h113]
 kernel_rfl
def g88_25b (N : Nat) (S112 : V0 → Int → Option (Int)) (S113 : V0 → Option V1) (k0 : V0 → Option R) (x0 x1 : V0) : Option R :=
(g88_25 (g88_2 (g88_22 N S112 ((g88_24 S113 k0)))) x0 x1)
theorem t88_25b (S112) (S113) (h112 : (ctr112 S112).holds cl) (h113 : (ctr113 S113).holds cl) (x0 x1) : exec cl N c88_25 (e14 x0 x1) K = (g88_25b N S112 S113 (fun y0 => K .ret [(4, .v U2 y0)]) x0 x1) := by
 simp only [exec_seq, seqK_normal, seqK_exit, seqK_ret, t88_25, t88_2, c88_23, exec_out, exec_block, t88_22 S112 h112, blockK_normal, blockK_ret, blockK_eq, kp88_6, t88_24 S113 h113, exec_ret]
 rfl
theorem rk88_0 (y0) : retK d88 .ret [(4, .v U2 y0)] = some [.v U2 y0] := by kernel_rfl
def g88 (N : Nat) (S112 : V0 → Int → Option (Int)) (S113 : V0 → Option V1) (x0 x1 : V0) (k : V0 → Option R) : Option R :=
(g88_25b N S112 S113 k x0 x1)
theorem gen88 (S112) (S113) (h112 : (ctr112 S112).holds cl) (h113 : (ctr113 S113).holds cl) (x0 x1) (k : List E → Option R) : exec cl N c88 (e14 x0 x1) (fun e env => (retK d88 e env).bind k) = g88 N S112 S113 x0 x1 (fun r0 => k [.v U2 r0]) := by
 simp only [c88, t88_25b S112 S113 h112 h113, rk88_0, Option.bind_some]
 rfl
def ctr88 (S : V0 → V0 → Option V1) : Ctr := cv2 88 U2 U2 S fun b => [.v U2 b]
def S88 (N : Nat) (x0 : V0) (x1 : V0) : Option V1 := g88 N (S112 N) (S113 N) x0 x1 (fun (r0 : V0) => some (r0))
def g87_0 (k0 : V0 → V2 → Option R) (x0 : V0) : Option R :=
k0 x0 ([], ())
theorem t87_0 (x0) : exec cl N c87_0 [(0, .v U2 x0)] K = (g87_0 (fun y0 y1 => K .normal (e2 y0 y1)) x0) := by
 kernel_rfl
def g87_1 (k0 : V0 → V2 → Bool → Option R) (x0 : V0) (x1 : V2) : Option R :=
k0 x0 x1 (decide ((x0.length : Int) > (200 : Int)))
theorem t87_1 (x0 x1) : exec cl N c87_1 (e2 x0 x1) K = (g87_1 (fun y0 y1 y2 => K .normal (e46 y0 y1 y2)) x0 x1) := by
 kernel_rfl
def g87_2 (k0 : V2 → Int → Option R) (x0 : V0) (x1 : V2) (x2 : Bool) : Option R :=
k0 ([], ()) (3 : Int)
theorem t87_2 (x0 x1 x2) : exec cl N c87_2 (e46 x0 x1 x2) K = (g87_2 (fun y0 y1 => K .normal (e7 y0 y1)) x0 x1 x2) := by
 kernel_rfl
theorem kp87_0 (x0 x1) : keep [0, 2, 3] (e7 x0 x1) = (e8 x0 x1) := by kernel_rfl
theorem kp87_1 (x0 x1 x2) : keep [0, 2, 3] (e46 x0 x1 x2) = (e47 x0 x1) := by kernel_rfl
theorem hb87_0 (x0 x1 x2) : boolOf? (ent (e46 x0 x1 x2) (.t 6)) = some x2 := by kernel_rfl
def g87_4 (k0 : V2 → Int → Option R) (x0 : V0) (x1 : V2) : Option R :=
k0 (x0, ()) (0 : Int)
theorem t87_4 (x0 x1) : exec cl N c87_4 (e47 x0 x1) K = (g87_4 (fun y0 y1 => K .normal (e13 y0 y1)) x0 x1) := by
 kernel_rfl
def g87_5 (k0 : V2 → Int → Option R) (k1 : V2 → Int → Option R) (x0 : V0) : Option R :=
(g87_0 (g87_1 (fun y0 y1 y2 => brB y2 (g87_2 k0 y0 y1 y2) ((g87_4 k1) y0 y1))) x0)
theorem t87_5 (x0) : exec cl N c87_5 [(0, .v U2 x0)] K = (g87_5 (fun y0 y1 => K .ret (e8 y0 y1)) (fun y0 y1 => K .ret (e13 y0 y1)) x0) := by
 simp only [c87_5, exec_seq, seqK_normal, seqK_exit, seqK_ret, t87_0, t87_1, c87_3, exec_out, exec_cond', hb87_0, Option.bind_some, brB_true, brB_false, t87_2, exec_ret, exec_skip, kp87_0, kp87_1, t87_4]
 rfl
theorem rk87_0 (y0 y1) : retK d87 .ret (e8 y0 y1) = some [.v U5 y0, .v U1 y1] := by kernel_rfl
theorem rk87_1 (y0 y1) : retK d87 .ret (e13 y0 y1) = some [.v U5 y0, .v U1 y1] := by kernel_rfl
def g87 (x0 : V0) (k : V2 → Int → Option R) : Option R :=
(g87_5 k k x0)
theorem gen87 (x0) (k : List E → Option R) : exec cl N c87 [(0, .v U2 x0)] (fun e env => (retK d87 e env).bind k) = g87 x0 (fun r0 r1 => k [.v U5 r0, .v U1 r1]) := by
 simp only [c87, t87_5, rk87_0, rk87_1, Option.bind_some]
 rfl
def ctr87 (S : V0 → Option V5) : Ctr := cv1 87 U2 S fun b => [.v U5 b.1, .v U1 b.2]
def S87 (N : Nat) (x0 : V0) : Option V5 := g87 x0 (fun (r0 : V2) (r1 : Int) => some (r0, r1))
def g58_0 (k0 : V2 → V2 → V2 → Option R) (x0 x1 : V2) : Option R :=
k0 x0 x1 ([], ())
theorem t58_0 (x0 x1) : exec cl N c58_0 (e68 x0 x1) K = (g58_0 (fun y0 y1 y2 => K .normal (e69 y0 y1 y2)) x0 x1) := by
 kernel_rfl
def g58_1 (S86 : V2 → Option (Bool)) (k0 : V2 → V2 → V2 → Bool → Option R) (x0 x1 x2 : V2) : Option R :=
(S86 x0).bind fun r799 =>
brB (!r799) (k0 x0 x1 x2 true) ((S86 x1).bind fun r800 =>
k0 x0 x1 x2 (!r800))
theorem t58_1 (S86) (h86 : (ctr86 S86).holds cl) (x0 x1 x2) : exec cl N c58_1 (e69 x0 x1 x2) K = (g58_1 S86 (fun y0 y1 y2 y3 => K .normal (e70 y0 y1 y2 y3)) x0 x1 x2) := by
 rw [← put_eq h86]
 kernel_rfl
def g58_2 (k0 : V2 → Int → Option R) (x0 x1 x2 : V2) (x3 : Bool) : Option R :=
k0 ([], ()) (1 : Int)
theorem t58_2 (x0 x1 x2 x3) : exec cl N c58_2 (e70 x0 x1 x2 x3) K = (g58_2 (fun y0 y1 => K .normal (e51 y0 y1)) x0 x1 x2 x3) := by
 kernel_rfl
theorem kp58_0 (x0 x1) : keep [2, 3, 4, 5] (e51 x0 x1) = (e71 x0 x1) := by kernel_rfl
theorem kp58_1 (x0 x1 x2 x3) : keep [2, 3, 4, 5] (e70 x0 x1 x2 x3) = (e72 x0 x1 x2) := by kernel_rfl
theorem hb58_0 (x0 x1 x2 x3) : boolOf? (ent (e70 x0 x1 x2 x3) (.t 13)) = some x3 := by kernel_rfl
def g58_4 (S87 : V0 → Option V5) (S88 : V0 → V0 → Option V1) (k0 : V2 → Int → Option R) (x0 x1 x2 : V2) : Option R :=
(S88 x0.1 x1.1).bind fun r801 =>
(S87 r801).bind fun r802 =>
k0 r802.1 r802.2
theorem t58_4 (S87) (S88) (h87 : (ctr87 S87).holds cl) (h88 : (ctr88 S88).holds cl) (x0 x1 x2) : exec cl N c58_4 (e72 x0 x1 x2) K = (g58_4 S87 S88 (fun y0 y1 => K .normal (e58 y0 y1)) x0 x1 x2) := by
 rw [← put_eq h87]
 rw [← put_eq h88]
 kernel_rfl
def g58_5 (S86 : V2 → Option (Bool)) (S87 : V0 → Option V5) (S88 : V0 → V0 → Option V1) (k0 : V2 → Int → Option R) (k1 : V2 → Int → Option R) (x0 x1 : V2) : Option R :=
(g58_0 (g58_1 S86 (fun y0 y1 y2 y3 => brB y3 (g58_2 k0 y0 y1 y2 y3) ((g58_4 S87 S88 k1) y0 y1 y2))) x0 x1)
theorem t58_5 (S86) (S87) (S88) (h86 : (ctr86 S86).holds cl) (h87 : (ctr87 S87).holds cl) (h88 : (ctr88 S88).holds cl) (x0 x1) : exec cl N c58_5 (e68 x0 x1) K = (g58_5 S86 S87 S88 (fun y0 y1 => K .ret (e71 y0 y1)) (fun y0 y1 => K .ret (e58 y0 y1)) x0 x1) := by
 simp only [c58_5, exec_seq, seqK_normal, seqK_exit, seqK_ret, t58_0, t58_1 S86 h86, c58_3, exec_out, exec_cond', hb58_0, Option.bind_some, brB_true, brB_false, t58_2, exec_ret, exec_skip, kp58_0, kp58_1, t58_4 S87 S88 h87 h88]
 rfl
theorem rk58_0 (y0 y1) : retK d58 .ret (e71 y0 y1) = some [.v U5 y0, .v U1 y1] := by kernel_rfl
theorem rk58_1 (y0 y1) : retK d58 .ret (e58 y0 y1) = some [.v U5 y0, .v U1 y1] := by kernel_rfl
def g58 (S86 : V2 → Option (Bool)) (S87 : V0 → Option V5) (S88 : V0 → V0 → Option V1) (x0 x1 : V2) (k : V2 → Int → Option R) : Option R :=
(g58_5 S86 S87 S88 k k x0 x1)
theorem gen58 (S86) (S87) (S88) (h86 : (ctr86 S86).holds cl) (h87 : (ctr87 S87).holds cl) (h88 : (ctr88 S88).holds cl) (x0 x1) (k : List E → Option R) : exec cl N c58 (e68 x0 x1) (fun e env => (retK d58 e env).bind k) = g58 S86 S87 S88 x0 x1 (fun r0 r1 => k [.v U5 r0, .v U1 r1]) := by
 simp only [c58, t58_5 S86 S87 S88 h86 h87 h88, rk58_0, rk58_1, Option.bind_some]
 rfl
def ctr58 (S : V2 → V2 → Option V5) : Ctr := cv2 58 U5 U5 S fun b => [.v U5 b.1, .v U1 b.2]
def S58 (N : Nat) (x0 : V2) (x1 : V2) : Option V5 := g58 (S86 N) (S87 N) (S88 N) x0 x1 (fun (r0 : V2) (r1 : Int) => some (r0, r1))
def g57_8 (S58 : V2 → V2 → Option V5) (k0 : V2 → V2 → V2 → V2 → V2 → Int → Option R) (x0 x1 x2 x3 : V2) : Option R :=
(S58 x0 x1).bind fun r807 =>
k0 x2 x3 ([], ()) ([], ()) r807.1 r807.2
theorem t57_8 (S58) (h58 : (ctr58 S58).holds cl) (x0 x1 x2 x3) : exec cl N c57_8 (e147 x0 x1 x2 x3) K = (g57_8 S58 (fun y0 y1 y2 y3 y4 y5 => exec cl N (.seq (.seq c57_2 c57_4) c57_7) (e148 y0 y1 y2 y3 y4 y5) K) x0 x1 x2 x3) := by
 rw [← put_eq h58]
 kernel_rfl
def g57_2 (k0 : V2 → V2 → V2 → V2 → V2 → Int → Bool → Option R) (x0 x1 x2 x3 x4 : V2) (x5 : Int) : Option R :=
k0 x0 x1 x2 x3 x4 x5 (x5 != (0 : Int))
theorem t57_2 (x0 x1 x2 x3 x4 x5) : exec cl N c57_2 (e148 x0 x1 x2 x3 x4 x5) K = (g57_2 (fun y0 y1 y2 y3 y4 y5 y6 => K .normal (e149 y0 y1 y2 y3 y4 y5 y6)) x0 x1 x2 x3 x4 x5) := by
 kernel_rfl
def g57_3 (k0 : V2 → V2 → Int → Option R) (x0 x1 x2 x3 x4 : V2) (x5 : Int) (x6 : Bool) : Option R :=
k0 x4 x4 x5
theorem t57_3 (x0 x1 x2 x3 x4 x5 x6) : exec cl N c57_3 (e149 x0 x1 x2 x3 x4 x5 x6) K = (g57_3 (fun y0 y1 y2 => K .normal (e150 y0 y1 y2)) x0 x1 x2 x3 x4 x5 x6) := by
 kernel_rfl
theorem kp57_0 (x0 x1 x2) : keep [6, 7, 8, 9, 10, 11] (e150 x0 x1 x2) = (e151 x0 x1 x2) := by kernel_rfl
theorem kp57_1 (x0 x1 x2 x3 x4 x5 x6) : keep [6, 7, 8, 9, 10, 11] (e149 x0 x1 x2 x3 x4 x5 x6) = (e152 x0 x1 x2 x3 x4) := by kernel_rfl
theorem hb57_0 (x0 x1 x2 x3 x4 x5 x6) : boolOf? (ent (e149 x0 x1 x2 x3 x4 x5 x6) (.t 21)) = some x6 := by kernel_rfl
def g57_7 (S58 : V2 → V2 → Option V5) (k0 : V2 → V2 → Int → Option R) (x0 x1 x2 x3 x4 : V2) : Option R :=
(S58 x0 x1).bind fun r810 =>
k0 x4 r810.1 r810.2
theorem t57_7 (S58) (h58 : (ctr58 S58).holds cl) (x0 x1 x2 x3 x4) : exec cl N c57_7 (e152 x0 x1 x2 x3 x4) K = (g57_7 S58 (fun y0 y1 y2 => exec cl N .ret (e150 y0 y1 y2) K) x0 x1 x2 x3 x4) := by
 rw [← put_eq h58]
 kernel_rfl
def g57_8b (S58 : V2 → V2 → Option V5) (k0 : V2 → V2 → Int → Option R) (k1 : V2 → V2 → Int → Option R) (x0 x1 x2 x3 : V2) : Option R :=
(g57_8 S58 (g57_2 (fun y0 y1 y2 y3 y4 y5 y6 => brB y6 (g57_3 k0 y0 y1 y2 y3 y4 y5 y6) ((g57_7 S58 k1) y0 y1 y2 y3 y4))) x0 x1 x2 x3)
theorem t57_8b (S58) (h58 : (ctr58 S58).holds cl) (x0 x1 x2 x3) : exec cl N c57_8 (e147 x0 x1 x2 x3) K = (g57_8b S58 (fun y0 y1 y2 => K .ret (e151 y0 y1 y2)) (fun y0 y1 y2 => K .ret (e150 y0 y1 y2)) x0 x1 x2 x3) := by
 simp only [exec_seq, seqK_normal, seqK_exit, seqK_ret, t57_8 S58 h58, t57_2, c57_4, exec_out, exec_cond', hb57_0, Option.bind_some, brB_true, brB_false, t57_3, exec_ret, exec_skip, kp57_0, kp57_1, t57_7 S58 h58]
 rfl
theorem rk57_0 (y0 y1 y2) : retK d57 .ret (e151 y0 y1 y2) = some [.v U5 y0, .v U5 y1, .v U1 y2] := by kernel_rfl
theorem rk57_1 (y0 y1 y2) : retK d57 .ret (e150 y0 y1 y2) = some [.v U5 y0, .v U5 y1, .v U1 y2] := by kernel_rfl
def g57 (S58 : V2 → V2 → Option V5) (x0 x1 x2 x3 : V2) (k : V2 → V2 → Int → Option R) : Option R :=
(g57_8b S58 k k x0 x1 x2 x3)
theorem gen57 (S58) (h58 : (ctr58 S58).holds cl) (x0 x1 x2 x3) (k : List E → Option R) : exec cl N c57 (e147 x0 x1 x2 x3) (fun e env => (retK d57 e env).bind k) = g57 S58 x0 x1 x2 x3 (fun r0 r1 r2 => k [.v U5 r0, .v U5 r1, .v U1 r2]) := by
 simp only [c57, t57_8b S58 h58, rk57_0, rk57_1, Option.bind_some]
 rfl
def ctr57 (S : V2 → V2 → V2 → V2 → Option V8) : Ctr := cv4 57 U5 U5 U5 U5 S fun b => [.v U5 b.1, .v U5 b.2.1, .v U1 b.2.2]
def S57 (N : Nat) (x0 : V2) (x1 : V2) (x2 : V2) (x3 : V2) : Option V8 := g57 (S58 N) x0 x1 x2 x3 (fun (r0 : V2) (r1 : V2) (r2 : Int) => some (r0, r1, r2))
def g59_0 (k0 : V2 → V2 → V2 → Option R) (x0 x1 : V2) : Option R :=
k0 x0 x1 ([], ())
theorem t59_0 (x0 x1) : exec cl N c59_0 (e68 x0 x1) K = (g59_0 (fun y0 y1 y2 => K .normal (e69 y0 y1 y2)) x0 x1) := by
 kernel_rfl
def g59_1 (S86 : V2 → Option (Bool)) (k0 : V2 → V2 → V2 → Bool → Option R) (x0 x1 x2 : V2) : Option R :=
(S86 x0).bind fun r822 =>
brB (!r822) (k0 x0 x1 x2 true) ((S86 x1).bind fun r823 =>
k0 x0 x1 x2 (!r823))
theorem t59_1 (S86) (h86 : (ctr86 S86).holds cl) (x0 x1 x2) : exec cl N c59_1 (e69 x0 x1 x2) K = (g59_1 S86 (fun y0 y1 y2 y3 => K .normal (e70 y0 y1 y2 y3)) x0 x1 x2) := by
 rw [← put_eq h86]
 kernel_rfl
def g59_2 (k0 : V2 → Int → Option R) (x0 x1 x2 : V2) (x3 : Bool) : Option R :=
k0 ([], ()) (1 : Int)
theorem t59_2 (x0 x1 x2 x3) : exec cl N c59_2 (e70 x0 x1 x2 x3) K = (g59_2 (fun y0 y1 => K .normal (e51 y0 y1)) x0 x1 x2 x3) := by
 kernel_rfl
theorem kp59_0 (x0 x1) : keep [2, 3, 4, 5] (e51 x0 x1) = (e71 x0 x1) := by kernel_rfl
theorem kp59_1 (x0 x1 x2 x3) : keep [2, 3, 4, 5] (e70 x0 x1 x2 x3) = (e72 x0 x1 x2) := by kernel_rfl
theorem hb59_0 (x0 x1 x2 x3) : boolOf? (ent (e70 x0 x1 x2 x3) (.t 13)) = some x3 := by kernel_rfl
def g59_4 (S87 : V0 → Option V5) (S89 : V0 → V0 → Option V1) (k0 : V2 → Int → Option R) (x0 x1 x2 : V2) : Option R :=
(S89 x0.1 x1.1).bind fun r824 =>
(S87 r824).bind fun r825 =>
k0 r825.1 r825.2
theorem t59_4 (S87) (S89) (h87 : (ctr87 S87).holds cl) (h89 : (ctr89 S89).holds cl) (x0 x1 x2) : exec cl N c59_4 (e72 x0 x1 x2) K = (g59_4 S87 S89 (fun y0 y1 => K .normal (e58 y0 y1)) x0 x1 x2) := by
 rw [← put_eq h87]
 rw [← put_eq h89]
 kernel_rfl
def g59_5 (S86 : V2 → Option (Bool)) (S87 : V0 → Option V5) (S89 : V0 → V0 → Option V1) (k0 : V2 → Int → Option R) (k1 : V2 → Int → Option R) (x0 x1 : V2) : Option R :=
(g59_0 (g59_1 S86 (fun y0 y1 y2 y3 => brB y3 (g59_2 k0 y0 y1 y2 y3) ((g59_4 S87 S89 k1) y0 y1 y2))) x0 x1)
theorem t59_5 (S86) (S87) (S89) (h86 : (ctr86 S86).holds cl) (h87 : (ctr87 S87).holds cl) (h89 : (ctr89 S89).holds cl) (x0 x1) : exec cl N c59_5 (e68 x0 x1) K = (g59_5 S86 S87 S89 (fun y0 y1 => K .ret (e71 y0 y1)) (fun y0 y1 => K .ret (e58 y0 y1)) x0 x1) := by
 simp only [c59_5, exec_seq, seqK_normal, seqK_exit, seqK_ret, t59_0, t59_1 S86 h86, c59_3, exec_out, exec_cond', hb59_0, Option.bind_some, brB_true, brB_false, t59_2, exec_ret, exec_skip, kp59_0, kp59_1, t59_4 S87 S89 h87 h89]
 rfl
theorem rk59_0 (y0 y1) : retK d59 .ret (e71 y0 y1) = some [.v U5 y0, .v U1 y1] := by kernel_rfl
theorem rk59_1 (y0 y1) : retK d59 .ret (e58 y0 y1) = some [.v U5 y0, .v U1 y1] := by kernel_rfl
def g59 (S86 : V2 → Option (Bool)) (S87 : V0 → Option V5) (S89 : V0 → V0 → Option V1) (x0 x1 : V2) (k : V2 → Int → Option R) : Option R :=
(g59_5 S86 S87 S89 k k x0 x1)
theorem gen59 (S86) (S87) (S89) (h86 : (ctr86 S86).holds cl) (h87 : (ctr87 S87).holds cl) (h89 : (ctr89 S89).holds cl) (x0 x1) (k : List E → Option R) : exec cl N c59 (e68 x0 x1) (fun e env => (retK d59 e env).bind k) = g59 S86 S87 S89 x0 x1 (fun r0 r1 => k [.v U5 r0, .v U1 r1]) := by
 simp only [c59, t59_5 S86 S87 S89 h86 h87 h89, rk59_0, rk59_1, Option.bind_some]
 rfl
def ctr59 (S : V2 → V2 → Option V5) : Ctr := cv2 59 U5 U5 S fun b => [.v U5 b.1, .v U1 b.2]
def S59 (N : Nat) (x0 : V2) (x1 : V2) : Option V5 := g59 (S86 N) (S87 N) (S89 N) x0 x1 (fun (r0 : V2) (r1 : Int) => some (r0, r1))
def g110_30 (k0 : V0 → V0 → V0 → V0 → Option R) (x0 x1 : V0) : Option R :=
if 0 ≤ (x0.length : Int) ∧ (x0.length : Int) ≤ (x0.length : Int) ∧ (x0.length : Int) ≤ ((17592186044416 : Nat) : Int) then
k0 x0 x1 (List.replicate (x0.length : Int).toNat (0 : Int)) []
else none
theorem t110_30 (x0 x1) : exec cl N c110_30 (e14 x0 x1) K = (g110_30 (fun y0 y1 y2 y3 => exec cl N (.seq (.seq c110_3 c110_28) (.seq c110_29 .ret)) (e36 y0 y1 y2 y3) K) x0 x1) := by
 kernel_rfl
def g110_3 (k0 : V0 → V0 → V0 → V0 → Int → Option R) (x0 x1 x2 x3 : V0) : Option R :=
k0 x0 x1 x2 x3 (IntKind.i64.wrap ((x0.length : Int) - (1 : Int)))
theorem t110_3 (x0 x1 x2 x3) : exec cl N c110_3 (e36 x0 x1 x2 x3) K = (g110_3 (fun y0 y1 y2 y3 y4 => K .normal (e37 y0 y1 y2 y3 y4)) x0 x1 x2 x3) := by
 kernel_rfl
theorem kp110_0 (x0 x1 x2 x3 x4) : keep [0, 1, 6, 7, 8] (e37 x0 x1 x2 x3 x4) = (e37 x0 x1 x2 x3 x4) := by kernel_rfl
def g110_4 (k0 : V0 → V0 → V0 → V0 → Int → Bool → Option R) (x0 x1 x2 x3 : V0) (x4 : Int) : Option R :=
k0 x0 x1 x2 x3 x4 (decide (x4 ≥ (0 : Int)))
theorem t110_4 (x0 x1 x2 x3 x4) : exec cl N c110_4 (e37 x0 x1 x2 x3 x4) K = (g110_4 (fun y0 y1 y2 y3 y4 y5 => K .normal (e153 y0 y1 y2 y3 y4 y5)) x0 x1 x2 x3 x4) := by
 kernel_rfl
theorem kp110_1 (x0 x1 x2 x3 x4 x5) : keep [0, 1, 6, 7, 8] (e153 x0 x1 x2 x3 x4 x5) = (e37 x0 x1 x2 x3 x4) := by kernel_rfl
theorem hb110_0 (x0 x1 x2 x3 x4 x5) : boolOf? (ent (e153 x0 x1 x2 x3 x4 x5) (.t 19)) = some x5 := by kernel_rfl
def g110_23 (S113 : V0 → Option V1) (k0 : V0 → V0 → V0 → V0 → Int → Int → Int → Option R) (x0 x1 x2 x3 : V0) (x4 : Int) : Option R :=
if 0 ≤ x4 ∧ x4 < (x0.length : Int) then
if [(x0.getD x4.toNat (0 : Int))].length + x3.length ≤ 17592186044416 then
(S113 ([(x0.getD x4.toNat (0 : Int))] ++ x3)).bind fun r856 =>
k0 x0 x1 x2 r856 x4 (0 : Int) (9999 : Int)
else none
else none
theorem t110_23 (S113) (h113 : (ctr113 S113).holds cl) (x0 x1 x2 x3 x4) : exec cl N c110_23 (e37 x0 x1 x2 x3 x4) K = (g110_23 S113 (fun y0 y1 y2 y3 y4 y5 y6 => exec cl N (.seq c110_19 c110_22) (e39 y0 y1 y2 y3 y4 y5 y6) K) x0 x1 x2 x3 x4) := by
 rw [← put_eq h113]
 kernel_rfl
theorem kp110_2 (x0 x1 x2 x3 x4 x5 x6) : keep [0, 1, 6, 7, 8, 9, 10] (e39 x0 x1 x2 x3 x4 x5 x6) = (e39 x0 x1 x2 x3 x4 x5 x6) := by kernel_rfl
def g110_8 (k0 : V0 → V0 → V0 → V0 → Int → Int → Int → Bool → Option R) (x0 x1 x2 x3 : V0) (x4 x5 x6 : Int) : Option R :=
k0 x0 x1 x2 x3 x4 x5 x6 (decide (x5 < x6))
theorem t110_8 (x0 x1 x2 x3 x4 x5 x6) : exec cl N c110_8 (e39 x0 x1 x2 x3 x4 x5 x6) K = (g110_8 (fun y0 y1 y2 y3 y4 y5 y6 y7 => K .normal (e154 y0 y1 y2 y3 y4 y5 y6 y7)) x0 x1 x2 x3 x4 x5 x6) := by
 kernel_rfl
theorem kp110_3 (x0 x1 x2 x3 x4 x5 x6 x7) : keep [0, 1, 6, 7, 8, 9, 10] (e154 x0 x1 x2 x3 x4 x5 x6 x7) = (e39 x0 x1 x2 x3 x4 x5 x6) := by kernel_rfl
theorem hb110_1 (x0 x1 x2 x3 x4 x5 x6 x7) : boolOf? (ent (e154 x0 x1 x2 x3 x4 x5 x6 x7) (.t 32)) = some x7 := by kernel_rfl
def g110_15 (S88 : V0 → V0 → Option V1) (S90 : V0 → V0 → Option (Int)) (k0 : V0 → V0 → V0 → V0 → Int → Int → Int → Int → Bool → Option R) (x0 x1 x2 x3 : V0) (x4 x5 x6 : Int) : Option R :=
let v863 : Int := (IntKind.i64.wrap (Int.tdiv (IntKind.i64.wrap ((IntKind.i64.wrap (x5 + x6)) + (1 : Int))) (2 : Int)))
(S88 x1 [v863]).bind fun r864 =>
(S90 r864 x3).bind fun r865 =>
k0 x0 x1 x2 x3 x4 x5 x6 v863 (decide (r865 ≤ (0 : Int)))
theorem t110_15 (S88) (S90) (h88 : (ctr88 S88).holds cl) (h90 : (ctr90 S90).holds cl) (x0 x1 x2 x3 x4 x5 x6) : exec cl N c110_15 (e39 x0 x1 x2 x3 x4 x5 x6) K = (g110_15 S88 S90 (fun y0 y1 y2 y3 y4 y5 y6 y7 y8 => exec cl N c110_14 (e155 y0 y1 y2 y3 y4 y5 y6 y7 y8) K) x0 x1 x2 x3 x4 x5 x6) := by
 rw [← put_eq h88]
 rw [← put_eq h90]
 kernel_rfl
def g110_12 (k0 : V0 → V0 → V0 → V0 → Int → Int → Int → Option R) (x0 x1 x2 x3 : V0) (x4 x5 x6 x7 : Int) (x8 : Bool) : Option R :=
k0 x0 x1 x2 x3 x4 x7 x6
theorem t110_12 (x0 x1 x2 x3 x4 x5 x6 x7 x8) : exec cl N c110_12 (e155 x0 x1 x2 x3 x4 x5 x6 x7 x8) K = (g110_12 (fun y0 y1 y2 y3 y4 y5 y6 => K .normal (e39 y0 y1 y2 y3 y4 y5 y6)) x0 x1 x2 x3 x4 x5 x6 x7 x8) := by
 kernel_rfl
def g110_13 (k0 : V0 → V0 → V0 → V0 → Int → Int → Int → Option R) (x0 x1 x2 x3 : V0) (x4 x5 x6 x7 : Int) (x8 : Bool) : Option R :=
k0 x0 x1 x2 x3 x4 x5 (IntKind.i64.wrap (x7 - (1 : Int)))
theorem t110_13 (x0 x1 x2 x3 x4 x5 x6 x7 x8) : exec cl N c110_13 (e155 x0 x1 x2 x3 x4 x5 x6 x7 x8) K = (g110_13 (fun y0 y1 y2 y3 y4 y5 y6 => K .normal (e39 y0 y1 y2 y3 y4 y5 y6)) x0 x1 x2 x3 x4 x5 x6 x7 x8) := by
 kernel_rfl
theorem hb110_2 (x0 x1 x2 x3 x4 x5 x6 x7 x8) : boolOf? (ent (e155 x0 x1 x2 x3 x4 x5 x6 x7 x8) (.t 44)) = some x8 := by kernel_rfl
def g110_17 (S88 : V0 → V0 → Option V1) (S90 : V0 → V0 → Option (Int)) (k0 : V0 → V0 → V0 → V0 → Int → Int → Int → Option R) (k1 : V0 → V0 → V0 → V0 → Int → Int → Int → Option R) (x0 x1 x2 x3 : V0) (x4 x5 x6 : Int) : Option R :=
(g110_8 (fun y0 y1 y2 y3 y4 y5 y6 y7 => brB y7 ((g110_15 S88 S90 (fun y0 y1 y2 y3 y4 y5 y6 y7 y8 => brB y8 (g110_12 k0 y0 y1 y2 y3 y4 y5 y6 y7 y8) (g110_13 k0 y0 y1 y2 y3 y4 y5 y6 y7 y8))) y0 y1 y2 y3 y4 y5 y6) (k1 y0 y1 y2 y3 y4 y5 y6)) x0 x1 x2 x3 x4 x5 x6)
theorem t110_17 (S88) (S90) (h88 : (ctr88 S88).holds cl) (h90 : (ctr90 S90).holds cl) (x0 x1 x2 x3 x4 x5 x6) : exec cl N c110_17 (e39 x0 x1 x2 x3 x4 x5 x6) K = (g110_17 S88 S90 (fun y0 y1 y2 y3 y4 y5 y6 => K .normal (e39 y0 y1 y2 y3 y4 y5 y6)) (fun y0 y1 y2 y3 y4 y5 y6 => K (.exit 2) (e39 y0 y1 y2 y3 y4 y5 y6)) x0 x1 x2 x3 x4 x5 x6) := by
 simp only [c110_17, exec_seq, seqK_normal, seqK_exit, seqK_ret, t110_8, c110_9, exec_out, exec_cond', hb110_1, Option.bind_some, brB_true, brB_false, exec_skip, exec_exit, kp110_3, c110_16, exec_block, t110_15 S88 S90 h88 h90, c110_14, hb110_2, t110_12, t110_13, kp110_2, blockK_normal, blockK_ret, blockK_eq]
 rfl
def l110_18 {R : Type} (S88 : V0 → V0 → Option V1) (S90 : V0 → V0 → Option (Int)) (k0 : V0 → V0 → V0 → V0 → Int → Int → Int → Option R) : Nat → V0 → V0 → V0 → V0 → Int → Int → Int → Option R
 | 0, _, _, _, _, _, _, _ => none
 | m + 1, x0, x1, x2, x3, x4, x5, x6 => (g110_17 S88 S90 (l110_18 S88 S90 k0 m) k0 x0 x1 x2 x3 x4 x5 x6)
theorem lt110_18 (S88) (S90) (h88 : (ctr88 S88).holds cl) (h90 : (ctr90 S90).holds cl) : ∀ (m) (x0 x1 x2 x3 x4 x5 x6), iter [0, 1, 6, 7, 8, 9, 10] (fun env K => exec cl N c110_17 env K) K m (e39 x0 x1 x2 x3 x4 x5 x6) = l110_18 S88 S90 (fun y0 y1 y2 y3 y4 y5 y6 => K (.exit 2) (e39 y0 y1 y2 y3 y4 y5 y6)) m x0 x1 x2 x3 x4 x5 x6 := by
 intro m
 induction m with
 | zero => intros; rfl
 | succ m ih =>
   intro x0 x1 x2 x3 x4 x5 x6
   simp only [iter_succ, t110_17 S88 S90 h88 h90, loopK_normal, loopK_exit, loopK_ret, kp110_2, ih]
   rfl
theorem kp110_4 (x0 x1 x2 x3 x4 x5 x6) : keep [0, 1, 6, 7, 8, 9] (e39 x0 x1 x2 x3 x4 x5 x6) = (e42 x0 x1 x2 x3 x4 x5) := by kernel_rfl
def g110_18 (N : Nat) (S88 : V0 → V0 → Option V1) (S90 : V0 → V0 → Option (Int)) (k0 : V0 → V0 → V0 → V0 → Int → Int → Option R) (x0 x1 x2 x3 : V0) (x4 x5 x6 : Int) : Option R :=
l110_18 S88 S90 (fun y0 y1 y2 y3 y4 y5 y6 => k0 y0 y1 y2 y3 y4 y5) N x0 x1 x2 x3 x4 x5 x6
theorem t110_18 (S88) (S90) (h88 : (ctr88 S88).holds cl) (h90 : (ctr90 S90).holds cl) (x0 x1 x2 x3 x4 x5 x6) : exec cl N c110_18 (e39 x0 x1 x2 x3 x4 x5 x6) K = (g110_18 N S88 S90 (fun y0 y1 y2 y3 y4 y5 => K (.exit 2) (e42 y0 y1 y2 y3 y4 y5)) x0 x1 x2 x3 x4 x5 x6) := by
 simp only [c110_18, exec_out, exec_loop, kp110_2, lt110_18 S88 S90 h88 h90, kp110_4]
 rfl
theorem kp110_5 (x0 x1 x2 x3 x4 x5) : keep [0, 1, 6, 7, 8, 9] (e42 x0 x1 x2 x3 x4 x5) = (e42 x0 x1 x2 x3 x4 x5) := by kernel_rfl
def g110_22 (S88 : V0 → V0 → Option V1) (S91 : V0 → V0 → Option V1) (k0 : V0 → V0 → V0 → V0 → Int → Option R) (x0 x1 x2 x3 : V0) (x4 x5 : Int) : Option R :=
if 0 ≤ x4 ∧ x4 < (x2.length : Int) then
if x4.toNat < x2.length then
(S88 x1 [x5]).bind fun r868 =>
(S91 x3 r868).bind fun r869 =>
k0 x0 x1 (x2.set x4.toNat x5) r869 x4
else none
else none
theorem t110_22 (S88) (S91) (h88 : (ctr88 S88).holds cl) (h91 : (ctr91 S91).holds cl) (x0 x1 x2 x3 x4 x5) : exec cl N c110_22 (e42 x0 x1 x2 x3 x4 x5) K = (g110_22 S88 S91 (fun y0 y1 y2 y3 y4 => K .normal (e37 y0 y1 y2 y3 y4)) x0 x1 x2 x3 x4 x5) := by
 rw [← put_eq h88]
 rw [← put_eq h91]
 kernel_rfl
def g110_25 (k0 : V0 → V0 → V0 → V0 → Int → Option R) (x0 x1 x2 x3 : V0) (x4 : Int) : Option R :=
k0 x0 x1 x2 x3 (IntKind.i64.wrap (x4 - (1 : Int)))
theorem t110_25 (x0 x1 x2 x3 x4) : exec cl N c110_25 (e37 x0 x1 x2 x3 x4) K = (g110_25 (fun y0 y1 y2 y3 y4 => K .normal (e37 y0 y1 y2 y3 y4)) x0 x1 x2 x3 x4) := by
 kernel_rfl
def g110_26 (N : Nat) (S88 : V0 → V0 → Option V1) (S90 : V0 → V0 → Option (Int)) (S91 : V0 → V0 → Option V1) (S113 : V0 → Option V1) (k0 : V0 → V0 → V0 → V0 → Int → Option R) (k1 : V0 → V0 → V0 → V0 → Int → Option R) (x0 x1 x2 x3 : V0) (x4 : Int) : Option R :=
(g110_4 (fun y0 y1 y2 y3 y4 y5 => brB y5 ((g110_23 S113 (g110_18 N S88 S90 ((g110_22 S88 S91 ((g110_25 k0)))))) y0 y1 y2 y3 y4) (k1 y0 y1 y2 y3 y4)) x0 x1 x2 x3 x4)
theorem t110_26 (S88) (S90) (S91) (S113) (h88 : (ctr88 S88).holds cl) (h90 : (ctr90 S90).holds cl) (h91 : (ctr91 S91).holds cl) (h113 : (ctr113 S113).holds cl) (x0 x1 x2 x3 x4) : exec cl N c110_26 (e37 x0 x1 x2 x3 x4) K = (g110_26 N S88 S90 S91 S113 (fun y0 y1 y2 y3 y4 => K .normal (e37 y0 y1 y2 y3 y4)) (fun y0 y1 y2 y3 y4 => K (.exit 0) (e37 y0 y1 y2 y3 y4)) x0 x1 x2 x3 x4) := by
 simp only [c110_26, exec_seq, seqK_normal, seqK_exit, seqK_ret, t110_4, c110_5, exec_out, exec_cond', hb110_0, Option.bind_some, brB_true, brB_false, exec_skip, exec_exit, kp110_1, c110_24, exec_block, t110_23 S113 h113, c110_19, t110_18 S88 S90 h88 h90, blockK_normal, blockK_ret, blockK_eq, kp110_5, t110_22 S88 S91 h88 h91, kp110_0, t110_25]
 rfl
def l110_27 {R : Type} (N : Nat) (S88 : V0 → V0 → Option V1) (S90 : V0 → V0 → Option (Int)) (S91 : V0 → V0 → Option V1) (S113 : V0 → Option V1) (k0 : V0 → V0 → V0 → V0 → Int → Option R) : Nat → V0 → V0 → V0 → V0 → Int → Option R
 | 0, _, _, _, _, _ => none
 | m + 1, x0, x1, x2, x3, x4 => (g110_26 N S88 S90 S91 S113 (l110_27 N S88 S90 S91 S113 k0 m) k0 x0 x1 x2 x3 x4)
theorem lt110_27 (S88) (S90) (S91) (S113) (h88 : (ctr88 S88).holds cl) (h90 : (ctr90 S90).holds cl) (h91 : (ctr91 S91).holds cl) (h113 : (ctr113 S113).holds cl) : ∀ (m) (x0 x1 x2 x3 x4), iter [0, 1, 6, 7, 8] (fun env K => exec cl N c110_26 env K) K m (e37 x0 x1 x2 x3 x4) = l110_27 N S88 S90 S91 S113 (fun y0 y1 y2 y3 y4 => K (.exit 0) (e37 y0 y1 y2 y3 y4)) m x0 x1 x2 x3 x4 := by
 intro m
 induction m with
 | zero => intros; rfl
 | succ m ih =>
   intro x0 x1 x2 x3 x4
   simp only [iter_succ, t110_26 S88 S90 S91 S113 h88 h90 h91 h113, loopK_normal, loopK_exit, loopK_ret, kp110_0, ih]
   rfl
theorem kp110_6 (x0 x1 x2 x3 x4) : keep [6, 7] (e37 x0 x1 x2 x3 x4) = (e44 x2 x3) := by kernel_rfl
def g110_27 (N : Nat) (S88 : V0 → V0 → Option V1) (S90 : V0 → V0 → Option (Int)) (S91 : V0 → V0 → Option V1) (S113 : V0 → Option V1) (k0 : V0 → V0 → Option R) (x0 x1 x2 x3 : V0) (x4 : Int) : Option R :=
l110_27 N S88 S90 S91 S113 (fun y0 y1 y2 y3 y4 => k0 y2 y3) N x0 x1 x2 x3 x4
theorem t110_27 (S88) (S90) (S91) (S113) (h88 : (ctr88 S88).holds cl) (h90 : (ctr90 S90).holds cl) (h91 : (ctr91 S91).holds cl) (h113 : (ctr113 S113).holds cl) (x0 x1 x2 x3 x4) : exec cl N c110_27 (e37 x0 x1 x2 x3 x4) K = (g110_27 N S88 S90 S91 S113 (fun y0 y1 => K (.exit 0) (e44 y0 y1)) x0 x1 x2 x3 x4) := by
 simp only [c110_27, exec_out, exec_loop, kp110_0, lt110_27 S88 S90 S91 S113 h88 h90 h91 h113, kp110_6]
 rfl
theorem kp110_7 (x0 x1) : keep [6, 7] (e44 x0 x1) = (e44 x0 x1) := by kernel_rfl
def g110_29 (S113 : V0 → Option V1) (k0 : V0 → V0 → Option R) (x0 x1 : V0) : Option R :=
(S113 x0).bind fun r871 =>
k0 r871 x1
theorem t110_29 (S113) (h113 : (ctr113 S113).holds cl) (x0 x1) : exec cl N c110_29 (e44 x0 x1) K = (g110_29 S113 (fun y0 y1 => K .normal (e45 y0 y1)) x0 x1) := by
 rw [← put_eq h113]
 kernel_rfl
def g110_30b (N : Nat) (S88 : V0 → V0 → Option V1) (S90 : V0 → V0 → Option (Int)) (S91 : V0 → V0 → Option V1) (S113 : V0 → Option V1) (k0 : V0 → V0 → Option R) (x0 x1 : V0) : Option R :=
(g110_30 (g110_3 (g110_27 N S88 S90 S91 S113 ((g110_29 S113 k0)))) x0 x1)
theorem t110_30b (S88) (S90) (S91) (S113) (h88 : (ctr88 S88).holds cl) (h90 : (ctr90 S90).holds cl) (h91 : (ctr91 S91).holds cl) (h113 : (ctr113 S113).holds cl) (x0 x1) : exec cl N c110_30 (e14 x0 x1) K = (g110_30b N S88 S90 S91 S113 (fun y0 y1 => K .ret (e45 y0 y1)) x0 x1) := by
 simp only [exec_seq, seqK_normal, seqK_exit, seqK_ret, t110_30, t110_3, c110_28, exec_out, exec_block, t110_27 S88 S90 S91 S113 h88 h90 h91 h113, blockK_normal, blockK_ret, blockK_eq, kp110_7, t110_29 S113 h113, exec_ret]
 rfl
theorem rk110_0 (y0 y1) : retK d110 .ret (e45 y0 y1) = some [.v U2 y0, .v U2 y1] := by kernel_rfl
def g110 (N : Nat) (S88 : V0 → V0 → Option V1) (S90 : V0 → V0 → Option (Int)) (S91 : V0 → V0 → Option V1) (S113 : V0 → Option V1) (x0 x1 : V0) (k : V0 → V0 → Option R) : Option R :=
(g110_30b N S88 S90 S91 S113 k x0 x1)
theorem gen110 (S88) (S90) (S91) (S113) (h88 : (ctr88 S88).holds cl) (h90 : (ctr90 S90).holds cl) (h91 : (ctr91 S91).holds cl) (h113 : (ctr113 S113).holds cl) (x0 x1) (k : List E → Option R) : exec cl N c110 (e14 x0 x1) (fun e env => (retK d110 e env).bind k) = g110 N S88 S90 S91 S113 x0 x1 (fun r0 r1 => k [.v U2 r0, .v U2 r1]) := by
 simp only [c110, t110_30b S88 S90 S91 S113 h88 h90 h91 h113, rk110_0, Option.bind_some]
 rfl
def ctr110 (S : V0 → V0 → Option V4) : Ctr := cv2 110 U2 U2 S fun b => [.v U2 b.1, .v U2 b.2]
def S110 (N : Nat) (x0 : V0) (x1 : V0) : Option V4 := g110 N (S88 N) (S90 N) (S91 N) (S113 N) x0 x1 (fun (r0 : V0) (r1 : V0) => some (r0, r1))
def g84_0 (k0 : V2 → V2 → V2 → V2 → Option R) (x0 x1 : V2) : Option R :=
k0 x0 x1 ([], ()) ([], ())
theorem t84_0 (x0 x1) : exec cl N c84_0 (e68 x0 x1) K = (g84_0 (fun y0 y1 y2 y3 => K .normal (e76 y0 y1 y2 y3)) x0 x1) := by
 kernel_rfl
def g84_1 (S86 : V2 → Option (Bool)) (k0 : V2 → V2 → V2 → V2 → Bool → Option R) (x0 x1 x2 x3 : V2) : Option R :=
(S86 x0).bind fun r874 =>
brB (!r874) (k0 x0 x1 x2 x3 true) ((S86 x1).bind fun r875 =>
k0 x0 x1 x2 x3 (!r875))
theorem t84_1 (S86) (h86 : (ctr86 S86).holds cl) (x0 x1 x2 x3) : exec cl N c84_1 (e76 x0 x1 x2 x3) K = (g84_1 S86 (fun y0 y1 y2 y3 y4 => K .normal (e156 y0 y1 y2 y3 y4)) x0 x1 x2 x3) := by
 rw [← put_eq h86]
 kernel_rfl
def g84_2 (k0 : V2 → V2 → Int → Option R) (x0 x1 x2 x3 : V2) (x4 : Bool) : Option R :=
k0 ([], ()) ([], ()) (1 : Int)
theorem t84_2 (x0 x1 x2 x3 x4) : exec cl N c84_2 (e156 x0 x1 x2 x3 x4) K = (g84_2 (fun y0 y1 y2 => K .normal (e78 y0 y1 y2)) x0 x1 x2 x3 x4) := by
 kernel_rfl
theorem kp84_0 (x0 x1 x2) : keep [2, 3, 4, 5, 6] (e78 x0 x1 x2) = (e79 x0 x1 x2) := by kernel_rfl
theorem kp84_1 (x0 x1 x2 x3 x4) : keep [2, 3, 4, 5, 6] (e156 x0 x1 x2 x3 x4) = (e81 x0 x1 x2 x3) := by kernel_rfl
theorem hb84_0 (x0 x1 x2 x3 x4) : boolOf? (ent (e156 x0 x1 x2 x3 x4) (.t 16)) = some x4 := by kernel_rfl
def g84_4 (k0 : V2 → V2 → V2 → V2 → Bool → Option R) (x0 x1 x2 x3 : V2) : Option R :=
k0 x0 x1 x2 x3 ((x1.1.length : Int) == (0 : Int))
theorem t84_4 (x0 x1 x2 x3) : exec cl N c84_4 (e81 x0 x1 x2 x3) K = (g84_4 (fun y0 y1 y2 y3 y4 => K .normal (e157 y0 y1 y2 y3 y4)) x0 x1 x2 x3) := by
 kernel_rfl
def g84_5 (k0 : V2 → V2 → Int → Option R) (x0 x1 x2 x3 : V2) (x4 : Bool) : Option R :=
k0 ([], ()) ([], ()) (6 : Int)
theorem t84_5 (x0 x1 x2 x3 x4) : exec cl N c84_5 (e157 x0 x1 x2 x3 x4) K = (g84_5 (fun y0 y1 y2 => K .normal (e78 y0 y1 y2)) x0 x1 x2 x3 x4) := by
 kernel_rfl
theorem kp84_2 (x0 x1 x2 x3 x4) : keep [2, 3, 4, 5, 6] (e157 x0 x1 x2 x3 x4) = (e81 x0 x1 x2 x3) := by kernel_rfl
theorem hb84_1 (x0 x1 x2 x3 x4) : boolOf? (ent (e157 x0 x1 x2 x3 x4) (.t 22)) = some x4 := by kernel_rfl
def g84_9 (S110 : V0 → V0 → Option V4) (k0 : V2 → V2 → Int → Option R) (x0 x1 x2 x3 : V2) : Option R :=
(S110 x0.1 x1.1).bind fun r878 =>
k0 (r878.1, ()) (r878.2, ()) (0 : Int)
theorem t84_9 (S110) (h110 : (ctr110 S110).holds cl) (x0 x1 x2 x3) : exec cl N c84_9 (e81 x0 x1 x2 x3) K = (g84_9 S110 (fun y0 y1 y2 => exec cl N .ret (e82 y0 y1 y2) K) x0 x1 x2 x3) := by
 rw [← put_eq h110]
 kernel_rfl
def g84_10 (S86 : V2 → Option (Bool)) (S110 : V0 → V0 → Option V4) (k0 : V2 → V2 → Int → Option R) (k1 : V2 → V2 → Int → Option R) (x0 x1 : V2) : Option R :=
(g84_0 (g84_1 S86 (fun y0 y1 y2 y3 y4 => brB y4 (g84_2 k0 y0 y1 y2 y3 y4) ((g84_4 (fun y0 y1 y2 y3 y4 => brB y4 (g84_5 k0 y0 y1 y2 y3 y4) ((g84_9 S110 k1) y0 y1 y2 y3))) y0 y1 y2 y3))) x0 x1)
theorem t84_10 (S86) (S110) (h86 : (ctr86 S86).holds cl) (h110 : (ctr110 S110).holds cl) (x0 x1) : exec cl N c84_10 (e68 x0 x1) K = (g84_10 S86 S110 (fun y0 y1 y2 => K .ret (e79 y0 y1 y2)) (fun y0 y1 y2 => K .ret (e82 y0 y1 y2)) x0 x1) := by
 simp only [c84_10, exec_seq, seqK_normal, seqK_exit, seqK_ret, t84_0, t84_1 S86 h86, c84_3, exec_out, exec_cond', hb84_0, Option.bind_some, brB_true, brB_false, t84_2, exec_ret, exec_skip, kp84_0, kp84_1, t84_4, c84_6, hb84_1, t84_5, kp84_2, t84_9 S110 h110]
 rfl
theorem rk84_0 (y0 y1 y2) : retK d84 .ret (e79 y0 y1 y2) = some [.v U5 y0, .v U5 y1, .v U1 y2] := by kernel_rfl
theorem rk84_1 (y0 y1 y2) : retK d84 .ret (e82 y0 y1 y2) = some [.v U5 y0, .v U5 y1, .v U1 y2] := by kernel_rfl
def g84 (S86 : V2 → Option (Bool)) (S110 : V0 → V0 → Option V4) (x0 x1 : V2) (k : V2 → V2 → Int → Option R) : Option R :=
(g84_10 S86 S110 k k x0 x1)
theorem gen84 (S86) (S110) (h86 : (ctr86 S86).holds cl) (h110 : (ctr110 S110).holds cl) (x0 x1) (k : List E → Option R) : exec cl N c84 (e68 x0 x1) (fun e env => (retK d84 e env).bind k) = g84 S86 S110 x0 x1 (fun r0 r1 r2 => k [.v U5 r0, .v U5 r1, .v U1 r2]) := by
 simp only [c84, t84_10 S86 S110 h86 h110, rk84_0, rk84_1, Option.bind_some]
 rfl
def ctr84 (S : V2 → V2 → Option V8) : Ctr := cv2 84 U5 U5 S fun b => [.v U5 b.1, .v U5 b.2.1, .v U1 b.2.2]
def S84 (N : Nat) (x0 : V2) (x1 : V2) : Option V8 := g84 (S86 N) (S110 N) x0 x1 (fun (r0 : V2) (r1 : V2) (r2 : Int) => some (r0, r1, r2))
def g52_5 (S56 : V2 → Option (Bool)) (S83 : V2 → V2 → Option V5) (S84 : V2 → V2 → Option V8) (k0 : V10 → Option R) (x0 : Bool) (x1 x2 : V2) : Option R :=
(S83 x1 x2).bind fun r895 =>
(S84 x1 r895.1).bind fun r896 =>
(S84 x2 r895.1).bind fun r897 =>
brB x0 ((S56 r896.1).bind fun r898 =>
k0 ((!r898), r896.1, r897.1, ())) (k0 (false, r896.1, r897.1, ()))
theorem t52_5 (S56) (S83) (S84) (h56 : (ctr56 S56).holds cl) (h83 : (ctr83 S83).holds cl) (h84 : (ctr84 S84).holds cl) (x0 x1 x2) : exec cl N c52_5 (e83 x0 x1 x2) K = (g52_5 S56 S83 S84 (fun y0 => exec cl N .ret [(6, .loc U9 .no y0)] K) x0 x1 x2) := by
 rw [← put_eq h56]
 rw [← put_eq h83]
 rw [← put_eq h84]
 kernel_rfl
def g52_5b (S56 : V2 → Option (Bool)) (S83 : V2 → V2 → Option V5) (S84 : V2 → V2 → Option V8) (k0 : V10 → Option R) (x0 : Bool) (x1 x2 : V2) : Option R :=
(g52_5 S56 S83 S84 k0 x0 x1 x2)
theorem t52_5b (S56) (S83) (S84) (h56 : (ctr56 S56).holds cl) (h83 : (ctr83 S83).holds cl) (h84 : (ctr84 S84).holds cl) (x0 x1 x2) : exec cl N c52_5 (e83 x0 x1 x2) K = (g52_5b S56 S83 S84 (fun y0 => K .ret [(6, .loc U9 .no y0)]) x0 x1 x2) := by
 simp only [exec_seq, seqK_normal, seqK_exit, seqK_ret, t52_5 S56 S83 S84 h56 h83 h84, exec_ret]
 rfl
theorem rk52_0 (y0) : retK d52 .ret [(6, .loc U9 .no y0)] = some [.v U9 y0] := by kernel_rfl
def g52 (S56 : V2 → Option (Bool)) (S83 : V2 → V2 → Option V5) (S84 : V2 → V2 → Option V8) (x0 : Bool) (x1 x2 : V2) (k : V10 → Option R) : Option R :=
(g52_5b S56 S83 S84 k x0 x1 x2)
theorem gen52 (S56) (S83) (S84) (h56 : (ctr56 S56).holds cl) (h83 : (ctr83 S83).holds cl) (h84 : (ctr84 S84).holds cl) (x0 x1 x2) (k : List E → Option R) : exec cl N c52 (e83 x0 x1 x2) (fun e env => (retK d52 e env).bind k) = g52 S56 S83 S84 x0 x1 x2 (fun r0 => k [.v U9 r0]) := by
 simp only [c52, t52_5b S56 S83 S84 h56 h83 h84, rk52_0, Option.bind_some]
 rfl
def ctr52 (S : Bool → V2 → V2 → Option V11) : Ctr := cv3 52 .bool U5 U5 S fun b => [.v U9 b]
def S52 (N : Nat) (x0 : Bool) (x1 : V2) (x2 : V2) : Option V11 := g52 (S56 N) (S83 N) (S84 N) x0 x1 x2 (fun (r0 : V10) => some (r0))
def g61_0 (k0 : V2 → V2 → V2 → Option R) (x0 x1 : V2) : Option R :=
k0 x0 x1 ([], ())
theorem t61_0 (x0 x1) : exec cl N c61_0 (e68 x0 x1) K = (g61_0 (fun y0 y1 y2 => K .normal (e69 y0 y1 y2)) x0 x1) := by
 kernel_rfl
def g61_1 (S86 : V2 → Option (Bool)) (k0 : V2 → V2 → V2 → Bool → Option R) (x0 x1 x2 : V2) : Option R :=
(S86 x0).bind fun r909 =>
brB (!r909) (k0 x0 x1 x2 true) ((S86 x1).bind fun r910 =>
k0 x0 x1 x2 (!r910))
theorem t61_1 (S86) (h86 : (ctr86 S86).holds cl) (x0 x1 x2) : exec cl N c61_1 (e69 x0 x1 x2) K = (g61_1 S86 (fun y0 y1 y2 y3 => K .normal (e70 y0 y1 y2 y3)) x0 x1 x2) := by
 rw [← put_eq h86]
 kernel_rfl
def g61_2 (k0 : V2 → Int → Option R) (x0 x1 x2 : V2) (x3 : Bool) : Option R :=
k0 ([], ()) (1 : Int)
theorem t61_2 (x0 x1 x2 x3) : exec cl N c61_2 (e70 x0 x1 x2 x3) K = (g61_2 (fun y0 y1 => K .normal (e51 y0 y1)) x0 x1 x2 x3) := by
 kernel_rfl
theorem kp61_0 (x0 x1) : keep [2, 3, 4, 5] (e51 x0 x1) = (e71 x0 x1) := by kernel_rfl
theorem kp61_1 (x0 x1 x2 x3) : keep [2, 3, 4, 5] (e70 x0 x1 x2 x3) = (e72 x0 x1 x2) := by kernel_rfl
theorem hb61_0 (x0 x1 x2 x3) : boolOf? (ent (e70 x0 x1 x2 x3) (.t 13)) = some x3 := by kernel_rfl
def g61_4 (S60 : V2 → V2 → Option (Int)) (k0 : V2 → V2 → V2 → Bool → Option R) (x0 x1 x2 : V2) : Option R :=
(S60 x0 x1).bind fun r911 =>
k0 x0 x1 x2 (decide (r911 < (0 : Int)))
theorem t61_4 (S60) (h60 : (ctr60 S60).holds cl) (x0 x1 x2) : exec cl N c61_4 (e72 x0 x1 x2) K = (g61_4 S60 (fun y0 y1 y2 y3 => K .normal (e128 y0 y1 y2 y3)) x0 x1 x2) := by
 rw [← put_eq h60]
 kernel_rfl
def g61_5 (k0 : V2 → Int → Option R) (x0 x1 x2 : V2) (x3 : Bool) : Option R :=
k0 ([], ()) (6 : Int)
theorem t61_5 (x0 x1 x2 x3) : exec cl N c61_5 (e128 x0 x1 x2 x3) K = (g61_5 (fun y0 y1 => K .normal (e51 y0 y1)) x0 x1 x2 x3) := by
 kernel_rfl
theorem kp61_2 (x0 x1 x2 x3) : keep [2, 3, 4, 5] (e128 x0 x1 x2 x3) = (e72 x0 x1 x2) := by kernel_rfl
theorem hb61_1 (x0 x1 x2 x3) : boolOf? (ent (e128 x0 x1 x2 x3) (.t 18)) = some x3 := by kernel_rfl
def g61_7 (S91 : V0 → V0 → Option V1) (k0 : V2 → Int → Option R) (x0 x1 x2 : V2) : Option R :=
(S91 x0.1 x1.1).bind fun r913 =>
k0 (r913, ()) (0 : Int)
theorem t61_7 (S91) (h91 : (ctr91 S91).holds cl) (x0 x1 x2) : exec cl N c61_7 (e72 x0 x1 x2) K = (g61_7 S91 (fun y0 y1 => K .normal (e58 y0 y1)) x0 x1 x2) := by
 rw [← put_eq h91]
 kernel_rfl
def g61_8 (S60 : V2 → V2 → Option (Int)) (S86 : V2 → Option (Bool)) (S91 : V0 → V0 → Option V1) (k0 : V2 → Int → Option R) (k1 : V2 → Int → Option R) (x0 x1 : V2) : Option R :=
(g61_0 (g61_1 S86 (fun y0 y1 y2 y3 => brB y3 (g61_2 k0 y0 y1 y2 y3) ((g61_4 S60 (fun y0 y1 y2 y3 => brB y3 (g61_5 k0 y0 y1 y2 y3) ((g61_7 S91 k1) y0 y1 y2))) y0 y1 y2))) x0 x1)
theorem t61_8 (S60) (S86) (S91) (h60 : (ctr60 S60).holds cl) (h86 : (ctr86 S86).holds cl) (h91 : (ctr91 S91).holds cl) (x0 x1) : exec cl N c61_8 (e68 x0 x1) K = (g61_8 S60 S86 S91 (fun y0 y1 => K .ret (e71 y0 y1)) (fun y0 y1 => K .ret (e58 y0 y1)) x0 x1) := by
 simp only [c61_8, exec_seq, seqK_normal, seqK_exit, seqK_ret, t61_0, t61_1 S86 h86, c61_3, exec_out, exec_cond', hb61_0, Option.bind_some, brB_true, brB_false, t61_2, exec_ret, exec_skip, kp61_0, kp61_1, t61_4 S60 h60, c61_6, hb61_1, t61_5, kp61_2, t61_7 S91 h91]
 rfl
theorem rk61_0 (y0 y1) : retK d61 .ret (e71 y0 y1) = some [.v U5 y0, .v U1 y1] := by kernel_rfl
theorem rk61_1 (y0 y1) : retK d61 .ret (e58 y0 y1) = some [.v U5 y0, .v U1 y1] := by kernel_rfl
def g61 (S60 : V2 → V2 → Option (Int)) (S86 : V2 → Option (Bool)) (S91 : V0 → V0 → Option V1) (x0 x1 : V2) (k : V2 → Int → Option R) : Option R :=
(g61_8 S60 S86 S91 k k x0 x1)
theorem gen61 (S60) (S86) (S91) (h60 : (ctr60 S60).holds cl) (h86 : (ctr86 S86).holds cl) (h91 : (ctr91 S91).holds cl) (x0 x1) (k : List E → Option R) : exec cl N c61 (e68 x0 x1) (fun e env => (retK d61 e env).bind k) = g61 S60 S86 S91 x0 x1 (fun r0 r1 => k [.v U5 r0, .v U1 r1]) := by
 simp only [c61, t61_8 S60 S86 S91 h60 h86 h91, rk61_0, rk61_1, Option.bind_some]
 rfl
def ctr61 (S : V2 → V2 → Option V5) : Ctr := cv2 61 U5 U5 S fun b => [.v U5 b.1, .v U1 b.2]
def S61 (N : Nat) (x0 : V2) (x1 : V2) : Option V5 := g61 (S60 N) (S86 N) (S91 N) x0 x1 (fun (r0 : V2) (r1 : Int) => some (r0, r1))
def g26_0 (k0 : V10 → V10 → V10 → Option R) (x0 x1 : V10) : Option R :=
k0 x0 x1 (false, (([], ()), (([], ()), ())))
theorem t26_0 (x0 x1) : exec cl N c26_0 (e158 x0 x1) K = (g26_0 (fun y0 y1 y2 => K .normal (e159 y0 y1 y2)) x0 x1) := by
 kernel_rfl
def g26_1 (S54 : V10 → Option (Bool)) (k0 : V10 → V10 → V10 → Bool → Option R) (x0 x1 x2 : V10) : Option R :=
(S54 x0).bind fun r920 =>
brB (!r920) (k0 x0 x1 x2 true) ((S54 x1).bind fun r921 =>
k0 x0 x1 x2 (!r921))
theorem t26_1 (S54) (h54 : (ctr54 S54).holds cl) (x0 x1 x2) : exec cl N c26_1 (e159 x0 x1 x2) K = (g26_1 S54 (fun y0 y1 y2 y3 => K .normal (e160 y0 y1 y2 y3)) x0 x1 x2) := by
 rw [← put_eq h54]
 kernel_rfl
def g26_2 (k0 : V10 → Int → Option R) (x0 x1 x2 : V10) (x3 : Bool) : Option R :=
k0 (false, ([], ()), ([], ()), ()) (1 : Int)
theorem t26_2 (x0 x1 x2 x3) : exec cl N c26_2 (e160 x0 x1 x2 x3) K = (g26_2 (fun y0 y1 => K .normal (e86 y0 y1)) x0 x1 x2 x3) := by
 kernel_rfl
theorem kp26_0 (x0 x1) : keep [2, 3, 4, 5] (e86 x0 x1) = (e87 x0 x1) := by kernel_rfl
theorem kp26_1 (x0 x1 x2 x3) : keep [2, 3, 4, 5] (e160 x0 x1 x2 x3) = (e161 x0 x1 x2) := by kernel_rfl
theorem hb26_0 (x0 x1 x2 x3) : boolOf? (ent (e160 x0 x1 x2 x3) (.t 23)) = some x3 := by kernel_rfl
def g26_4 (S57 : V2 → V2 → V2 → V2 → Option V8) (k0 : V10 → V10 → V10 → V2 → V2 → Int → Option R) (x0 x1 x2 : V10) : Option R :=
(S57 x0.2.1 x1.2.2.1 x1.2.1 x0.2.2.1).bind fun r923 =>
k0 x0 x1 x2 r923.1 r923.2.1 r923.2.2
theorem t26_4 (S57) (h57 : (ctr57 S57).holds cl) (x0 x1 x2) : exec cl N c26_4 (e161 x0 x1 x2) K = (g26_4 S57 (fun y0 y1 y2 y3 y4 y5 => K .normal (e162 y0 y1 y2 y3 y4 y5)) x0 x1 x2) := by
 rw [← put_eq h57]
 kernel_rfl
def g26_5 (k0 : V10 → V10 → V10 → V2 → V2 → Int → Bool → Option R) (x0 x1 x2 : V10) (x3 x4 : V2) (x5 : Int) : Option R :=
k0 x0 x1 x2 x3 x4 x5 (x5 != (0 : Int))
theorem t26_5 (x0 x1 x2 x3 x4 x5) : exec cl N c26_5 (e162 x0 x1 x2 x3 x4 x5) K = (g26_5 (fun y0 y1 y2 y3 y4 y5 y6 => K .normal (e163 y0 y1 y2 y3 y4 y5 y6)) x0 x1 x2 x3 x4 x5) := by
 kernel_rfl
def g26_6 (k0 : V10 → Int → Option R) (x0 x1 x2 : V10) (x3 x4 : V2) (x5 : Int) (x6 : Bool) : Option R :=
k0 (false, ([], ()), ([], ()), ()) x5
theorem t26_6 (x0 x1 x2 x3 x4 x5 x6) : exec cl N c26_6 (e163 x0 x1 x2 x3 x4 x5 x6) K = (g26_6 (fun y0 y1 => K .normal (e86 y0 y1)) x0 x1 x2 x3 x4 x5 x6) := by
 kernel_rfl
theorem kp26_2 (x0 x1) : keep [2, 3, 4, 5, 6, 7] (e86 x0 x1) = (e164 x0 x1) := by kernel_rfl
theorem kp26_3 (x0 x1 x2 x3 x4 x5 x6) : keep [2, 3, 4, 5, 6, 7] (e163 x0 x1 x2 x3 x4 x5 x6) = (e165 x0 x1 x2 x3 x4) := by kernel_rfl
theorem hb26_1 (x0 x1 x2 x3 x4 x5 x6) : boolOf? (ent (e163 x0 x1 x2 x3 x4 x5 x6) (.t 39)) = some x6 := by kernel_rfl
def g26_8 (S58 : V2 → V2 → Option V5) (k0 : V10 → V10 → V10 → V2 → V2 → Int → V2 → Option R) (x0 x1 x2 : V10) (x3 x4 : V2) : Option R :=
(S58 x0.2.2.1 x1.2.2.1).bind fun r926 =>
k0 x0 x1 x2 x3 x4 r926.2 r926.1
theorem t26_8 (S58) (h58 : (ctr58 S58).holds cl) (x0 x1 x2 x3 x4) : exec cl N c26_8 (e165 x0 x1 x2 x3 x4) K = (g26_8 S58 (fun y0 y1 y2 y3 y4 y5 y6 => K .normal (e166 y0 y1 y2 y3 y4 y5 y6)) x0 x1 x2 x3 x4) := by
 rw [← put_eq h58]
 kernel_rfl
def g26_9 (k0 : V10 → V10 → V10 → V2 → V2 → Int → V2 → Bool → Option R) (x0 x1 x2 : V10) (x3 x4 : V2) (x5 : Int) (x6 : V2) : Option R :=
k0 x0 x1 x2 x3 x4 x5 x6 (x5 != (0 : Int))
theorem t26_9 (x0 x1 x2 x3 x4 x5 x6) : exec cl N c26_9 (e166 x0 x1 x2 x3 x4 x5 x6) K = (g26_9 (fun y0 y1 y2 y3 y4 y5 y6 y7 => K .normal (e167 y0 y1 y2 y3 y4 y5 y6 y7)) x0 x1 x2 x3 x4 x5 x6) := by
 kernel_rfl
def g26_10 (k0 : V10 → Int → Option R) (x0 x1 x2 : V10) (x3 x4 : V2) (x5 : Int) (x6 : V2) (x7 : Bool) : Option R :=
k0 (false, ([], ()), ([], ()), ()) x5
theorem t26_10 (x0 x1 x2 x3 x4 x5 x6 x7) : exec cl N c26_10 (e167 x0 x1 x2 x3 x4 x5 x6 x7) K = (g26_10 (fun y0 y1 => K .normal (e86 y0 y1)) x0 x1 x2 x3 x4 x5 x6 x7) := by
 kernel_rfl
theorem kp26_4 (x0 x1) : keep [2, 3, 4, 5, 6, 7, 9] (e86 x0 x1) = (e168 x0 x1) := by kernel_rfl
theorem kp26_5 (x0 x1 x2 x3 x4 x5 x6 x7) : keep [2, 3, 4, 5, 6, 7, 9] (e167 x0 x1 x2 x3 x4 x5 x6 x7) = (e169 x0 x1 x2 x3 x4 x6) := by kernel_rfl
theorem hb26_2 (x0 x1 x2 x3 x4 x5 x6 x7) : boolOf? (ent (e167 x0 x1 x2 x3 x4 x5 x6 x7) (.t 51)) = some x7 := by kernel_rfl
def g26_12 (k0 : V10 → V10 → V10 → V2 → V2 → V2 → Bool → Option R) (x0 x1 x2 : V10) (x3 x4 x5 : V2) : Option R :=
k0 x0 x1 x2 x3 x4 x5 (x0.1 == x1.1)
theorem t26_12 (x0 x1 x2 x3 x4 x5) : exec cl N c26_12 (e169 x0 x1 x2 x3 x4 x5) K = (g26_12 (fun y0 y1 y2 y3 y4 y5 y6 => K .normal (e170 y0 y1 y2 y3 y4 y5 y6)) x0 x1 x2 x3 x4 x5) := by
 kernel_rfl
def g26_13 (S59 : V2 → V2 → Option V5) (k0 : V10 → V10 → V2 → V2 → Int → Option R) (x0 x1 x2 : V10) (x3 x4 x5 : V2) (x6 : Bool) : Option R :=
(S59 x3 x4).bind fun r930 =>
k0 x0 x2 x5 r930.1 r930.2
theorem t26_13 (S59) (h59 : (ctr59 S59).holds cl) (x0 x1 x2 x3 x4 x5 x6) : exec cl N c26_13 (e170 x0 x1 x2 x3 x4 x5 x6) K = (g26_13 S59 (fun y0 y1 y2 y3 y4 => K .normal (e171 y0 y1 y2 y3 y4)) x0 x1 x2 x3 x4 x5 x6) := by
 rw [← put_eq h59]
 kernel_rfl
def g26_14 (k0 : V10 → V10 → V2 → V2 → Int → Bool → Option R) (x0 x1 : V10) (x2 x3 : V2) (x4 : Int) : Option R :=
k0 x0 x1 x2 x3 x4 (x4 != (0 : Int))
theorem t26_14 (x0 x1 x2 x3 x4) : exec cl N c26_14 (e171 x0 x1 x2 x3 x4) K = (g26_14 (fun y0 y1 y2 y3 y4 y5 => K .normal (e172 y0 y1 y2 y3 y4 y5)) x0 x1 x2 x3 x4) := by
 kernel_rfl
def g26_15 (k0 : V10 → Int → Option R) (x0 x1 : V10) (x2 x3 : V2) (x4 : Int) (x5 : Bool) : Option R :=
k0 (false, ([], ()), ([], ()), ()) x4
theorem t26_15 (x0 x1 x2 x3 x4 x5) : exec cl N c26_15 (e172 x0 x1 x2 x3 x4 x5) K = (g26_15 (fun y0 y1 => K .normal (e86 y0 y1)) x0 x1 x2 x3 x4 x5) := by
 kernel_rfl
theorem kp26_6 (x0 x1) : keep [2, 4, 5, 9, 10] (e86 x0 x1) = (e173 x0 x1) := by kernel_rfl
theorem kp26_7 (x0 x1 x2 x3 x4 x5) : keep [2, 4, 5, 9, 10] (e172 x0 x1 x2 x3 x4 x5) = (e174 x0 x1 x2 x3) := by kernel_rfl
theorem hb26_3 (x0 x1 x2 x3 x4 x5) : boolOf? (ent (e172 x0 x1 x2 x3 x4 x5) (.t 66)) = some x5 := by kernel_rfl
def g26_17 (S52 : Bool → V2 → V2 → Option V11) (k0 : V10 → Int → Option R) (x0 x1 : V10) (x2 x3 : V2) : Option R :=
(S52 x0.1 x3 x2).bind fun r933 =>
k0 r933 (0 : Int)
theorem t26_17 (S52) (h52 : (ctr52 S52).holds cl) (x0 x1 x2 x3) : exec cl N c26_17 (e174 x0 x1 x2 x3) K = (g26_17 S52 (fun y0 y1 => K .normal (e86 y0 y1)) x0 x1 x2 x3) := by
 rw [← put_eq h52]
 kernel_rfl
theorem kp26_8 (x0 x1) : keep [2, 3, 4, 5, 6, 7, 9] (e173 x0 x1) = (e168 x0 x1) := by kernel_rfl
theorem kp26_9 (x0 x1 x2 x3 x4 x5 x6) : keep [2, 3, 4, 5, 6, 7, 9] (e170 x0 x1 x2 x3 x4 x5 x6) = (e169 x0 x1 x2 x3 x4 x5) := by kernel_rfl
theorem hb26_4 (x0 x1 x2 x3 x4 x5 x6) : boolOf? (ent (e170 x0 x1 x2 x3 x4 x5 x6) (.t 58)) = some x6 := by kernel_rfl
def g26_19 (S60 : V2 → V2 → Option (Int)) (k0 : V10 → V10 → V10 → V2 → V2 → V2 → Bool → Option R) (x0 x1 x2 : V10) (x3 x4 x5 : V2) : Option R :=
(S60 x3 x4).bind fun r934 =>
k0 x0 x1 x2 x3 x4 x5 (decide (r934 ≥ (0 : Int)))
theorem t26_19 (S60) (h60 : (ctr60 S60).holds cl) (x0 x1 x2 x3 x4 x5) : exec cl N c26_19 (e169 x0 x1 x2 x3 x4 x5) K = (g26_19 S60 (fun y0 y1 y2 y3 y4 y5 y6 => K .normal (e175 y0 y1 y2 y3 y4 y5 y6)) x0 x1 x2 x3 x4 x5) := by
 rw [← put_eq h60]
 kernel_rfl
def g26_22 (S52 : Bool → V2 → V2 → Option V11) (S61 : V2 → V2 → Option V5) (k0 : V10 → Int → Option R) (x0 x1 x2 : V10) (x3 x4 x5 : V2) (x6 : Bool) : Option R :=
(S61 x3 x4).bind fun r937 =>
(S52 x0.1 r937.1 x5).bind fun r938 =>
k0 r938 (0 : Int)
theorem t26_22 (S52) (S61) (h52 : (ctr52 S52).holds cl) (h61 : (ctr61 S61).holds cl) (x0 x1 x2 x3 x4 x5 x6) : exec cl N c26_22 (e175 x0 x1 x2 x3 x4 x5 x6) K = (g26_22 S52 S61 (fun y0 y1 => exec cl N .ret (e86 y0 y1) K) x0 x1 x2 x3 x4 x5 x6) := by
 rw [← put_eq h52]
 rw [← put_eq h61]
 kernel_rfl
theorem kp26_10 (x0 x1) : keep [3, 4, 5, 6, 7, 9] (e86 x0 x1) = (e176 x0 x1) := by kernel_rfl
theorem kp26_11 (x0 x1 x2 x3 x4 x5 x6) : keep [3, 4, 5, 6, 7, 9] (e175 x0 x1 x2 x3 x4 x5 x6) = (e177 x1 x2 x3 x4 x5) := by kernel_rfl
theorem hb26_5 (x0 x1 x2 x3 x4 x5 x6) : boolOf? (ent (e175 x0 x1 x2 x3 x4 x5 x6) (.t 77)) = some x6 := by kernel_rfl
def g26_26 (S52 : Bool → V2 → V2 → Option V11) (S61 : V2 → V2 → Option V5) (k0 : V10 → Int → Option R) (x0 x1 : V10) (x2 x3 x4 : V2) : Option R :=
(S61 x3 x2).bind fun r940 =>
(S52 x0.1 r940.1 x4).bind fun r941 =>
k0 r941 (0 : Int)
theorem t26_26 (S52) (S61) (h52 : (ctr52 S52).holds cl) (h61 : (ctr61 S61).holds cl) (x0 x1 x2 x3 x4) : exec cl N c26_26 (e177 x0 x1 x2 x3 x4) K = (g26_26 S52 S61 (fun y0 y1 => exec cl N .ret (e86 y0 y1) K) x0 x1 x2 x3 x4) := by
 rw [← put_eq h52]
 rw [← put_eq h61]
 kernel_rfl
def g26_27 (S52 : Bool → V2 → V2 → Option V11) (S54 : V10 → Option (Bool)) (S57 : V2 → V2 → V2 → V2 → Option V8) (S58 : V2 → V2 → Option V5) (S59 : V2 → V2 → Option V5) (S60 : V2 → V2 → Option (Int)) (S61 : V2 → V2 → Option V5) (k0 : V10 → Int → Option R) (k1 : V10 → Int → Option R) (k2 : V10 → Int → Option R) (k3 : V10 → Int → Option R) (k4 : V10 → Int → Option R) (x0 x1 : V10) : Option R :=
(g26_0 (g26_1 S54 (fun y0 y1 y2 y3 => brB y3 (g26_2 k0 y0 y1 y2 y3) ((g26_4 S57 (g26_5 (fun y0 y1 y2 y3 y4 y5 y6 => brB y6 (g26_6 k1 y0 y1 y2 y3 y4 y5 y6) ((g26_8 S58 (g26_9 (fun y0 y1 y2 y3 y4 y5 y6 y7 => brB y7 (g26_10 k2 y0 y1 y2 y3 y4 y5 y6 y7) ((g26_12 (fun y0 y1 y2 y3 y4 y5 y6 => brB y6 (g26_13 S59 (g26_14 (fun y0 y1 y2 y3 y4 y5 => brB y5 (g26_15 k2 y0 y1 y2 y3 y4 y5) ((g26_17 S52 k2) y0 y1 y2 y3))) y0 y1 y2 y3 y4 y5 y6) ((g26_19 S60 (fun y0 y1 y2 y3 y4 y5 y6 => brB y6 (g26_22 S52 S61 k3 y0 y1 y2 y3 y4 y5 y6) ((g26_26 S52 S61 k4) y1 y2 y3 y4 y5))) y0 y1 y2 y3 y4 y5))) y0 y1 y2 y3 y4 y6)))) y0 y1 y2 y3 y4)))) y0 y1 y2))) x0 x1)
theorem t26_27 (S52) (S54) (S57) (S58) (S59) (S60) (S61) (h52 : (ctr52 S52).holds cl) (h54 : (ctr54 S54).holds cl) (h57 : (ctr57 S57).holds cl) (h58 : (ctr58 S58).holds cl) (h59 : (ctr59 S59).holds cl) (h60 : (ctr60 S60).holds cl) (h61 : (ctr61 S61).holds cl) (x0 x1) : exec cl N c26_27 (e158 x0 x1) K = (g26_27 S52 S54 S57 S58 S59 S60 S61 (fun y0 y1 => K .ret (e87 y0 y1)) (fun y0 y1 => K .ret (e164 y0 y1)) (fun y0 y1 => K .ret (e168 y0 y1)) (fun y0 y1 => K .ret (e176 y0 y1)) (fun y0 y1 => K .ret (e86 y0 y1)) x0 x1) := by
 simp only [c26_27, exec_seq, seqK_normal, seqK_exit, seqK_ret, t26_0, t26_1 S54 h54, c26_3, exec_out, exec_cond', hb26_0, Option.bind_some, brB_true, brB_false, t26_2, exec_ret, exec_skip, kp26_0, kp26_1, t26_4 S57 h57, t26_5, c26_7, hb26_1, t26_6, kp26_2, kp26_3, t26_8 S58 h58, t26_9, c26_11, hb26_2, t26_10, kp26_4, kp26_5, t26_12, c26_18, hb26_4, t26_13 S59 h59, t26_14, c26_16, hb26_3, t26_15, kp26_6, kp26_7, t26_17 S52 h52, kp26_8, kp26_9, t26_19 S60 h60, c26_23, hb26_5, t26_22 S52 S61 h52 h61, kp26_10, kp26_11, t26_26 S52 S61 h52 h61]
 rfl
theorem rk26_0 (y0 y1) : retK d26 .ret (e87 y0 y1) = some [.v U9 y0, .v U1 y1] := by kernel_rfl
theorem rk26_1 (y0 y1) : retK d26 .ret (e164 y0 y1) = some [.v U9 y0, .v U1 y1] := by kernel_rfl
theorem rk26_2 (y0 y1) : retK d26 .ret (e168 y0 y1) = some [.v U9 y0, .v U1 y1] := by kernel_rfl
theorem rk26_3 (y0 y1) : retK d26 .ret (e176 y0 y1) = some [.v U9 y0, .v U1 y1] := by kernel_rfl
theorem rk26_4 (y0 y1) : retK d26 .ret (e86 y0 y1) = some [.v U9 y0, .v U1 y1] := by kernel_rfl
def g26 (S52 : Bool → V2 → V2 → Option V11) (S54 : V10 → Option (Bool)) (S57 : V2 → V2 → V2 → V2 → Option V8) (S58 : V2 → V2 → Option V5) (S59 : V2 → V2 → Option V5) (S60 : V2 → V2 → Option (Int)) (S61 : V2 → V2 → Option V5) (x0 x1 : V10) (k : V10 → Int → Option R) : Option R :=
(g26_27 S52 S54 S57 S58 S59 S60 S61 k k k k k x0 x1)
theorem gen26 (S52) (S54) (S57) (S58) (S59) (S60) (S61) (h52 : (ctr52 S52).holds cl) (h54 : (ctr54 S54).holds cl) (h57 : (ctr57 S57).holds cl) (h58 : (ctr58 S58).holds cl) (h59 : (ctr59 S59).holds cl) (h60 : (ctr60 S60).holds cl) (h61 : (ctr61 S61).holds cl) (x0 x1) (k : List E → Option R) : exec cl N c26 (e158 x0 x1) (fun e env => (retK d26 e env).bind k) = g26 S52 S54 S57 S58 S59 S60 S61 x0 x1 (fun r0 r1 => k [.v U9 r0, .v U1 r1]) := by
 simp only [c26, t26_27 S52 S54 S57 S58 S59 S60 S61 h52 h54 h57 h58 h59 h60 h61, rk26_0, rk26_1, rk26_2, rk26_3, rk26_4, Option.bind_some]
 rfl
def ctr26 (S : V10 → V10 → Option V13) : Ctr := cv2 26 U9 U9 S fun b => [.v U9 b.1, .v U1 b.2]
def S26 (N : Nat) (x0 : V10) (x1 : V10) : Option V13 := g26 (S52 N) (S54 N) (S57 N) (S58 N) (S59 N) (S60 N) (S61 N) x0 x1 (fun (r0 : V10) (r1 : Int) => some (r0, r1))
def g67_0 (k0 : V12 → V10 → Option R) (x0 : V12) : Option R :=
k0 x0 (false, (([], ()), (([], ()), ())))
theorem t67_0 (x0) : exec cl N c67_0 [(0, .v U10 x0)] K = (g67_0 (fun y0 y1 => K .normal (e178 y0 y1)) x0) := by
 kernel_rfl
def g67_1 (k0 : V12 → V10 → Int → Option R) (x0 : V12) (x1 : V10) : Option R :=
k0 x0 x1 (0 : Int)
theorem t67_1 (x0 x1) : exec cl N c67_1 (e178 x0 x1) K = (g67_1 (fun y0 y1 y2 => K .normal (e179 y0 y1 y2)) x0 x1) := by
 kernel_rfl
theorem kp67_0 (x0 x1 x2) : keep [0, 2, 4] (e179 x0 x1 x2) = (e179 x0 x1 x2) := by kernel_rfl
def g67_2 (k0 : V12 → V10 → Int → Bool → Option R) (x0 : V12) (x1 : V10) (x2 : Int) : Option R :=
k0 x0 x1 x2 (decide (x2 < (x0.length : Int)))
theorem t67_2 (x0 x1 x2) : exec cl N c67_2 (e179 x0 x1 x2) K = (g67_2 (fun y0 y1 y2 y3 => K .normal (e180 y0 y1 y2 y3)) x0 x1 x2) := by
 kernel_rfl
theorem kp67_1 (x0 x1 x2 x3) : keep [0, 2, 4] (e180 x0 x1 x2 x3) = (e179 x0 x1 x2) := by kernel_rfl
theorem hb67_0 (x0 x1 x2 x3) : boolOf? (ent (e180 x0 x1 x2 x3) (.t 12)) = some x3 := by kernel_rfl
def g67_4 (S54 : V10 → Option (Bool)) (k0 : V12 → V10 → Int → Bool → Option R) (x0 : V12) (x1 : V10) (x2 : Int) : Option R :=
if 0 ≤ x2 ∧ x2 < (x0.length : Int) then
(S54 (x0.getD x2.toNat (false, (([], ()), (([], ()), ()))))).bind fun r947 =>
k0 x0 x1 x2 (!r947)
else none
theorem t67_4 (S54) (h54 : (ctr54 S54).holds cl) (x0 x1 x2) : exec cl N c67_4 (e179 x0 x1 x2) K = (g67_4 S54 (fun y0 y1 y2 y3 => K .normal (e181 y0 y1 y2 y3)) x0 x1 x2) := by
 rw [← put_eq h54]
 kernel_rfl
def g67_5 (k0 : V10 → Int → Option R) (x0 : V12) (x1 : V10) (x2 : Int) (x3 : Bool) : Option R :=
k0 (false, ([], ()), ([], ()), ()) (1 : Int)
theorem t67_5 (x0 x1 x2 x3) : exec cl N c67_5 (e181 x0 x1 x2 x3) K = (g67_5 (fun y0 y1 => K .normal (e182 y0 y1)) x0 x1 x2 x3) := by
 kernel_rfl
theorem kp67_2 (x0 x1) : keep [0, 2, 3, 4] (e182 x0 x1) = (e183 x0 x1) := by kernel_rfl
theorem kp67_3 (x0 x1 x2 x3) : keep [0, 2, 3, 4] (e181 x0 x1 x2 x3) = (e184 x0 x1 x2) := by kernel_rfl
theorem hb67_1 (x0 x1 x2 x3) : boolOf? (ent (e181 x0 x1 x2 x3) (.t 20)) = some x3 := by kernel_rfl
theorem kp67_4 (x0 x1) : keep [0, 2, 3, 4] (e183 x0 x1) = (e183 x0 x1) := by kernel_rfl
theorem kp67_5 (x0 x1 x2) : keep [0, 2, 3, 4] (e184 x0 x1 x2) = (e184 x0 x1 x2) := by kernel_rfl
def g67_8 (k0 : V12 → V10 → Int → Option R) (x0 : V12) (x1 : V10) (x2 : Int) : Option R :=
k0 x0 x1 (IntKind.i64.wrap (x2 + (1 : Int)))
theorem t67_8 (x0 x1 x2) : exec cl N c67_8 (e184 x0 x1 x2) K = (g67_8 (fun y0 y1 y2 => K .normal (e179 y0 y1 y2)) x0 x1 x2) := by
 kernel_rfl
def g67_9 (S54 : V10 → Option (Bool)) (k0 : V10 → Int → Option R) (k1 : V12 → V10 → Int → Option R) (k2 : V12 → V10 → Int → Option R) (x0 : V12) (x1 : V10) (x2 : Int) : Option R :=
(g67_2 (fun y0 y1 y2 y3 => brB y3 ((g67_4 S54 (fun y0 y1 y2 y3 => brB y3 (g67_5 k0 y0 y1 y2 y3) (((g67_8 k1)) y0 y1 y2))) y0 y1 y2) (k2 y0 y1 y2)) x0 x1 x2)
theorem t67_9 (S54) (h54 : (ctr54 S54).holds cl) (x0 x1 x2) : exec cl N c67_9 (e179 x0 x1 x2) K = (g67_9 S54 (fun y0 y1 => K .ret (e183 y0 y1)) (fun y0 y1 y2 => K .normal (e179 y0 y1 y2)) (fun y0 y1 y2 => K (.exit 0) (e179 y0 y1 y2)) x0 x1 x2) := by
 simp only [c67_9, exec_seq, seqK_normal, seqK_exit, seqK_ret, t67_2, c67_3, exec_out, exec_cond', hb67_0, Option.bind_some, brB_true, brB_false, exec_skip, exec_exit, kp67_1, c67_7, exec_block, t67_4 S54 h54, c67_6, hb67_1, t67_5, exec_ret, kp67_2, kp67_3, blockK_normal, blockK_ret, blockK_eq, kp67_4, kp67_5, t67_8]
 rfl
def l67_10 {R : Type} (S54 : V10 → Option (Bool)) (k0 : V10 → Int → Option R) (k1 : V12 → V10 → Int → Option R) : Nat → V12 → V10 → Int → Option R
 | 0, _, _, _ => none
 | m + 1, x0, x1, x2 => (g67_9 S54 k0 (l67_10 S54 k0 k1 m) k1 x0 x1 x2)
theorem lt67_10 (S54) (h54 : (ctr54 S54).holds cl) : ∀ (m) (x0 x1 x2), iter [0, 2, 4] (fun env K => exec cl N c67_9 env K) K m (e179 x0 x1 x2) = l67_10 S54 (fun y0 y1 => K .ret (e183 y0 y1)) (fun y0 y1 y2 => K (.exit 0) (e179 y0 y1 y2)) m x0 x1 x2 := by
 intro m
 induction m with
 | zero => intros; rfl
 | succ m ih =>
   intro x0 x1 x2
   simp only [iter_succ, t67_9 S54 h54, loopK_normal, loopK_exit, loopK_ret, kp67_0, ih]
   rfl
theorem kp67_6 (x0 x1) : keep [0, 2, 3] (e183 x0 x1) = (e185 x0 x1) := by kernel_rfl
theorem kp67_7 (x0 x1 x2) : keep [0, 2, 3] (e179 x0 x1 x2) = (e186 x0 x1) := by kernel_rfl
def g67_10 (N : Nat) (S54 : V10 → Option (Bool)) (k0 : V10 → Int → Option R) (k1 : V12 → V10 → Option R) (x0 : V12) (x1 : V10) (x2 : Int) : Option R :=
l67_10 S54 k0 (fun y0 y1 y2 => k1 y0 y1) N x0 x1 x2
theorem t67_10 (S54) (h54 : (ctr54 S54).holds cl) (x0 x1 x2) : exec cl N c67_10 (e179 x0 x1 x2) K = (g67_10 N S54 (fun y0 y1 => K .ret (e185 y0 y1)) (fun y0 y1 => K (.exit 0) (e186 y0 y1)) x0 x1 x2) := by
 simp only [c67_10, exec_out, exec_loop, kp67_0, lt67_10 S54 h54, kp67_6, kp67_7]
 rfl
theorem kp67_8 (x0 x1) : keep [0, 2, 3] (e185 x0 x1) = (e185 x0 x1) := by kernel_rfl
theorem kp67_9 (x0 x1) : keep [0, 2, 3] (e186 x0 x1) = (e186 x0 x1) := by kernel_rfl
def g67_12 (S94 : Option V11) (k0 : V12 → V10 → V10 → Option R) (x0 : V12) (x1 : V10) : Option R :=
(S94).bind fun r950 =>
k0 x0 x1 r950
theorem t67_12 (S94) (h94 : (ctr94 S94).holds cl) (x0 x1) : exec cl N c67_12 (e186 x0 x1) K = (g67_12 S94 (fun y0 y1 y2 => K .normal (e187 y0 y1 y2)) x0 x1) := by
 rw [← put_eq h94]
 kernel_rfl
def g67_13 (k0 : V12 → V10 → V10 → Int → Option R) (x0 : V12) (x1 x2 : V10) : Option R :=
k0 x0 x1 x2 (0 : Int)
theorem t67_13 (x0 x1 x2) : exec cl N c67_13 (e187 x0 x1 x2) K = (g67_13 (fun y0 y1 y2 y3 => K .normal (e188 y0 y1 y2 y3)) x0 x1 x2) := by
 kernel_rfl
theorem kp67_10 (x0 x1 x2 x3) : keep [0, 2, 5, 6] (e188 x0 x1 x2 x3) = (e188 x0 x1 x2 x3) := by kernel_rfl
def g67_14 (k0 : V12 → V10 → V10 → Int → Bool → Option R) (x0 : V12) (x1 x2 : V10) (x3 : Int) : Option R :=
k0 x0 x1 x2 x3 (decide (x3 < (x0.length : Int)))
theorem t67_14 (x0 x1 x2 x3) : exec cl N c67_14 (e188 x0 x1 x2 x3) K = (g67_14 (fun y0 y1 y2 y3 y4 => K .normal (e189 y0 y1 y2 y3 y4)) x0 x1 x2 x3) := by
 kernel_rfl
theorem kp67_11 (x0 x1 x2 x3 x4) : keep [0, 2, 5, 6] (e189 x0 x1 x2 x3 x4) = (e188 x0 x1 x2 x3) := by kernel_rfl
theorem hb67_2 (x0 x1 x2 x3 x4) : boolOf? (ent (e189 x0 x1 x2 x3 x4) (.t 26)) = some x4 := by kernel_rfl
def g67_16 (S26 : V10 → V10 → Option V13) (k0 : V12 → V10 → V10 → Int → V10 → Int → Option R) (x0 : V12) (x1 x2 : V10) (x3 : Int) : Option R :=
if 0 ≤ x3 ∧ x3 < (x0.length : Int) then
(S26 x2 (x0.getD x3.toNat (false, (([], ()), (([], ()), ()))))).bind fun r952 =>
k0 x0 x1 x2 x3 r952.1 r952.2
else none
theorem t67_16 (S26) (h26 : (ctr26 S26).holds cl) (x0 x1 x2 x3) : exec cl N c67_16 (e188 x0 x1 x2 x3) K = (g67_16 S26 (fun y0 y1 y2 y3 y4 y5 => K .normal (e190 y0 y1 y2 y3 y4 y5)) x0 x1 x2 x3) := by
 rw [← put_eq h26]
 kernel_rfl
def g67_17 (k0 : V12 → V10 → V10 → Int → V10 → Int → Bool → Option R) (x0 : V12) (x1 x2 : V10) (x3 : Int) (x4 : V10) (x5 : Int) : Option R :=
k0 x0 x1 x2 x3 x4 x5 (x5 != (0 : Int))
theorem t67_17 (x0 x1 x2 x3 x4 x5) : exec cl N c67_17 (e190 x0 x1 x2 x3 x4 x5) K = (g67_17 (fun y0 y1 y2 y3 y4 y5 y6 => K .normal (e191 y0 y1 y2 y3 y4 y5 y6)) x0 x1 x2 x3 x4 x5) := by
 kernel_rfl
def g67_18 (k0 : V10 → Int → Option R) (x0 : V12) (x1 x2 : V10) (x3 : Int) (x4 : V10) (x5 : Int) (x6 : Bool) : Option R :=
k0 (false, ([], ()), ([], ()), ()) x5
theorem t67_18 (x0 x1 x2 x3 x4 x5 x6) : exec cl N c67_18 (e191 x0 x1 x2 x3 x4 x5 x6) K = (g67_18 (fun y0 y1 => K .normal (e182 y0 y1)) x0 x1 x2 x3 x4 x5 x6) := by
 kernel_rfl
theorem kp67_12 (x0 x1) : keep [0, 2, 3, 5, 6, 7] (e182 x0 x1) = (e192 x0 x1) := by kernel_rfl
theorem kp67_13 (x0 x1 x2 x3 x4 x5 x6) : keep [0, 2, 3, 5, 6, 7] (e191 x0 x1 x2 x3 x4 x5 x6) = (e193 x0 x1 x2 x3 x4) := by kernel_rfl
theorem hb67_3 (x0 x1 x2 x3 x4 x5 x6) : boolOf? (ent (e191 x0 x1 x2 x3 x4 x5 x6) (.t 39)) = some x6 := by kernel_rfl
def g67_20 (k0 : V12 → V10 → V10 → Int → Option R) (x0 : V12) (x1 x2 : V10) (x3 : Int) (x4 : V10) : Option R :=
k0 x0 x1 x4 x3
theorem t67_20 (x0 x1 x2 x3 x4) : exec cl N c67_20 (e193 x0 x1 x2 x3 x4) K = (g67_20 (fun y0 y1 y2 y3 => K .normal (e188 y0 y1 y2 y3)) x0 x1 x2 x3 x4) := by
 kernel_rfl
theorem kp67_14 (x0 x1) : keep [0, 2, 3, 5, 6] (e192 x0 x1) = (e194 x0 x1) := by kernel_rfl
theorem kp67_15 (x0 x1 x2 x3) : keep [0, 2, 3, 5, 6] (e188 x0 x1 x2 x3) = (e195 x0 x1 x2 x3) := by kernel_rfl
def g67_22 (k0 : V12 → V10 → V10 → Int → Option R) (x0 : V12) (x1 x2 : V10) (x3 : Int) : Option R :=
k0 x0 x1 x2 (IntKind.i64.wrap (x3 + (1 : Int)))
theorem t67_22 (x0 x1 x2 x3) : exec cl N c67_22 (e195 x0 x1 x2 x3) K = (g67_22 (fun y0 y1 y2 y3 => K .normal (e188 y0 y1 y2 y3)) x0 x1 x2 x3) := by
 kernel_rfl
def g67_23 (S26 : V10 → V10 → Option V13) (k0 : V10 → Int → Option R) (k1 : V12 → V10 → V10 → Int → Option R) (k2 : V12 → V10 → V10 → Int → Option R) (x0 : V12) (x1 x2 : V10) (x3 : Int) : Option R :=
(g67_14 (fun y0 y1 y2 y3 y4 => brB y4 ((g67_16 S26 (g67_17 (fun y0 y1 y2 y3 y4 y5 y6 => brB y6 (g67_18 k0 y0 y1 y2 y3 y4 y5 y6) ((g67_20 ((g67_22 k1))) y0 y1 y2 y3 y4)))) y0 y1 y2 y3) (k2 y0 y1 y2 y3)) x0 x1 x2 x3)
theorem t67_23 (S26) (h26 : (ctr26 S26).holds cl) (x0 x1 x2 x3) : exec cl N c67_23 (e188 x0 x1 x2 x3) K = (g67_23 S26 (fun y0 y1 => K .ret (e194 y0 y1)) (fun y0 y1 y2 y3 => K .normal (e188 y0 y1 y2 y3)) (fun y0 y1 y2 y3 => K (.exit 2) (e188 y0 y1 y2 y3)) x0 x1 x2 x3) := by
 simp only [c67_23, exec_seq, seqK_normal, seqK_exit, seqK_ret, t67_14, c67_15, exec_out, exec_cond', hb67_2, Option.bind_some, brB_true, brB_false, exec_skip, exec_exit, kp67_11, c67_21, exec_block, t67_16 S26 h26, t67_17, c67_19, hb67_3, t67_18, exec_ret, kp67_12, kp67_13, t67_20, blockK_normal, blockK_ret, blockK_eq, kp67_14, kp67_15, t67_22]
 rfl
def l67_24 {R : Type} (S26 : V10 → V10 → Option V13) (k0 : V10 → Int → Option R) (k1 : V12 → V10 → V10 → Int → Option R) : Nat → V12 → V10 → V10 → Int → Option R
 | 0, _, _, _, _ => none
 | m + 1, x0, x1, x2, x3 => (g67_23 S26 k0 (l67_24 S26 k0 k1 m) k1 x0 x1 x2 x3)
theorem lt67_24 (S26) (h26 : (ctr26 S26).holds cl) : ∀ (m) (x0 x1 x2 x3), iter [0, 2, 5, 6] (fun env K => exec cl N c67_23 env K) K m (e188 x0 x1 x2 x3) = l67_24 S26 (fun y0 y1 => K .ret (e194 y0 y1)) (fun y0 y1 y2 y3 => K (.exit 2) (e188 y0 y1 y2 y3)) m x0 x1 x2 x3 := by
 intro m
 induction m with
 | zero => intros; rfl
 | succ m ih =>
   intro x0 x1 x2 x3
   simp only [iter_succ, t67_23 S26 h26, loopK_normal, loopK_exit, loopK_ret, kp67_10, ih]
   rfl
theorem kp67_16 (x0 x1) : keep [2, 3, 5] (e194 x0 x1) = (e196 x0 x1) := by kernel_rfl
theorem kp67_17 (x0 x1 x2 x3) : keep [2, 3, 5] (e188 x0 x1 x2 x3) = (e197 x1 x2) := by kernel_rfl
def g67_24 (N : Nat) (S26 : V10 → V10 → Option V13) (k0 : V10 → Int → Option R) (k1 : V10 → V10 → Option R) (x0 : V12) (x1 x2 : V10) (x3 : Int) : Option R :=
l67_24 S26 k0 (fun y0 y1 y2 y3 => k1 y1 y2) N x0 x1 x2 x3
theorem t67_24 (S26) (h26 : (ctr26 S26).holds cl) (x0 x1 x2 x3) : exec cl N c67_24 (e188 x0 x1 x2 x3) K = (g67_24 N S26 (fun y0 y1 => K .ret (e196 y0 y1)) (fun y0 y1 => K (.exit 2) (e197 y0 y1)) x0 x1 x2 x3) := by
 simp only [c67_24, exec_out, exec_loop, kp67_10, lt67_24 S26 h26, kp67_16, kp67_17]
 rfl
theorem kp67_18 (x0 x1) : keep [2, 3, 5] (e196 x0 x1) = (e196 x0 x1) := by kernel_rfl
theorem kp67_19 (x0 x1) : keep [2, 3, 5] (e197 x0 x1) = (e197 x0 x1) := by kernel_rfl
def g67_26 (k0 : V10 → Int → Option R) (x0 x1 : V10) : Option R :=
k0 x1 (0 : Int)
theorem t67_26 (x0 x1) : exec cl N c67_26 (e197 x0 x1) K = (g67_26 (fun y0 y1 => K .normal (e182 y0 y1)) x0 x1) := by
 kernel_rfl
def g67_27 (N : Nat) (S26 : V10 → V10 → Option V13) (S54 : V10 → Option (Bool)) (S94 : Option V11) (k0 : V10 → Int → Option R) (k1 : V10 → Int → Option R) (k2 : V10 → Int → Option R) (x0 : V12) : Option R :=
(g67_0 (g67_1 (g67_10 N S54 k0 ((g67_12 S94 (g67_13 (g67_24 N S26 k1 ((g67_26 k2)))))))) x0)
theorem t67_27 (S26) (S54) (S94) (h26 : (ctr26 S26).holds cl) (h54 : (ctr54 S54).holds cl) (h94 : (ctr94 S94).holds cl) (x0) : exec cl N c67_27 [(0, .v U10 x0)] K = (g67_27 N S26 S54 S94 (fun y0 y1 => K .ret (e185 y0 y1)) (fun y0 y1 => K .ret (e196 y0 y1)) (fun y0 y1 => K .ret (e182 y0 y1)) x0) := by
 simp only [c67_27, exec_seq, seqK_normal, seqK_exit, seqK_ret, t67_0, t67_1, c67_11, exec_out, exec_block, t67_10 S54 h54, blockK_normal, blockK_ret, blockK_eq, kp67_8, kp67_9, t67_12 S94 h94, t67_13, c67_25, t67_24 S26 h26, kp67_18, kp67_19, t67_26, exec_ret]
 rfl
theorem rk67_0 (y0 y1) : retK d67 .ret (e185 y0 y1) = some [.v U9 y0, .v U1 y1] := by kernel_rfl
theorem rk67_1 (y0 y1) : retK d67 .ret (e196 y0 y1) = some [.v U9 y0, .v U1 y1] := by kernel_rfl
theorem rk67_2 (y0 y1) : retK d67 .ret (e182 y0 y1) = some [.v U9 y0, .v U1 y1] := by kernel_rfl
def g67 (N : Nat) (S26 : V10 → V10 → Option V13) (S54 : V10 → Option (Bool)) (S94 : Option V11) (x0 : V12) (k : V10 → Int → Option R) : Option R :=
(g67_27 N S26 S54 S94 k k k x0)
theorem gen67 (S26) (S54) (S94) (h26 : (ctr26 S26).holds cl) (h54 : (ctr54 S54).holds cl) (h94 : (ctr94 S94).holds cl) (x0) (k : List E → Option R) : exec cl N c67 [(0, .v U10 x0)] (fun e env => (retK d67 e env).bind k) = g67 N S26 S54 S94 x0 (fun r0 r1 => k [.v U9 r0, .v U1 r1]) := by
 simp only [c67, t67_27 S26 S54 S94 h26 h54 h94, rk67_0, rk67_1, rk67_2, Option.bind_some]
 rfl
def ctr67 (S : V12 → Option V13) : Ctr := cv1 67 U10 S fun b => [.v U9 b.1, .v U1 b.2]
def S67 (N : Nat) (x0 : V12) : Option V13 := g67 N (S26 N) (S54 N) (S94 N) x0 (fun (r0 : V10) (r1 : Int) => some (r0, r1))
def g32_6 (S67 : V12 → Option V13) (k0 : V10 → V10 → Int → Option R) (x0 : V12) : Option R :=
(S67 x0).bind fun r959 =>
k0 (false, (([], ()), (([], ()), ()))) r959.1 r959.2
theorem t32_6 (S67) (h67 : (ctr67 S67).holds cl) (x0) : exec cl N c32_6 [(0, .v U10 x0)] K = (g32_6 S67 (fun y0 y1 y2 => exec cl N (.seq (.seq c32_2 c32_4) (.seq c32_5 .ret)) (e198 y0 y1 y2) K) x0) := by
 rw [← put_eq h67]
 kernel_rfl
def g32_2 (k0 : V10 → V10 → Bool → Option R) (x0 x1 : V10) (x2 : Int) : Option R :=
k0 x0 x1 (x2 != (0 : Int))
theorem t32_2 (x0 x1 x2) : exec cl N c32_2 (e198 x0 x1 x2) K = (g32_2 (fun y0 y1 y2 => K .normal (e199 y0 y1 y2)) x0 x1 x2) := by
 kernel_rfl
def g32_3 (k0 : V10 → Option R) (x0 x1 : V10) (x2 : Bool) : Option R :=
k0 (false, ([], ()), ([], ()), ())
theorem t32_3 (x0 x1 x2) : exec cl N c32_3 (e199 x0 x1 x2) K = (g32_3 (fun y0 => K .normal [(2, .loc U9 .no y0)]) x0 x1 x2) := by
 kernel_rfl
theorem kp32_0 (x0) : keep [2, 3] [(2, .loc U9 .no x0)] = (e200 x0) := by kernel_rfl
theorem kp32_1 (x0 x1 x2) : keep [2, 3] (e199 x0 x1 x2) = (e201 x0 x1) := by kernel_rfl
theorem hb32_0 (x0 x1 x2) : boolOf? (ent (e199 x0 x1 x2) (.t 11)) = some x2 := by kernel_rfl
def g32_5 (k0 : V10 → Option R) (x0 x1 : V10) : Option R :=
k0 x1
theorem t32_5 (x0 x1) : exec cl N c32_5 (e201 x0 x1) K = (g32_5 (fun y0 => K .normal [(2, .loc U9 .no y0)]) x0 x1) := by
 kernel_rfl
def g32_6b (S67 : V12 → Option V13) (k0 : V10 → Option R) (k1 : V10 → Option R) (x0 : V12) : Option R :=
(g32_6 S67 (g32_2 (fun y0 y1 y2 => brB y2 (g32_3 k0 y0 y1 y2) ((g32_5 k1) y0 y1))) x0)
theorem t32_6b (S67) (h67 : (ctr67 S67).holds cl) (x0) : exec cl N c32_6 [(0, .v U10 x0)] K = (g32_6b S67 (fun y0 => K .ret (e200 y0)) (fun y0 => K .ret [(2, .loc U9 .no y0)]) x0) := by
 simp only [exec_seq, seqK_normal, seqK_exit, seqK_ret, t32_6 S67 h67, t32_2, c32_4, exec_out, exec_cond', hb32_0, Option.bind_some, brB_true, brB_false, t32_3, exec_ret, exec_skip, kp32_0, kp32_1, t32_5]
 rfl
theorem rk32_0 (y0) : retK d32 .ret (e200 y0) = some [.v U9 y0] := by kernel_rfl
theorem rk32_1 (y0) : retK d32 .ret [(2, .loc U9 .no y0)] = some [.v U9 y0] := by kernel_rfl
def g32 (S67 : V12 → Option V13) (x0 : V12) (k : V10 → Option R) : Option R :=
(g32_6b S67 k k x0)
theorem gen32 (S67) (h67 : (ctr67 S67).holds cl) (x0) (k : List E → Option R) : exec cl N c32 [(0, .v U10 x0)] (fun e env => (retK d32 e env).bind k) = g32 S67 x0 (fun r0 => k [.v U9 r0]) := by
 simp only [c32, t32_6b S67 h67, rk32_0, rk32_1, Option.bind_some]
 rfl
def ctr32 (S : V12 → Option V11) : Ctr := cv1 32 U10 S fun b => [.v U9 b]
def S32 (N : Nat) (x0 : V12) : Option V11 := g32 (S67 N) x0 (fun (r0 : V10) => some (r0))
end Go.Fw.L51
