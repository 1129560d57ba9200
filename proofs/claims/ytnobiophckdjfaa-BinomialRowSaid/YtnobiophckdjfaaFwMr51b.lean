/- Printed by an own program for this claim: the machine's code of functions, or their typed forms with their equations; no conditions. -/
import Derived.Test.YtnobiophckdjfaaFwMr51a
import Derived.Test.YtnobiophckdjfaaFwB4
set_option linter.unusedVariables false
set_option linter.unusedSimpArgs false
namespace Go.Fw.L51
open Go Go.Fw
set_option maxRecDepth 100000
set_option linter.unusedVariables false
set_option linter.unusedSimpArgs false
variable {N : Nat} {cl : Cal} {R : Type} {K : KE R}
def g13_22 (S43 : Int → Int → Int → Int → V12 → Option V2) (k0 : Int → Int → Int → Int → Option R) (x0 : Int) (x1 : V12) : Option R :=
(S43 x0 (0 : Int) (60 : Int) (0 : Int) x1).bind fun r440 =>
k0 x0 r440.1 r440.2.1 r440.2.2
theorem t13_22 (S43) (h43 : (ctr43 S43).holds cl) (x0 x1) : exec cl N c13_22 (e122 x0 x1) K = (g13_22 S43 (fun y0 y1 y2 y3 => exec cl N (.seq (.seq c13_2 c13_4) (.seq c13_5 (.seq (.seq c13_6 c13_20) (.seq c13_21 .ret)))) [(0, .v U1 y0), (6, .v U1 y1), (7, .v U1 y2), (8, .v U1 y3)] K) x0 x1) := by
 rw [← put_eq h43]
 kernel_rfl
def g13_2 (k0 : Int → Int → Int → Int → Bool → Option R) (x0 x1 x2 x3 : Int) : Option R :=
k0 x0 x1 x2 x3 (x3 != (0 : Int))
theorem t13_2 (x0 x1 x2 x3) : exec cl N c13_2 [(0, .v U1 x0), (6, .v U1 x1), (7, .v U1 x2), (8, .v U1 x3)] K = (g13_2 (fun y0 y1 y2 y3 y4 => K .normal (e123 y0 y1 y2 y3 y4)) x0 x1 x2 x3) := by
 kernel_rfl
def g13_3 (k0 : V14 → Int → Option R) (x0 x1 x2 x3 : Int) (x4 : Bool) : Option R :=
k0 [] x3
theorem t13_3 (x0 x1 x2 x3 x4) : exec cl N c13_3 (e123 x0 x1 x2 x3 x4) K = (g13_3 (fun y0 y1 => K .normal (e124 y0 y1)) x0 x1 x2 x3 x4) := by
 kernel_rfl
theorem kp13_0 (x0 x1) : keep [0, 4, 5, 6, 7] (e124 x0 x1) = (e125 x0 x1) := by kernel_rfl
theorem kp13_1 (x0 x1 x2 x3 x4) : keep [0, 4, 5, 6, 7] (e123 x0 x1 x2 x3 x4) = [(0, .v U1 x0), (4, .dead), (5, .dead), (6, .v U1 x1), (7, .v U1 x2)] := by kernel_rfl
theorem hb13_0 (x0 x1 x2 x3 x4) : boolOf? (ent (e123 x0 x1 x2 x3 x4) (.t 21)) = some x4 := by kernel_rfl
def g13_5 (k0 : Int → Int → Int → V14 → Option R) (x0 x1 x2 : Int) : Option R :=
k0 x0 x1 x2 []
theorem t13_5 (x0 x1 x2) : exec cl N c13_5 [(0, .v U1 x0), (4, .dead), (5, .dead), (6, .v U1 x1), (7, .v U1 x2)] K = (g13_5 (fun y0 y1 y2 y3 => K .normal [(0, .v U1 y0), (6, .v U1 y1), (7, .v U1 y2), (9, .own true 26 U9 .no y3)]) x0 x1 x2) := by
 kernel_rfl
def g13_6 (k0 : Int → Int → Int → V14 → Int → Int → Option R) (x0 x1 x2 : Int) (x3 : V14) : Option R :=
k0 x0 x1 x2 x3 (IntKind.i64.wrap (x0 + (1 : Int))) (0 : Int)
theorem t13_6 (x0 x1 x2 x3) : exec cl N c13_6 [(0, .v U1 x0), (6, .v U1 x1), (7, .v U1 x2), (9, .own true 26 U9 .no x3)] K = (g13_6 (fun y0 y1 y2 y3 y4 y5 => K .normal (e126 y0 y1 y2 y3 y4 y5)) x0 x1 x2 x3) := by
 kernel_rfl
theorem kp13_2 (x0 x1 x2 x3 x4 x5) : keep [0, 6, 7, 9, 24, 25] (e126 x0 x1 x2 x3 x4 x5) = (e126 x0 x1 x2 x3 x4 x5) := by kernel_rfl
def g13_7 (k0 : Int → Int → Int → V14 → Int → Int → Bool → Option R) (x0 x1 x2 : Int) (x3 : V14) (x4 x5 : Int) : Option R :=
k0 x0 x1 x2 x3 x4 x5 (decide (x5 < x4))
theorem t13_7 (x0 x1 x2 x3 x4 x5) : exec cl N c13_7 (e126 x0 x1 x2 x3 x4 x5) K = (g13_7 (fun y0 y1 y2 y3 y4 y5 y6 => K .normal (e127 y0 y1 y2 y3 y4 y5 y6)) x0 x1 x2 x3 x4 x5) := by
 kernel_rfl
theorem kp13_3 (x0 x1 x2 x3 x4 x5 x6) : keep [0, 6, 7, 9, 24, 25] (e127 x0 x1 x2 x3 x4 x5 x6) = (e126 x0 x1 x2 x3 x4 x5) := by kernel_rfl
theorem hb13_1 (x0 x1 x2 x3 x4 x5 x6) : boolOf? (ent (e127 x0 x1 x2 x3 x4 x5 x6) (.t 26)) = some x6 := by kernel_rfl
def g13_15 (S44 : V3 → V3 → Option V15) (S45 : Int → Int → Int → Int → Option V4) (S46 : Int → Int → Option V4) (k0 : Int → Int → Int → V14 → V12 → Int → Int → Int → Option R) (x0 x1 x2 : Int) (x3 : V14) (x4 x5 : Int) : Option R :=
(S45 x0 x5 x1 x2).bind fun r444 =>
(S46 x2 x0).bind fun r445 =>
(S44 r444 r445).bind fun r446 =>
k0 x0 x1 x2 x3 r446.1 r446.2 x4 x5
theorem t13_15 (S44) (S45) (S46) (h44 : (ctr44 S44).holds cl) (h45 : (ctr45 S45).holds cl) (h46 : (ctr46 S46).holds cl) (x0 x1 x2 x3 x4 x5) : exec cl N c13_15 (e126 x0 x1 x2 x3 x4 x5) K = (g13_15 S44 S45 S46 (fun y0 y1 y2 y3 y4 y5 y6 y7 => exec cl N (.seq (.seq c13_11 c13_13) c13_14) (e128 y0 y1 y2 y3 y4 y5 y6 y7) K) x0 x1 x2 x3 x4 x5) := by
 rw [← put_eq h44]
 rw [← put_eq h45]
 rw [← put_eq h46]
 kernel_rfl
def g13_11 (k0 : Int → Int → Int → V14 → V12 → Int → Int → Int → Bool → Option R) (x0 x1 x2 : Int) (x3 : V14) (x4 : V12) (x5 x6 x7 : Int) : Option R :=
k0 x0 x1 x2 x3 x4 x5 x6 x7 (x5 != (0 : Int))
theorem t13_11 (x0 x1 x2 x3 x4 x5 x6 x7) : exec cl N c13_11 (e128 x0 x1 x2 x3 x4 x5 x6 x7) K = (g13_11 (fun y0 y1 y2 y3 y4 y5 y6 y7 y8 => K .normal (e129 y0 y1 y2 y3 y4 y5 y6 y7 y8)) x0 x1 x2 x3 x4 x5 x6 x7) := by
 kernel_rfl
def g13_12 (k0 : V14 → Int → Option R) (x0 x1 x2 : Int) (x3 : V14) (x4 : V12) (x5 x6 x7 : Int) (x8 : Bool) : Option R :=
k0 [] x5
theorem t13_12 (x0 x1 x2 x3 x4 x5 x6 x7 x8) : exec cl N c13_12 (e129 x0 x1 x2 x3 x4 x5 x6 x7 x8) K = (g13_12 (fun y0 y1 => K .normal (e124 y0 y1)) x0 x1 x2 x3 x4 x5 x6 x7 x8) := by
 kernel_rfl
theorem kp13_4 (x0 x1) : keep [0, 4, 5, 6, 7, 9, 11, 24, 25] (e124 x0 x1) = (e130 x0 x1) := by kernel_rfl
theorem kp13_5 (x0 x1 x2 x3 x4 x5 x6 x7 x8) : keep [0, 4, 5, 6, 7, 9, 11, 24, 25] (e129 x0 x1 x2 x3 x4 x5 x6 x7 x8) = (e131 x0 x1 x2 x3 x4 x6 x7) := by kernel_rfl
theorem hb13_2 (x0 x1 x2 x3 x4 x5 x6 x7 x8) : boolOf? (ent (e129 x0 x1 x2 x3 x4 x5 x6 x7 x8) (.t 41)) = some x8 := by kernel_rfl
def g13_14 (k0 : Int → Int → Int → V14 → Int → Int → Option R) (x0 x1 x2 : Int) (x3 : V14) (x4 : V12) (x5 x6 : Int) : Option R :=
if x3.length + [x4].length ≤ 2513169434916 then
k0 x0 x1 x2 (x3 ++ [x4]) x5 x6
else none
theorem t13_14 (x0 x1 x2 x3 x4 x5 x6) : exec cl N c13_14 (e131 x0 x1 x2 x3 x4 x5 x6) K = (g13_14 (fun y0 y1 y2 y3 y4 y5 => K .normal (e126 y0 y1 y2 y3 y4 y5)) x0 x1 x2 x3 x4 x5 x6) := by
 kernel_rfl
theorem kp13_6 (x0 x1) : keep [0, 4, 5, 6, 7, 9, 24, 25] (e130 x0 x1) = (e132 x0 x1) := by kernel_rfl
theorem kp13_7 (x0 x1 x2 x3 x4 x5) : keep [0, 4, 5, 6, 7, 9, 24, 25] (e126 x0 x1 x2 x3 x4 x5) = (e133 x0 x1 x2 x3 x4 x5) := by kernel_rfl
def g13_17 (k0 : Int → Int → Int → V14 → Int → Int → Option R) (x0 x1 x2 : Int) (x3 : V14) (x4 x5 : Int) : Option R :=
k0 x0 x1 x2 x3 x4 (IntKind.i64.wrap (x5 + (1 : Int)))
theorem t13_17 (x0 x1 x2 x3 x4 x5) : exec cl N c13_17 (e133 x0 x1 x2 x3 x4 x5) K = (g13_17 (fun y0 y1 y2 y3 y4 y5 => K .normal (e126 y0 y1 y2 y3 y4 y5)) x0 x1 x2 x3 x4 x5) := by
 kernel_rfl
def g13_18 (S44 : V3 → V3 → Option V15) (S45 : Int → Int → Int → Int → Option V4) (S46 : Int → Int → Option V4) (k0 : V14 → Int → Option R) (k1 : Int → Int → Int → V14 → Int → Int → Option R) (k2 : Int → Int → Int → V14 → Int → Int → Option R) (x0 x1 x2 : Int) (x3 : V14) (x4 x5 : Int) : Option R :=
(g13_7 (fun y0 y1 y2 y3 y4 y5 y6 => brB y6 ((g13_15 S44 S45 S46 (g13_11 (fun y0 y1 y2 y3 y4 y5 y6 y7 y8 => brB y8 (g13_12 k0 y0 y1 y2 y3 y4 y5 y6 y7 y8) ((g13_14 ((g13_17 k1))) y0 y1 y2 y3 y4 y6 y7)))) y0 y1 y2 y3 y4 y5) (k2 y0 y1 y2 y3 y4 y5)) x0 x1 x2 x3 x4 x5)
theorem t13_18 (S44) (S45) (S46) (h44 : (ctr44 S44).holds cl) (h45 : (ctr45 S45).holds cl) (h46 : (ctr46 S46).holds cl) (x0 x1 x2 x3 x4 x5) : exec cl N c13_18 (e126 x0 x1 x2 x3 x4 x5) K = (g13_18 S44 S45 S46 (fun y0 y1 => K .ret (e132 y0 y1)) (fun y0 y1 y2 y3 y4 y5 => K .normal (e126 y0 y1 y2 y3 y4 y5)) (fun y0 y1 y2 y3 y4 y5 => K (.exit 0) (e126 y0 y1 y2 y3 y4 y5)) x0 x1 x2 x3 x4 x5) := by
 simp only [c13_18, exec_seq, seqK_normal, seqK_exit, seqK_ret, t13_7, c13_8, exec_out, exec_cond', hb13_1, Option.bind_some, brB_true, brB_false, exec_skip, exec_exit, kp13_3, c13_16, exec_block, t13_15 S44 S45 S46 h44 h45 h46, t13_11, c13_13, hb13_2, t13_12, exec_ret, kp13_4, kp13_5, t13_14, blockK_normal, blockK_ret, blockK_eq, kp13_6, kp13_7, t13_17]
 rfl
def l13_19 {R : Type} (S44 : V3 → V3 → Option V15) (S45 : Int → Int → Int → Int → Option V4) (S46 : Int → Int → Option V4) (k0 : V14 → Int → Option R) (k1 : Int → Int → Int → V14 → Int → Int → Option R) : Nat → Int → Int → Int → V14 → Int → Int → Option R
 | 0, _, _, _, _, _, _ => none
 | m + 1, x0, x1, x2, x3, x4, x5 => (g13_18 S44 S45 S46 k0 (l13_19 S44 S45 S46 k0 k1 m) k1 x0 x1 x2 x3 x4 x5)
theorem lt13_19 (S44) (S45) (S46) (h44 : (ctr44 S44).holds cl) (h45 : (ctr45 S45).holds cl) (h46 : (ctr46 S46).holds cl) : ∀ (m) (x0 x1 x2 x3 x4 x5), iter [0, 6, 7, 9, 24, 25] (fun env K => exec cl N c13_18 env K) K m (e126 x0 x1 x2 x3 x4 x5) = l13_19 S44 S45 S46 (fun y0 y1 => K .ret (e132 y0 y1)) (fun y0 y1 y2 y3 y4 y5 => K (.exit 0) (e126 y0 y1 y2 y3 y4 y5)) m x0 x1 x2 x3 x4 x5 := by
 intro m
 induction m with
 | zero => intros; rfl
 | succ m ih =>
   intro x0 x1 x2 x3 x4 x5
   simp only [iter_succ, t13_18 S44 S45 S46 h44 h45 h46, loopK_normal, loopK_exit, loopK_ret, kp13_2, ih]
   rfl
theorem kp13_8 (x0 x1) : keep [4, 5, 9] (e132 x0 x1) = (e134 x0 x1) := by kernel_rfl
theorem kp13_9 (x0 x1 x2 x3 x4 x5) : keep [4, 5, 9] (e126 x0 x1 x2 x3 x4 x5) = (e135 x3) := by kernel_rfl
def g13_19 (N : Nat) (S44 : V3 → V3 → Option V15) (S45 : Int → Int → Int → Int → Option V4) (S46 : Int → Int → Option V4) (k0 : V14 → Int → Option R) (k1 : V14 → Option R) (x0 x1 x2 : Int) (x3 : V14) (x4 x5 : Int) : Option R :=
l13_19 S44 S45 S46 k0 (fun y0 y1 y2 y3 y4 y5 => k1 y3) N x0 x1 x2 x3 x4 x5
theorem t13_19 (S44) (S45) (S46) (h44 : (ctr44 S44).holds cl) (h45 : (ctr45 S45).holds cl) (h46 : (ctr46 S46).holds cl) (x0 x1 x2 x3 x4 x5) : exec cl N c13_19 (e126 x0 x1 x2 x3 x4 x5) K = (g13_19 N S44 S45 S46 (fun y0 y1 => K .ret (e134 y0 y1)) (fun y0 => K (.exit 0) (e135 y0)) x0 x1 x2 x3 x4 x5) := by
 simp only [c13_19, exec_out, exec_loop, kp13_2, lt13_19 S44 S45 S46 h44 h45 h46, kp13_8, kp13_9]
 rfl
theorem kp13_10 (x0 x1) : keep [4, 5, 9] (e134 x0 x1) = (e134 x0 x1) := by kernel_rfl
theorem kp13_11 (x0) : keep [4, 5, 9] (e135 x0) = (e135 x0) := by kernel_rfl
def g13_21 (k0 : Int → V14 → Option R) (x0 : V14) : Option R :=
k0 (0 : Int) x0
theorem t13_21 (x0) : exec cl N c13_21 (e135 x0) K = (g13_21 (fun y0 y1 => K .normal (e136 y0 y1)) x0) := by
 kernel_rfl
def g13_22b (N : Nat) (S43 : Int → Int → Int → Int → V12 → Option V2) (S44 : V3 → V3 → Option V15) (S45 : Int → Int → Int → Int → Option V4) (S46 : Int → Int → Option V4) (k0 : V14 → Int → Option R) (k1 : V14 → Int → Option R) (k2 : Int → V14 → Option R) (x0 : Int) (x1 : V12) : Option R :=
(g13_22 S43 (g13_2 (fun y0 y1 y2 y3 y4 => brB y4 (g13_3 k0 y0 y1 y2 y3 y4) ((g13_5 (g13_6 (g13_19 N S44 S45 S46 k1 ((g13_21 k2))))) y0 y1 y2))) x0 x1)
theorem t13_22b (S43) (S44) (S45) (S46) (h43 : (ctr43 S43).holds cl) (h44 : (ctr44 S44).holds cl) (h45 : (ctr45 S45).holds cl) (h46 : (ctr46 S46).holds cl) (x0 x1) : exec cl N c13_22 (e122 x0 x1) K = (g13_22b N S43 S44 S45 S46 (fun y0 y1 => K .ret (e125 y0 y1)) (fun y0 y1 => K .ret (e134 y0 y1)) (fun y0 y1 => K .ret (e136 y0 y1)) x0 x1) := by
 simp only [exec_seq, seqK_normal, seqK_exit, seqK_ret, t13_22 S43 h43, t13_2, c13_4, exec_out, exec_cond', hb13_0, Option.bind_some, brB_true, brB_false, t13_3, exec_ret, exec_skip, kp13_0, kp13_1, t13_5, t13_6, c13_20, exec_block, t13_19 S44 S45 S46 h44 h45 h46, blockK_normal, blockK_ret, blockK_eq, kp13_10, kp13_11, t13_21]
 rfl
theorem rk13_0 (y0 y1) : retK d13 .ret (e125 y0 y1) = some [.own true 26 U9 .no y0, .v U1 y1] := by kernel_rfl
theorem rk13_1 (y0 y1) : retK d13 .ret (e134 y0 y1) = some [.own true 26 U9 .no y0, .v U1 y1] := by kernel_rfl
theorem rk13_2 (y0 y1) : retK d13 .ret (e136 y0 y1) = some [.own true 26 U9 .no y1, .v U1 y0] := by kernel_rfl
def g13 (N : Nat) (S43 : Int → Int → Int → Int → V12 → Option V2) (S44 : V3 → V3 → Option V15) (S45 : Int → Int → Int → Int → Option V4) (S46 : Int → Int → Option V4) (x0 : Int) (x1 : V12) (k : V14 → Int → Option R) : Option R :=
(g13_22b N S43 S44 S45 S46 k k (fun y0 y1 => k y1 y0) x0 x1)
theorem gen13 (S43) (S44) (S45) (S46) (h43 : (ctr43 S43).holds cl) (h44 : (ctr44 S44).holds cl) (h45 : (ctr45 S45).holds cl) (h46 : (ctr46 S46).holds cl) (x0 x1) (k : List E → Option R) : exec cl N c13 (e122 x0 x1) (fun e env => (retK d13 e env).bind k) = g13 N S43 S44 S45 S46 x0 x1 (fun r0 r1 => k [.own true 26 U9 .no r0, .v U1 r1]) := by
 simp only [c13, t13_22b S43 S44 S45 S46 h43 h44 h45 h46, rk13_0, rk13_1, rk13_2, Option.bind_some]
 rfl
def ctr13 (S : Int → V12 → Option V16) : Ctr := cv2 13 U1 U9 S fun b => [.own true 26 U9 .no b.1, .v U1 b.2]
def S13 (N : Nat) (x0 : Int) (x1 : V12) : Option V16 := g13 N (S43 N) (S44 N) (S45 N) (S46 N) x0 x1 (fun (r0 : V14) (r1 : Int) => some (r0, r1))
def g86_17 (k0 : V3 → Int → Option R) (x0 : V3) : Option R :=
k0 x0 (x0.1.length : Int)
theorem t86_17 (x0) : exec cl N c86_17 [(0, .v U4 x0)] K = (g86_17 (fun y0 y1 => exec cl N (.seq (.seq c86_2 c86_4) (.seq (.seq c86_5 c86_15) (.seq c86_16 .ret))) [(1, .loc U4 .no y0), (3, .v U1 y1)] K) x0) := by
 kernel_rfl
def g86_2 (k0 : V3 → Int → Bool → Option R) (x0 : V3) (x1 : Int) : Option R :=
brB (decide (x1 > (200 : Int))) (k0 x0 x1 true) (brB (decide (x1 > (0 : Int))) (let v461 : Int := (IntKind.i64.wrap (x1 - (1 : Int)))
if 0 ≤ v461 ∧ v461 < (x0.1.length : Int) then
k0 x0 x1 ((x0.1.getD v461.toNat (0 : Int)) == (0 : Int))
else none) (k0 x0 x1 false))
theorem t86_2 (x0 x1) : exec cl N c86_2 [(1, .loc U4 .no x0), (3, .v U1 x1)] K = (g86_2 (fun y0 y1 y2 => K .normal (e137 y0 y1 y2)) x0 x1) := by
 kernel_rfl
def g86_3 (k0 : Bool → Option R) (x0 : V3) (x1 : Int) (x2 : Bool) : Option R :=
k0 false
theorem t86_3 (x0 x1 x2) : exec cl N c86_3 (e137 x0 x1 x2) K = (g86_3 (fun y0 => K .normal [(2, .v .bool y0)]) x0 x1 x2) := by
 kernel_rfl
theorem kp86_0 (x0) : keep [1, 2, 3] [(2, .v .bool x0)] = (e138 x0) := by kernel_rfl
theorem kp86_1 (x0 x1 x2) : keep [1, 2, 3] (e137 x0 x1 x2) = [(1, .loc U4 .no x0), (2, .dead), (3, .v U1 x1)] := by kernel_rfl
theorem hb86_0 (x0 x1 x2) : boolOf? (ent (e137 x0 x1 x2) (.t 22)) = some x2 := by kernel_rfl
def g86_5 (k0 : V3 → Int → Int → Option R) (x0 : V3) (x1 : Int) : Option R :=
k0 x0 x1 (0 : Int)
theorem t86_5 (x0 x1) : exec cl N c86_5 [(1, .loc U4 .no x0), (2, .dead), (3, .v U1 x1)] K = (g86_5 (fun y0 y1 y2 => K .normal (e139 y0 y1 y2)) x0 x1) := by
 kernel_rfl
theorem kp86_2 (x0 x1 x2) : keep [1, 3, 4] (e139 x0 x1 x2) = (e139 x0 x1 x2) := by kernel_rfl
def g86_6 (k0 : V3 → Int → Int → Bool → Option R) (x0 : V3) (x1 x2 : Int) : Option R :=
k0 x0 x1 x2 (decide (x2 < x1))
theorem t86_6 (x0 x1 x2) : exec cl N c86_6 (e139 x0 x1 x2) K = (g86_6 (fun y0 y1 y2 y3 => K .normal (e140 y0 y1 y2 y3)) x0 x1 x2) := by
 kernel_rfl
theorem kp86_3 (x0 x1 x2 x3) : keep [1, 3, 4] (e140 x0 x1 x2 x3) = (e139 x0 x1 x2) := by kernel_rfl
theorem hb86_1 (x0 x1 x2 x3) : boolOf? (ent (e140 x0 x1 x2 x3) (.t 25)) = some x3 := by kernel_rfl
def g86_8 (k0 : V3 → Int → Int → Bool → Option R) (x0 : V3) (x1 x2 : Int) : Option R :=
if 0 ≤ x2 ∧ x2 < (x0.1.length : Int) then
brB (decide ((x0.1.getD x2.toNat (0 : Int)) < (0 : Int))) (k0 x0 x1 x2 true) (if 0 ≤ x2 ∧ x2 < (x0.1.length : Int) then
k0 x0 x1 x2 (decide ((x0.1.getD x2.toNat (0 : Int)) ≥ (10000 : Int)))
else none)
else none
theorem t86_8 (x0 x1 x2) : exec cl N c86_8 (e139 x0 x1 x2) K = (g86_8 (fun y0 y1 y2 y3 => K .normal (e141 y0 y1 y2 y3)) x0 x1 x2) := by
 kernel_rfl
def g86_9 (k0 : Bool → Option R) (x0 : V3) (x1 x2 : Int) (x3 : Bool) : Option R :=
k0 false
theorem t86_9 (x0 x1 x2 x3) : exec cl N c86_9 (e141 x0 x1 x2 x3) K = (g86_9 (fun y0 => K .normal [(2, .v .bool y0)]) x0 x1 x2 x3) := by
 kernel_rfl
theorem kp86_4 (x0) : keep [1, 2, 3, 4] [(2, .v .bool x0)] = (e142 x0) := by kernel_rfl
theorem kp86_5 (x0 x1 x2 x3) : keep [1, 2, 3, 4] (e141 x0 x1 x2 x3) = (e143 x0 x1 x2) := by kernel_rfl
theorem hb86_2 (x0 x1 x2 x3) : boolOf? (ent (e141 x0 x1 x2 x3) (.t 41)) = some x3 := by kernel_rfl
theorem kp86_6 (x0) : keep [1, 2, 3, 4] (e142 x0) = (e142 x0) := by kernel_rfl
theorem kp86_7 (x0 x1 x2) : keep [1, 2, 3, 4] (e143 x0 x1 x2) = (e143 x0 x1 x2) := by kernel_rfl
def g86_12 (k0 : V3 → Int → Int → Option R) (x0 : V3) (x1 x2 : Int) : Option R :=
k0 x0 x1 (IntKind.i64.wrap (x2 + (1 : Int)))
theorem t86_12 (x0 x1 x2) : exec cl N c86_12 (e143 x0 x1 x2) K = (g86_12 (fun y0 y1 y2 => K .normal (e139 y0 y1 y2)) x0 x1 x2) := by
 kernel_rfl
def g86_13 (k0 : Bool → Option R) (k1 : V3 → Int → Int → Option R) (k2 : V3 → Int → Int → Option R) (x0 : V3) (x1 x2 : Int) : Option R :=
(g86_6 (fun y0 y1 y2 y3 => brB y3 ((g86_8 (fun y0 y1 y2 y3 => brB y3 (g86_9 k0 y0 y1 y2 y3) (((g86_12 k1)) y0 y1 y2))) y0 y1 y2) (k2 y0 y1 y2)) x0 x1 x2)
theorem t86_13 (x0 x1 x2) : exec cl N c86_13 (e139 x0 x1 x2) K = (g86_13 (fun y0 => K .ret (e142 y0)) (fun y0 y1 y2 => K .normal (e139 y0 y1 y2)) (fun y0 y1 y2 => K (.exit 0) (e139 y0 y1 y2)) x0 x1 x2) := by
 simp only [c86_13, exec_seq, seqK_normal, seqK_exit, seqK_ret, t86_6, c86_7, exec_out, exec_cond', hb86_1, Option.bind_some, brB_true, brB_false, exec_skip, exec_exit, kp86_3, c86_11, exec_block, t86_8, c86_10, hb86_2, t86_9, exec_ret, kp86_4, kp86_5, blockK_normal, blockK_ret, blockK_eq, kp86_6, kp86_7, t86_12]
 rfl
def l86_14 {R : Type} (k0 : Bool → Option R) (k1 : V3 → Int → Int → Option R) : Nat → V3 → Int → Int → Option R
 | 0, _, _, _ => none
 | m + 1, x0, x1, x2 => (g86_13 k0 (l86_14 k0 k1 m) k1 x0 x1 x2)
theorem lt86_14 : ∀ (m) (x0 x1 x2), iter [1, 3, 4] (fun env K => exec cl N c86_13 env K) K m (e139 x0 x1 x2) = l86_14 (fun y0 => K .ret (e142 y0)) (fun y0 y1 y2 => K (.exit 0) (e139 y0 y1 y2)) m x0 x1 x2 := by
 intro m
 induction m with
 | zero => intros; rfl
 | succ m ih =>
   intro x0 x1 x2
   simp only [iter_succ, t86_13, loopK_normal, loopK_exit, loopK_ret, kp86_2, ih]
   rfl
theorem kp86_8 (x0) : keep [2] (e142 x0) = [(2, .v .bool x0)] := by kernel_rfl
theorem kp86_9 (x0 x1 x2) : keep [2] (e139 x0 x1 x2) = [(2, .dead)] := by kernel_rfl
def g86_14 (N : Nat) (k0 : Bool → Option R) (k1 : Option R) (x0 : V3) (x1 x2 : Int) : Option R :=
l86_14 k0 (fun y0 y1 y2 => k1) N x0 x1 x2
theorem t86_14 (x0 x1 x2) : exec cl N c86_14 (e139 x0 x1 x2) K = (g86_14 N (fun y0 => K .ret [(2, .v .bool y0)]) (K (.exit 0) [(2, .dead)]) x0 x1 x2) := by
 simp only [c86_14, exec_out, exec_loop, kp86_2, lt86_14, kp86_8, kp86_9]
 rfl
theorem kp86_10 (x0) : keep [2] [(2, .v .bool x0)] = [(2, .v .bool x0)] := by kernel_rfl
theorem kp86_11 : keep [2] [(2, .dead)] = [(2, .dead)] := by kernel_rfl
def g86_16 (k0 : Bool → Option R) : Option R :=
k0 true
theorem t86_16 : exec cl N c86_16 [(2, .dead)] K = (g86_16 (fun y0 => K .normal [(2, .v .bool y0)])) := by
 kernel_rfl
def g86_17b (N : Nat) (k0 : Bool → Option R) (k1 : Bool → Option R) (x0 : V3) : Option R :=
(g86_17 (g86_2 (fun y0 y1 y2 => brB y2 (g86_3 k0 y0 y1 y2) ((g86_5 (g86_14 N k1 (g86_16 k1))) y0 y1))) x0)
theorem t86_17b (x0) : exec cl N c86_17 [(0, .v U4 x0)] K = (g86_17b N (fun y0 => K .ret (e138 y0)) (fun y0 => K .ret [(2, .v .bool y0)]) x0) := by
 simp only [exec_seq, seqK_normal, seqK_exit, seqK_ret, t86_17, t86_2, c86_4, exec_out, exec_cond', hb86_0, Option.bind_some, brB_true, brB_false, t86_3, exec_ret, exec_skip, kp86_0, kp86_1, t86_5, c86_15, exec_block, t86_14, blockK_normal, blockK_ret, blockK_eq, kp86_10, kp86_11, t86_16]
 rfl
theorem rk86_0 (y0) : retK d86 .ret (e138 y0) = some [.v .bool y0] := by kernel_rfl
theorem rk86_1 (y0) : retK d86 .ret [(2, .v .bool y0)] = some [.v .bool y0] := by kernel_rfl
def g86 (N : Nat) (x0 : V3) (k : Bool → Option R) : Option R :=
(g86_17b N k k x0)
theorem gen86 (x0) (k : List E → Option R) : exec cl N c86 [(0, .v U4 x0)] (fun e env => (retK d86 e env).bind k) = g86 N x0 (fun r0 => k [.v .bool r0]) := by
 simp only [c86, t86_17b, rk86_0, rk86_1, Option.bind_some]
 rfl
def ctr86 (S : V3 → Option (Bool)) : Ctr := cv1 86 U4 S fun b => [.v .bool b]
def S86 (N : Nat) (x0 : V3) : Option (Bool) := g86 N x0 (fun (r0 : Bool) => some (r0))
def g56_2 (k0 : Bool → Option R) (x0 : V3) : Option R :=
k0 ((x0.1.length : Int) == (0 : Int))
theorem t56_2 (x0) : exec cl N c56_2 [(0, .v U4 x0)] K = (g56_2 (fun y0 => exec cl N .ret [(2, .v .bool y0)] K) x0) := by
 kernel_rfl
def g56_2b (k0 : Bool → Option R) (x0 : V3) : Option R :=
(g56_2 k0 x0)
theorem t56_2b (x0) : exec cl N c56_2 [(0, .v U4 x0)] K = (g56_2b (fun y0 => K .ret [(2, .v .bool y0)]) x0) := by
 simp only [exec_seq, seqK_normal, seqK_exit, seqK_ret, t56_2, exec_ret]
 rfl
theorem rk56_0 (y0) : retK d56 .ret [(2, .v .bool y0)] = some [.v .bool y0] := by kernel_rfl
def g56 (x0 : V3) (k : Bool → Option R) : Option R :=
(g56_2b k x0)
theorem gen56 (x0) (k : List E → Option R) : exec cl N c56 [(0, .v U4 x0)] (fun e env => (retK d56 e env).bind k) = g56 x0 (fun r0 => k [.v .bool r0]) := by
 simp only [c56, t56_2b, rk56_0, Option.bind_some]
 rfl
def ctr56 (S : V3 → Option (Bool)) : Ctr := cv1 56 U4 S fun b => [.v .bool b]
def S56 (N : Nat) (x0 : V3) : Option (Bool) := g56 x0 (fun (r0 : Bool) => some (r0))
def g108_2 (k0 : Bool → Option R) (x0 : V0) : Option R :=
brB ((x0.length : Int) == (0 : Int)) (k0 true) (if 0 ≤ (0 : Int) ∧ (0 : Int) < (x0.length : Int) then
k0 ((Int.tmod (x0.getD (0 : Int).toNat (0 : Int)) (2 : Int)) == (0 : Int))
else none)
theorem t108_2 (x0) : exec cl N c108_2 [(0, .v U2 x0)] K = (g108_2 (fun y0 => exec cl N .ret [(2, .v .bool y0)] K) x0) := by
 kernel_rfl
def g108_2b (k0 : Bool → Option R) (x0 : V0) : Option R :=
(g108_2 k0 x0)
theorem t108_2b (x0) : exec cl N c108_2 [(0, .v U2 x0)] K = (g108_2b (fun y0 => K .ret [(2, .v .bool y0)]) x0) := by
 simp only [exec_seq, seqK_normal, seqK_exit, seqK_ret, t108_2, exec_ret]
 rfl
theorem rk108_0 (y0) : retK d108 .ret [(2, .v .bool y0)] = some [.v .bool y0] := by kernel_rfl
def g108 (x0 : V0) (k : Bool → Option R) : Option R :=
(g108_2b k x0)
theorem gen108 (x0) (k : List E → Option R) : exec cl N c108 [(0, .v U2 x0)] (fun e env => (retK d108 e env).bind k) = g108 x0 (fun r0 => k [.v .bool r0]) := by
 simp only [c108, t108_2b, rk108_0, Option.bind_some]
 rfl
def ctr108 (S : V0 → Option (Bool)) : Ctr := cv1 108 U2 S fun b => [.v .bool b]
def S108 (N : Nat) (x0 : V0) : Option (Bool) := g108 x0 (fun (r0 : Bool) => some (r0))
def g113_0 (k0 : V0 → Option R) (x0 : V0) : Option R :=
k0 x0
theorem t113_0 (x0) : exec cl N c113_0 [(0, .v U2 x0)] K = (g113_0 (fun y0 => K .normal [(0, .v U2 y0)]) x0) := by
 kernel_rfl
theorem kp113_0 (x0) : keep [0] [(0, .v U2 x0)] = [(0, .v U2 x0)] := by kernel_rfl
def g113_1 (k0 : V0 → Bool → Option R) (x0 : V0) : Option R :=
brB (decide ((x0.length : Int) > (0 : Int))) (let v504 : Int := (IntKind.i64.wrap ((x0.length : Int) - (1 : Int)))
if 0 ≤ v504 ∧ v504 < (x0.length : Int) then
k0 x0 ((x0.getD v504.toNat (0 : Int)) == (0 : Int))
else none) (k0 x0 false)
theorem t113_1 (x0) : exec cl N c113_1 [(0, .v U2 x0)] K = (g113_1 (fun y0 y1 => K .normal (e16 y0 y1)) x0) := by
 kernel_rfl
theorem kp113_1 (x0 x1) : keep [0] (e16 x0 x1) = [(0, .v U2 x0)] := by kernel_rfl
theorem hb113_0 (x0 x1) : boolOf? (ent (e16 x0 x1) (.t 14)) = some x1 := by kernel_rfl
def g113_3 (k0 : V0 → Option R) (x0 : V0) : Option R :=
let v506 : Int := (IntKind.i64.wrap ((x0.length : Int) - (1 : Int)))
if 0 ≤ (0 : Int) ∧ (0 : Int) ≤ v506 ∧ v506 ≤ (x0.length : Int) ∧ (x0.length : Int) ≤ (x0.length : Int) then
k0 ((x0.drop (0 : Int).toNat).take (v506.toNat - (0 : Int).toNat))
else none
theorem t113_3 (x0) : exec cl N c113_3 [(0, .v U2 x0)] K = (g113_3 (fun y0 => K .normal [(0, .v U2 y0)]) x0) := by
 kernel_rfl
def g113_5 (k0 : V0 → Option R) (k1 : V0 → Option R) (x0 : V0) : Option R :=
(g113_1 (fun y0 y1 => brB y1 ((g113_3 k0) y0) (k1 y0)) x0)
theorem t113_5 (x0) : exec cl N c113_5 [(0, .v U2 x0)] K = (g113_5 (fun y0 => K .normal [(0, .v U2 y0)]) (fun y0 => K (.exit 0) [(0, .v U2 y0)]) x0) := by
 simp only [c113_5, exec_seq, seqK_normal, seqK_exit, seqK_ret, t113_1, c113_2, exec_out, exec_cond', hb113_0, Option.bind_some, brB_true, brB_false, exec_skip, exec_exit, kp113_1, c113_4, exec_block, t113_3, blockK_normal, blockK_ret, blockK_eq, kp113_0]
 rfl
def l113_6 {R : Type} (k0 : V0 → Option R) : Nat → V0 → Option R
 | 0, _ => none
 | m + 1, x0 => (g113_5 (l113_6 k0 m) k0 x0)
theorem lt113_6 : ∀ (m) (x0), iter [0] (fun env K => exec cl N c113_5 env K) K m [(0, .v U2 x0)] = l113_6 (fun y0 => K (.exit 0) [(0, .v U2 y0)]) m x0 := by
 intro m
 induction m with
 | zero => intros; rfl
 | succ m ih =>
   intro x0
   simp only [iter_succ, t113_5, loopK_normal, loopK_exit, loopK_ret, kp113_0, ih]
   rfl
def g113_6 (N : Nat) (k0 : V0 → Option R) (x0 : V0) : Option R :=
l113_6 k0 N x0
theorem t113_6 (x0) : exec cl N c113_6 [(0, .v U2 x0)] K = (g113_6 N (fun y0 => K (.exit 0) [(0, .v U2 y0)]) x0) := by
 simp only [c113_6, exec_out, exec_loop, kp113_0, lt113_6, kp113_0]
 rfl
def g113_8 (k0 : V0 → Option R) (x0 : V0) : Option R :=
k0 x0
theorem t113_8 (x0) : exec cl N c113_8 [(0, .v U2 x0)] K = (g113_8 (fun y0 => K .normal [(2, .v U2 y0)]) x0) := by
 kernel_rfl
def g113_9 (N : Nat) (k0 : V0 → Option R) (x0 : V0) : Option R :=
(g113_0 (g113_6 N ((g113_8 k0))) x0)
theorem t113_9 (x0) : exec cl N c113_9 [(0, .v U2 x0)] K = (g113_9 N (fun y0 => K .ret [(2, .v U2 y0)]) x0) := by
 simp only [c113_9, exec_seq, seqK_normal, seqK_exit, seqK_ret, t113_0, c113_7, exec_out, exec_block, t113_6, blockK_normal, blockK_ret, blockK_eq, kp113_0, t113_8, exec_ret]
 rfl
theorem rk113_0 (y0) : retK d113 .ret [(2, .v U2 y0)] = some [.v U2 y0] := by kernel_rfl
def g113 (N : Nat) (x0 : V0) (k : V0 → Option R) : Option R :=
(g113_9 N k x0)
theorem gen113 (x0) (k : List E → Option R) : exec cl N c113 [(0, .v U2 x0)] (fun e env => (retK d113 e env).bind k) = g113 N x0 (fun r0 => k [.v U2 r0]) := by
 simp only [c113, t113_9, rk113_0, Option.bind_some]
 rfl
def ctr113 (S : V0 → Option V1) : Ctr := cv1 113 U2 S fun b => [.v U2 b]
def S113 (N : Nat) (x0 : V0) : Option V1 := g113 N x0 (fun (r0 : V0) => some (r0))
def g109_16 (k0 : V0 → V0 → Int → Option R) (x0 : V0) : Option R :=
if 0 ≤ (x0.length : Int) ∧ (x0.length : Int) ≤ (x0.length : Int) ∧ (x0.length : Int) ≤ ((17592186044416 : Nat) : Int) then
k0 x0 (List.replicate (x0.length : Int).toNat (0 : Int)) (0 : Int)
else none
theorem t109_16 (x0) : exec cl N c109_16 [(0, .v U2 x0)] K = (g109_16 (fun y0 y1 y2 => exec cl N (.seq (.seq c109_3 c109_14) (.seq c109_15 .ret)) [(0, .v U2 y0), (3, .own true 3 U1 .no y1), (4, .v U1 y2)] K) x0) := by
 kernel_rfl
def g109_3 (k0 : V0 → V0 → Int → Int → Option R) (x0 x1 : V0) (x2 : Int) : Option R :=
k0 x0 x1 x2 (IntKind.i64.wrap ((x0.length : Int) - (1 : Int)))
theorem t109_3 (x0 x1 x2) : exec cl N c109_3 [(0, .v U2 x0), (3, .own true 3 U1 .no x1), (4, .v U1 x2)] K = (g109_3 (fun y0 y1 y2 y3 => K .normal (e144 y0 y1 y2 y3)) x0 x1 x2) := by
 kernel_rfl
theorem kp109_0 (x0 x1 x2 x3) : keep [0, 3, 4, 5] (e144 x0 x1 x2 x3) = (e144 x0 x1 x2 x3) := by kernel_rfl
def g109_4 (k0 : V0 → V0 → Int → Int → Bool → Option R) (x0 x1 : V0) (x2 x3 : Int) : Option R :=
k0 x0 x1 x2 x3 (decide (x3 ≥ (0 : Int)))
theorem t109_4 (x0 x1 x2 x3) : exec cl N c109_4 (e144 x0 x1 x2 x3) K = (g109_4 (fun y0 y1 y2 y3 y4 => K .normal (e145 y0 y1 y2 y3 y4)) x0 x1 x2 x3) := by
 kernel_rfl
theorem kp109_1 (x0 x1 x2 x3 x4) : keep [0, 3, 4, 5] (e145 x0 x1 x2 x3 x4) = (e144 x0 x1 x2 x3) := by kernel_rfl
theorem hb109_0 (x0 x1 x2 x3 x4) : boolOf? (ent (e145 x0 x1 x2 x3 x4) (.t 14)) = some x4 := by kernel_rfl
def g109_9 (k0 : V0 → V0 → Int → Int → Option R) (x0 x1 : V0) (x2 x3 : Int) : Option R :=
if 0 ≤ x3 ∧ x3 < (x0.length : Int) then
let v517 : Int := (IntKind.i64.wrap ((IntKind.i64.wrap (x2 * (10000 : Int))) + (x0.getD x3.toNat (0 : Int))))
if 0 ≤ x3 ∧ x3 < (x1.length : Int) then
if x3.toNat < x1.length then
k0 x0 (x1.set x3.toNat (IntKind.i64.wrap (Int.tdiv v517 (2 : Int)))) (Int.tmod v517 (2 : Int)) x3
else none
else none
else none
theorem t109_9 (x0 x1 x2 x3) : exec cl N c109_9 (e144 x0 x1 x2 x3) K = (g109_9 (fun y0 y1 y2 y3 => K .normal (e144 y0 y1 y2 y3)) x0 x1 x2 x3) := by
 kernel_rfl
def g109_11 (k0 : V0 → V0 → Int → Int → Option R) (x0 x1 : V0) (x2 x3 : Int) : Option R :=
k0 x0 x1 x2 (IntKind.i64.wrap (x3 - (1 : Int)))
theorem t109_11 (x0 x1 x2 x3) : exec cl N c109_11 (e144 x0 x1 x2 x3) K = (g109_11 (fun y0 y1 y2 y3 => K .normal (e144 y0 y1 y2 y3)) x0 x1 x2 x3) := by
 kernel_rfl
def g109_12 (k0 : V0 → V0 → Int → Int → Option R) (k1 : V0 → V0 → Int → Int → Option R) (x0 x1 : V0) (x2 x3 : Int) : Option R :=
(g109_4 (fun y0 y1 y2 y3 y4 => brB y4 ((g109_9 ((g109_11 k0))) y0 y1 y2 y3) (k1 y0 y1 y2 y3)) x0 x1 x2 x3)
theorem t109_12 (x0 x1 x2 x3) : exec cl N c109_12 (e144 x0 x1 x2 x3) K = (g109_12 (fun y0 y1 y2 y3 => K .normal (e144 y0 y1 y2 y3)) (fun y0 y1 y2 y3 => K (.exit 0) (e144 y0 y1 y2 y3)) x0 x1 x2 x3) := by
 simp only [c109_12, exec_seq, seqK_normal, seqK_exit, seqK_ret, t109_4, c109_5, exec_out, exec_cond', hb109_0, Option.bind_some, brB_true, brB_false, exec_skip, exec_exit, kp109_1, c109_10, exec_block, t109_9, blockK_normal, blockK_ret, blockK_eq, kp109_0, t109_11]
 rfl
def l109_13 {R : Type} (k0 : V0 → V0 → Int → Int → Option R) : Nat → V0 → V0 → Int → Int → Option R
 | 0, _, _, _, _ => none
 | m + 1, x0, x1, x2, x3 => (g109_12 (l109_13 k0 m) k0 x0 x1 x2 x3)
theorem lt109_13 : ∀ (m) (x0 x1 x2 x3), iter [0, 3, 4, 5] (fun env K => exec cl N c109_12 env K) K m (e144 x0 x1 x2 x3) = l109_13 (fun y0 y1 y2 y3 => K (.exit 0) (e144 y0 y1 y2 y3)) m x0 x1 x2 x3 := by
 intro m
 induction m with
 | zero => intros; rfl
 | succ m ih =>
   intro x0 x1 x2 x3
   simp only [iter_succ, t109_12, loopK_normal, loopK_exit, loopK_ret, kp109_0, ih]
   rfl
theorem kp109_2 (x0 x1 x2 x3) : keep [3] (e144 x0 x1 x2 x3) = (e146 x1) := by kernel_rfl
def g109_13 (N : Nat) (k0 : V0 → Option R) (x0 x1 : V0) (x2 x3 : Int) : Option R :=
l109_13 (fun y0 y1 y2 y3 => k0 y1) N x0 x1 x2 x3
theorem t109_13 (x0 x1 x2 x3) : exec cl N c109_13 (e144 x0 x1 x2 x3) K = (g109_13 N (fun y0 => K (.exit 0) (e146 y0)) x0 x1 x2 x3) := by
 simp only [c109_13, exec_out, exec_loop, kp109_0, lt109_13, kp109_2]
 rfl
theorem kp109_3 (x0) : keep [3] (e146 x0) = (e146 x0) := by kernel_rfl
def g109_15 (S113 : V0 → Option V1) (k0 : V0 → Option R) (x0 : V0) : Option R :=
(S113 x0).bind fun r521 =>
k0 r521
theorem t109_15 (S113) (h113 : (ctr113 S113).holds cl) (x0) : exec cl N c109_15 (e146 x0) K = (g109_15 S113 (fun y0 => K .normal [(2, .v U2 y0)]) x0) := by
 rw [← put_eq h113]
 kernel_rfl
def g109_16b (N : Nat) (S113 : V0 → Option V1) (k0 : V0 → Option R) (x0 : V0) : Option R :=
(g109_16 (g109_3 (g109_13 N ((g109_15 S113 k0)))) x0)
theorem t109_16b (S113) (h113 : (ctr113 S113).holds cl) (x0) : exec cl N c109_16 [(0, .v U2 x0)] K = (g109_16b N S113 (fun y0 => K .ret [(2, .v U2 y0)]) x0) := by
 simp only [exec_seq, seqK_normal, seqK_exit, seqK_ret, t109_16, t109_3, c109_14, exec_out, exec_block, t109_13, blockK_normal, blockK_ret, blockK_eq, kp109_3, t109_15 S113 h113, exec_ret]
 rfl
theorem rk109_0 (y0) : retK d109 .ret [(2, .v U2 y0)] = some [.v U2 y0] := by kernel_rfl
def g109 (N : Nat) (S113 : V0 → Option V1) (x0 : V0) (k : V0 → Option R) : Option R :=
(g109_16b N S113 k x0)
theorem gen109 (S113) (h113 : (ctr113 S113).holds cl) (x0) (k : List E → Option R) : exec cl N c109 [(0, .v U2 x0)] (fun e env => (retK d109 e env).bind k) = g109 N S113 x0 (fun r0 => k [.v U2 r0]) := by
 simp only [c109, t109_16b S113 h113, rk109_0, Option.bind_some]
 rfl
def ctr109 (S : V0 → Option V1) : Ctr := cv1 109 U2 S fun b => [.v U2 b]
def S109 (N : Nat) (x0 : V0) : Option V1 := g109 N (S113 N) x0 (fun (r0 : V0) => some (r0))
def g90_0 (k0 : V0 → V0 → Option R) (x0 x1 : V0) : Option R :=
k0 x0 x1
theorem t90_0 (x0 x1) : exec cl N c90_0 (e17 x0 x1) K = (g90_0 (fun y0 y1 => K .normal (e17 y0 y1)) x0 x1) := by
 kernel_rfl
def g90_1 (k0 : V0 → V0 → Bool → Option R) (x0 x1 : V0) : Option R :=
k0 x0 x1 (decide ((x0.length : Int) < (x1.length : Int)))
theorem t90_1 (x0 x1) : exec cl N c90_1 (e17 x0 x1) K = (g90_1 (fun y0 y1 y2 => K .normal (e26 y0 y1 y2)) x0 x1) := by
 kernel_rfl
def g90_2 (k0 : Int → Option R) (x0 x1 : V0) (x2 : Bool) : Option R :=
k0 (-1 : Int)
theorem t90_2 (x0 x1 x2) : exec cl N c90_2 (e26 x0 x1 x2) K = (g90_2 (fun y0 => K .normal [(4, .v U1 y0)]) x0 x1 x2) := by
 kernel_rfl
theorem kp90_0 (x0) : keep [0, 1, 4] [(4, .v U1 x0)] = (e27 x0) := by kernel_rfl
theorem kp90_1 (x0 x1 x2) : keep [0, 1, 4] (e26 x0 x1 x2) = (e28 x0 x1) := by kernel_rfl
theorem hb90_0 (x0 x1 x2) : boolOf? (ent (e26 x0 x1 x2) (.t 10)) = some x2 := by kernel_rfl
def g90_4 (k0 : V0 → V0 → Bool → Option R) (x0 x1 : V0) : Option R :=
k0 x0 x1 (decide ((x0.length : Int) > (x1.length : Int)))
theorem t90_4 (x0 x1) : exec cl N c90_4 (e28 x0 x1) K = (g90_4 (fun y0 y1 y2 => K .normal (e147 y0 y1 y2)) x0 x1) := by
 kernel_rfl
def g90_5 (k0 : Int → Option R) (x0 x1 : V0) (x2 : Bool) : Option R :=
k0 (1 : Int)
theorem t90_5 (x0 x1 x2) : exec cl N c90_5 (e147 x0 x1 x2) K = (g90_5 (fun y0 => K .normal [(4, .v U1 y0)]) x0 x1 x2) := by
 kernel_rfl
theorem kp90_2 (x0 x1 x2) : keep [0, 1, 4] (e147 x0 x1 x2) = (e28 x0 x1) := by kernel_rfl
theorem hb90_1 (x0 x1 x2) : boolOf? (ent (e147 x0 x1 x2) (.t 15)) = some x2 := by kernel_rfl
def g90_7 (k0 : V0 → V0 → Int → Option R) (x0 x1 : V0) : Option R :=
k0 x0 x1 (IntKind.i64.wrap ((x0.length : Int) - (1 : Int)))
theorem t90_7 (x0 x1) : exec cl N c90_7 (e28 x0 x1) K = (g90_7 (fun y0 y1 y2 => K .normal (e29 y0 y1 y2)) x0 x1) := by
 kernel_rfl
theorem kp90_3 (x0 x1 x2) : keep [0, 1, 5] (e29 x0 x1 x2) = (e29 x0 x1 x2) := by kernel_rfl
def g90_8 (k0 : V0 → V0 → Int → Bool → Option R) (x0 x1 : V0) (x2 : Int) : Option R :=
k0 x0 x1 x2 (decide (x2 ≥ (0 : Int)))
theorem t90_8 (x0 x1 x2) : exec cl N c90_8 (e29 x0 x1 x2) K = (g90_8 (fun y0 y1 y2 y3 => K .normal (e30 y0 y1 y2 y3)) x0 x1 x2) := by
 kernel_rfl
theorem kp90_4 (x0 x1 x2 x3) : keep [0, 1, 5] (e30 x0 x1 x2 x3) = (e29 x0 x1 x2) := by kernel_rfl
theorem hb90_2 (x0 x1 x2 x3) : boolOf? (ent (e30 x0 x1 x2 x3) (.t 20)) = some x3 := by kernel_rfl
def g90_10 (k0 : V0 → V0 → Int → Bool → Option R) (x0 x1 : V0) (x2 : Int) : Option R :=
if 0 ≤ x2 ∧ x2 < (x0.length : Int) then
if 0 ≤ x2 ∧ x2 < (x1.length : Int) then
k0 x0 x1 x2 (decide ((x0.getD x2.toNat (0 : Int)) < (x1.getD x2.toNat (0 : Int))))
else none
else none
theorem t90_10 (x0 x1 x2) : exec cl N c90_10 (e29 x0 x1 x2) K = (g90_10 (fun y0 y1 y2 y3 => K .normal (e31 y0 y1 y2 y3)) x0 x1 x2) := by
 kernel_rfl
def g90_11 (k0 : Int → Option R) (x0 x1 : V0) (x2 : Int) (x3 : Bool) : Option R :=
k0 (-1 : Int)
theorem t90_11 (x0 x1 x2 x3) : exec cl N c90_11 (e31 x0 x1 x2 x3) K = (g90_11 (fun y0 => K .normal [(4, .v U1 y0)]) x0 x1 x2 x3) := by
 kernel_rfl
theorem kp90_5 (x0) : keep [0, 1, 4, 5] [(4, .v U1 x0)] = (e32 x0) := by kernel_rfl
theorem kp90_6 (x0 x1 x2 x3) : keep [0, 1, 4, 5] (e31 x0 x1 x2 x3) = (e33 x0 x1 x2) := by kernel_rfl
theorem hb90_3 (x0 x1 x2 x3) : boolOf? (ent (e31 x0 x1 x2 x3) (.t 31)) = some x3 := by kernel_rfl
def g90_13 (k0 : V0 → V0 → Int → Bool → Option R) (x0 x1 : V0) (x2 : Int) : Option R :=
if 0 ≤ x2 ∧ x2 < (x0.length : Int) then
if 0 ≤ x2 ∧ x2 < (x1.length : Int) then
k0 x0 x1 x2 (decide ((x0.getD x2.toNat (0 : Int)) > (x1.getD x2.toNat (0 : Int))))
else none
else none
theorem t90_13 (x0 x1 x2) : exec cl N c90_13 (e33 x0 x1 x2) K = (g90_13 (fun y0 y1 y2 y3 => K .normal (e148 y0 y1 y2 y3)) x0 x1 x2) := by
 kernel_rfl
def g90_14 (k0 : Int → Option R) (x0 x1 : V0) (x2 : Int) (x3 : Bool) : Option R :=
k0 (1 : Int)
theorem t90_14 (x0 x1 x2 x3) : exec cl N c90_14 (e148 x0 x1 x2 x3) K = (g90_14 (fun y0 => K .normal [(4, .v U1 y0)]) x0 x1 x2 x3) := by
 kernel_rfl
theorem kp90_7 (x0 x1 x2 x3) : keep [0, 1, 4, 5] (e148 x0 x1 x2 x3) = (e33 x0 x1 x2) := by kernel_rfl
theorem hb90_4 (x0 x1 x2 x3) : boolOf? (ent (e148 x0 x1 x2 x3) (.t 40)) = some x3 := by kernel_rfl
theorem kp90_8 (x0) : keep [0, 1, 4, 5] (e32 x0) = (e32 x0) := by kernel_rfl
theorem kp90_9 (x0 x1 x2) : keep [0, 1, 4, 5] (e33 x0 x1 x2) = (e33 x0 x1 x2) := by kernel_rfl
def g90_17 (k0 : V0 → V0 → Int → Option R) (x0 x1 : V0) (x2 : Int) : Option R :=
k0 x0 x1 (IntKind.i64.wrap (x2 - (1 : Int)))
theorem t90_17 (x0 x1 x2) : exec cl N c90_17 (e33 x0 x1 x2) K = (g90_17 (fun y0 y1 y2 => K .normal (e29 y0 y1 y2)) x0 x1 x2) := by
 kernel_rfl
def g90_18 (k0 : Int → Option R) (k1 : V0 → V0 → Int → Option R) (k2 : V0 → V0 → Int → Option R) (x0 x1 : V0) (x2 : Int) : Option R :=
(g90_8 (fun y0 y1 y2 y3 => brB y3 ((g90_10 (fun y0 y1 y2 y3 => brB y3 (g90_11 k0 y0 y1 y2 y3) ((g90_13 (fun y0 y1 y2 y3 => brB y3 (g90_14 k0 y0 y1 y2 y3) (((g90_17 k1)) y0 y1 y2))) y0 y1 y2))) y0 y1 y2) (k2 y0 y1 y2)) x0 x1 x2)
theorem t90_18 (x0 x1 x2) : exec cl N c90_18 (e29 x0 x1 x2) K = (g90_18 (fun y0 => K .ret (e32 y0)) (fun y0 y1 y2 => K .normal (e29 y0 y1 y2)) (fun y0 y1 y2 => K (.exit 0) (e29 y0 y1 y2)) x0 x1 x2) := by
 simp only [c90_18, exec_seq, seqK_normal, seqK_exit, seqK_ret, t90_8, c90_9, exec_out, exec_cond', hb90_2, Option.bind_some, brB_true, brB_false, exec_skip, exec_exit, kp90_4, c90_16, exec_block, t90_10, c90_12, hb90_3, t90_11, exec_ret, kp90_5, kp90_6, t90_13, c90_15, hb90_4, t90_14, kp90_7, blockK_normal, blockK_ret, blockK_eq, kp90_8, kp90_9, t90_17]
 rfl
def l90_19 {R : Type} (k0 : Int → Option R) (k1 : V0 → V0 → Int → Option R) : Nat → V0 → V0 → Int → Option R
 | 0, _, _, _ => none
 | m + 1, x0, x1, x2 => (g90_18 k0 (l90_19 k0 k1 m) k1 x0 x1 x2)
theorem lt90_19 : ∀ (m) (x0 x1 x2), iter [0, 1, 5] (fun env K => exec cl N c90_18 env K) K m (e29 x0 x1 x2) = l90_19 (fun y0 => K .ret (e32 y0)) (fun y0 y1 y2 => K (.exit 0) (e29 y0 y1 y2)) m x0 x1 x2 := by
 intro m
 induction m with
 | zero => intros; rfl
 | succ m ih =>
   intro x0 x1 x2
   simp only [iter_succ, t90_18, loopK_normal, loopK_exit, loopK_ret, kp90_3, ih]
   rfl
theorem kp90_10 (x0) : keep [4] (e32 x0) = [(4, .v U1 x0)] := by kernel_rfl
theorem kp90_11 (x0 x1 x2) : keep [4] (e29 x0 x1 x2) = [(4, .dead)] := by kernel_rfl
def g90_19 (N : Nat) (k0 : Int → Option R) (k1 : Option R) (x0 x1 : V0) (x2 : Int) : Option R :=
l90_19 k0 (fun y0 y1 y2 => k1) N x0 x1 x2
theorem t90_19 (x0 x1 x2) : exec cl N c90_19 (e29 x0 x1 x2) K = (g90_19 N (fun y0 => K .ret [(4, .v U1 y0)]) (K (.exit 0) [(4, .dead)]) x0 x1 x2) := by
 simp only [c90_19, exec_out, exec_loop, kp90_3, lt90_19, kp90_10, kp90_11]
 rfl
theorem kp90_12 (x0) : keep [4] [(4, .v U1 x0)] = [(4, .v U1 x0)] := by kernel_rfl
theorem kp90_13 : keep [4] [(4, .dead)] = [(4, .dead)] := by kernel_rfl
def g90_21 (k0 : Int → Option R) : Option R :=
k0 (0 : Int)
theorem t90_21 : exec cl N c90_21 [(4, .dead)] K = (g90_21 (fun y0 => K .normal [(4, .v U1 y0)])) := by
 kernel_rfl
def g90_22 (N : Nat) (k0 : Int → Option R) (k1 : Int → Option R) (x0 x1 : V0) : Option R :=
(g90_0 (g90_1 (fun y0 y1 y2 => brB y2 (g90_2 k0 y0 y1 y2) ((g90_4 (fun y0 y1 y2 => brB y2 (g90_5 k0 y0 y1 y2) ((g90_7 (g90_19 N k1 (g90_21 k1))) y0 y1))) y0 y1))) x0 x1)
theorem t90_22 (x0 x1) : exec cl N c90_22 (e17 x0 x1) K = (g90_22 N (fun y0 => K .ret (e27 y0)) (fun y0 => K .ret [(4, .v U1 y0)]) x0 x1) := by
 simp only [c90_22, exec_seq, seqK_normal, seqK_exit, seqK_ret, t90_0, t90_1, c90_3, exec_out, exec_cond', hb90_0, Option.bind_some, brB_true, brB_false, t90_2, exec_ret, exec_skip, kp90_0, kp90_1, t90_4, c90_6, hb90_1, t90_5, kp90_2, t90_7, c90_20, exec_block, t90_19, blockK_normal, blockK_ret, blockK_eq, kp90_12, kp90_13, t90_21]
 rfl
theorem rk90_0 (y0) : retK d90 .ret (e27 y0) = some [.v U1 y0] := by kernel_rfl
theorem rk90_1 (y0) : retK d90 .ret [(4, .v U1 y0)] = some [.v U1 y0] := by kernel_rfl
def g90 (N : Nat) (x0 x1 : V0) (k : Int → Option R) : Option R :=
(g90_22 N k k x0 x1)
theorem gen90 (x0 x1) (k : List E → Option R) : exec cl N c90 (e17 x0 x1) (fun e env => (retK d90 e env).bind k) = g90 N x0 x1 (fun r0 => k [.v U1 r0]) := by
 simp only [c90, t90_22, rk90_0, rk90_1, Option.bind_some]
 rfl
def ctr90 (S : V0 → V0 → Option (Int)) : Ctr := cv2 90 U2 U2 S fun b => [.v U1 b]
def S90 (N : Nat) (x0 : V0) (x1 : V0) : Option (Int) := g90 N x0 x1 (fun (r0 : Int) => some (r0))
def g112_0 (k0 : V0 → Int → Option R) (x0 : V0) (x1 : Int) : Option R :=
k0 x0 x1
theorem t112_0 (x0 x1) : exec cl N c112_0 (e149 x0 x1) K = (g112_0 (fun y0 y1 => K .normal (e149 y0 y1)) x0 x1) := by
 kernel_rfl
def g112_1 (k0 : V0 → Int → Bool → Option R) (x0 : V0) (x1 : Int) : Option R :=
k0 x0 x1 (decide (x1 < (x0.length : Int)))
theorem t112_1 (x0 x1) : exec cl N c112_1 (e149 x0 x1) K = (g112_1 (fun y0 y1 y2 => K .normal (e150 y0 y1 y2)) x0 x1) := by
 kernel_rfl
def g112_2 (k0 : Int → Option R) (x0 : V0) (x1 : Int) (x2 : Bool) : Option R :=
if 0 ≤ x1 ∧ x1 < (x0.length : Int) then
k0 (x0.getD x1.toNat (0 : Int))
else none
theorem t112_2 (x0 x1 x2) : exec cl N c112_2 (e150 x0 x1 x2) K = (g112_2 (fun y0 => K .normal [(4, .v U1 y0)]) x0 x1 x2) := by
 kernel_rfl
theorem kp112_0 (x0) : keep [4] [(4, .v U1 x0)] = [(4, .v U1 x0)] := by kernel_rfl
theorem kp112_1 (x0 x1 x2) : keep [4] (e150 x0 x1 x2) = [(4, .dead)] := by kernel_rfl
theorem hb112_0 (x0 x1 x2) : boolOf? (ent (e150 x0 x1 x2) (.t 8)) = some x2 := by kernel_rfl
def g112_4 (k0 : Int → Option R) : Option R :=
k0 (0 : Int)
theorem t112_4 : exec cl N c112_4 [(4, .dead)] K = (g112_4 (fun y0 => K .normal [(4, .v U1 y0)])) := by
 kernel_rfl
def g112_5 (k0 : Int → Option R) (x0 : V0) (x1 : Int) : Option R :=
(g112_0 (g112_1 (fun y0 y1 y2 => brB y2 (g112_2 k0 y0 y1 y2) (g112_4 k0))) x0 x1)
theorem t112_5 (x0 x1) : exec cl N c112_5 (e149 x0 x1) K = (g112_5 (fun y0 => K .ret [(4, .v U1 y0)]) x0 x1) := by
 simp only [c112_5, exec_seq, seqK_normal, seqK_exit, seqK_ret, t112_0, t112_1, c112_3, exec_out, exec_cond', hb112_0, Option.bind_some, brB_true, brB_false, t112_2, exec_ret, exec_skip, kp112_0, kp112_1, t112_4]
 rfl
theorem rk112_0 (y0) : retK d112 .ret [(4, .v U1 y0)] = some [.v U1 y0] := by kernel_rfl
def g112 (x0 : V0) (x1 : Int) (k : Int → Option R) : Option R :=
(g112_5 k x0 x1)
theorem gen112 (x0 x1) (k : List E → Option R) : exec cl N c112 (e149 x0 x1) (fun e env => (retK d112 e env).bind k) = g112 x0 x1 (fun r0 => k [.v U1 r0]) := by
 simp only [c112, t112_5, rk112_0, Option.bind_some]
 rfl
def ctr112 (S : V0 → Int → Option (Int)) : Ctr := cv2 112 U2 U1 S fun b => [.v U1 b]
def S112 (N : Nat) (x0 : V0) (x1 : Int) : Option (Int) := g112 x0 x1 (fun (r0 : Int) => some (r0))
def g91_22 (k0 : V0 → V0 → V0 → Int → Option R) (x0 x1 : V0) : Option R :=
k0 x0 x1 [] (0 : Int)
theorem t91_22 (x0 x1) : exec cl N c91_22 (e17 x0 x1) K = (g91_22 (fun y0 y1 y2 y3 => exec cl N (.seq (.seq c91_3 c91_20) (.seq c91_21 .ret)) (e151 y0 y1 y2 y3) K) x0 x1) := by
 kernel_rfl
def g91_3 (k0 : V0 → V0 → V0 → Int → Int → Option R) (x0 x1 x2 : V0) (x3 : Int) : Option R :=
k0 x0 x1 x2 x3 (0 : Int)
theorem t91_3 (x0 x1 x2 x3) : exec cl N c91_3 (e151 x0 x1 x2 x3) K = (g91_3 (fun y0 y1 y2 y3 y4 => K .normal (e152 y0 y1 y2 y3 y4)) x0 x1 x2 x3) := by
 kernel_rfl
theorem kp91_0 (x0 x1 x2 x3 x4) : keep [0, 1, 5, 6, 7] (e152 x0 x1 x2 x3 x4) = (e152 x0 x1 x2 x3 x4) := by kernel_rfl
def g91_4 (k0 : V0 → V0 → V0 → Int → Int → Bool → Option R) (x0 x1 x2 : V0) (x3 x4 : Int) : Option R :=
k0 x0 x1 x2 x3 x4 (decide (x4 < (x0.length : Int)))
theorem t91_4 (x0 x1 x2 x3 x4) : exec cl N c91_4 (e152 x0 x1 x2 x3 x4) K = (g91_4 (fun y0 y1 y2 y3 y4 y5 => K .normal (e153 y0 y1 y2 y3 y4 y5)) x0 x1 x2 x3 x4) := by
 kernel_rfl
theorem kp91_1 (x0 x1 x2 x3 x4 x5) : keep [0, 1, 5, 6, 7] (e153 x0 x1 x2 x3 x4 x5) = (e152 x0 x1 x2 x3 x4) := by kernel_rfl
theorem hb91_0 (x0 x1 x2 x3 x4 x5) : boolOf? (ent (e153 x0 x1 x2 x3 x4 x5) (.t 12)) = some x5 := by kernel_rfl
def g91_15 (S112 : V0 → Int → Option (Int)) (k0 : V0 → V0 → V0 → Int → Int → Int → Option R) (x0 x1 x2 : V0) (x3 x4 : Int) : Option R :=
if 0 ≤ x4 ∧ x4 < (x0.length : Int) then
(S112 x1 x4).bind fun r565 =>
k0 x0 x1 x2 (0 : Int) x4 (IntKind.i64.wrap ((IntKind.i64.wrap ((x0.getD x4.toNat (0 : Int)) - r565)) - x3))
else none
theorem t91_15 (S112) (h112 : (ctr112 S112).holds cl) (x0 x1 x2 x3 x4) : exec cl N c91_15 (e152 x0 x1 x2 x3 x4) K = (g91_15 S112 (fun y0 y1 y2 y3 y4 y5 => exec cl N (.seq c91_13 c91_14) (e154 y0 y1 y2 y3 y4 y5) K) x0 x1 x2 x3 x4) := by
 rw [← put_eq h112]
 kernel_rfl
def g91_8 (k0 : V0 → V0 → V0 → Int → Int → Int → Bool → Option R) (x0 x1 x2 : V0) (x3 x4 x5 : Int) : Option R :=
k0 x0 x1 x2 x3 x4 x5 (decide (x5 < (0 : Int)))
theorem t91_8 (x0 x1 x2 x3 x4 x5) : exec cl N c91_8 (e154 x0 x1 x2 x3 x4 x5) K = (g91_8 (fun y0 y1 y2 y3 y4 y5 y6 => K .normal (e155 y0 y1 y2 y3 y4 y5 y6)) x0 x1 x2 x3 x4 x5) := by
 kernel_rfl
def g91_11 (k0 : V0 → V0 → V0 → Int → Int → Int → Option R) (x0 x1 x2 : V0) (x3 x4 x5 : Int) (x6 : Bool) : Option R :=
k0 x0 x1 x2 (1 : Int) x4 (IntKind.i64.wrap (x5 + (10000 : Int)))
theorem t91_11 (x0 x1 x2 x3 x4 x5 x6) : exec cl N c91_11 (e155 x0 x1 x2 x3 x4 x5 x6) K = (g91_11 (fun y0 y1 y2 y3 y4 y5 => K .normal (e154 y0 y1 y2 y3 y4 y5)) x0 x1 x2 x3 x4 x5 x6) := by
 kernel_rfl
theorem kp91_2 (x0 x1 x2 x3 x4 x5) : keep [0, 1, 5, 6, 7, 8] (e154 x0 x1 x2 x3 x4 x5) = (e154 x0 x1 x2 x3 x4 x5) := by kernel_rfl
theorem kp91_3 (x0 x1 x2 x3 x4 x5 x6) : keep [0, 1, 5, 6, 7, 8] (e155 x0 x1 x2 x3 x4 x5 x6) = (e154 x0 x1 x2 x3 x4 x5) := by kernel_rfl
theorem hb91_1 (x0 x1 x2 x3 x4 x5 x6) : boolOf? (ent (e155 x0 x1 x2 x3 x4 x5 x6) (.t 26)) = some x6 := by kernel_rfl
def g91_13 (k0 : V0 → V0 → V0 → Int → Int → Int → Option R) (x0 x1 x2 : V0) (x3 x4 x5 : Int) : Option R :=
(g91_8 (fun y0 y1 y2 y3 y4 y5 y6 => brB y6 (g91_11 k0 y0 y1 y2 y3 y4 y5 y6) (k0 y0 y1 y2 y3 y4 y5)) x0 x1 x2 x3 x4 x5)
theorem t91_13 (x0 x1 x2 x3 x4 x5) : exec cl N c91_13 (e154 x0 x1 x2 x3 x4 x5) K = (g91_13 (fun y0 y1 y2 y3 y4 y5 => K .normal (e154 y0 y1 y2 y3 y4 y5)) x0 x1 x2 x3 x4 x5) := by
 simp only [c91_13, exec_seq, seqK_normal, seqK_exit, seqK_ret, t91_8, c91_12, exec_out, exec_cond', hb91_1, Option.bind_some, brB_true, brB_false, t91_11, exec_skip, kp91_2, kp91_3]
 rfl
def g91_14 (k0 : V0 → V0 → V0 → Int → Int → Option R) (x0 x1 x2 : V0) (x3 x4 x5 : Int) : Option R :=
if x2.length + [x5].length ≤ 17592186044416 then
k0 x0 x1 (x2 ++ [x5]) x3 x4
else none
theorem t91_14 (x0 x1 x2 x3 x4 x5) : exec cl N c91_14 (e154 x0 x1 x2 x3 x4 x5) K = (g91_14 (fun y0 y1 y2 y3 y4 => K .normal (e152 y0 y1 y2 y3 y4)) x0 x1 x2 x3 x4 x5) := by
 kernel_rfl
def g91_17 (k0 : V0 → V0 → V0 → Int → Int → Option R) (x0 x1 x2 : V0) (x3 x4 : Int) : Option R :=
k0 x0 x1 x2 x3 (IntKind.i64.wrap (x4 + (1 : Int)))
theorem t91_17 (x0 x1 x2 x3 x4) : exec cl N c91_17 (e152 x0 x1 x2 x3 x4) K = (g91_17 (fun y0 y1 y2 y3 y4 => K .normal (e152 y0 y1 y2 y3 y4)) x0 x1 x2 x3 x4) := by
 kernel_rfl
def g91_18 (S112 : V0 → Int → Option (Int)) (k0 : V0 → V0 → V0 → Int → Int → Option R) (k1 : V0 → V0 → V0 → Int → Int → Option R) (x0 x1 x2 : V0) (x3 x4 : Int) : Option R :=
(g91_4 (fun y0 y1 y2 y3 y4 y5 => brB y5 ((g91_15 S112 (g91_13 (g91_14 ((g91_17 k0))))) y0 y1 y2 y3 y4) (k1 y0 y1 y2 y3 y4)) x0 x1 x2 x3 x4)
theorem t91_18 (S112) (h112 : (ctr112 S112).holds cl) (x0 x1 x2 x3 x4) : exec cl N c91_18 (e152 x0 x1 x2 x3 x4) K = (g91_18 S112 (fun y0 y1 y2 y3 y4 => K .normal (e152 y0 y1 y2 y3 y4)) (fun y0 y1 y2 y3 y4 => K (.exit 0) (e152 y0 y1 y2 y3 y4)) x0 x1 x2 x3 x4) := by
 simp only [c91_18, exec_seq, seqK_normal, seqK_exit, seqK_ret, t91_4, c91_5, exec_out, exec_cond', hb91_0, Option.bind_some, brB_true, brB_false, exec_skip, exec_exit, kp91_1, c91_16, exec_block, t91_15 S112 h112, t91_13, t91_14, blockK_normal, blockK_ret, blockK_eq, kp91_0, t91_17]
 rfl
def l91_19 {R : Type} (S112 : V0 → Int → Option (Int)) (k0 : V0 → V0 → V0 → Int → Int → Option R) : Nat → V0 → V0 → V0 → Int → Int → Option R
 | 0, _, _, _, _, _ => none
 | m + 1, x0, x1, x2, x3, x4 => (g91_18 S112 (l91_19 S112 k0 m) k0 x0 x1 x2 x3 x4)
theorem lt91_19 (S112) (h112 : (ctr112 S112).holds cl) : ∀ (m) (x0 x1 x2 x3 x4), iter [0, 1, 5, 6, 7] (fun env K => exec cl N c91_18 env K) K m (e152 x0 x1 x2 x3 x4) = l91_19 S112 (fun y0 y1 y2 y3 y4 => K (.exit 0) (e152 y0 y1 y2 y3 y4)) m x0 x1 x2 x3 x4 := by
 intro m
 induction m with
 | zero => intros; rfl
 | succ m ih =>
   intro x0 x1 x2 x3 x4
   simp only [iter_succ, t91_18 S112 h112, loopK_normal, loopK_exit, loopK_ret, kp91_0, ih]
   rfl
theorem kp91_4 (x0 x1 x2 x3 x4) : keep [5] (e152 x0 x1 x2 x3 x4) = (e25 x2) := by kernel_rfl
def g91_19 (N : Nat) (S112 : V0 → Int → Option (Int)) (k0 : V0 → Option R) (x0 x1 x2 : V0) (x3 x4 : Int) : Option R :=
l91_19 S112 (fun y0 y1 y2 y3 y4 => k0 y2) N x0 x1 x2 x3 x4
theorem t91_19 (S112) (h112 : (ctr112 S112).holds cl) (x0 x1 x2 x3 x4) : exec cl N c91_19 (e152 x0 x1 x2 x3 x4) K = (g91_19 N S112 (fun y0 => K (.exit 0) (e25 y0)) x0 x1 x2 x3 x4) := by
 simp only [c91_19, exec_out, exec_loop, kp91_0, lt91_19 S112 h112, kp91_4]
 rfl
theorem kp91_5 (x0) : keep [5] (e25 x0) = (e25 x0) := by kernel_rfl
def g91_21 (S113 : V0 → Option V1) (k0 : V0 → Option R) (x0 : V0) : Option R :=
(S113 x0).bind fun r572 =>
k0 r572
theorem t91_21 (S113) (h113 : (ctr113 S113).holds cl) (x0) : exec cl N c91_21 (e25 x0) K = (g91_21 S113 (fun y0 => K .normal [(4, .v U2 y0)]) x0) := by
 rw [← put_eq h113]
 kernel_rfl
def g91_22b (N : Nat) (S112 : V0 → Int → Option (Int)) (S113 : V0 → Option V1) (k0 : V0 → Option R) (x0 x1 : V0) : Option R :=
(g91_22 (g91_3 (g91_19 N S112 ((g91_21 S113 k0)))) x0 x1)
theorem t91_22b (S112) (S113) (h112 : (ctr112 S112).holds cl) (h113 : (ctr113 S113).holds cl) (x0 x1) : exec cl N c91_22 (e17 x0 x1) K = (g91_22b N S112 S113 (fun y0 => K .ret [(4, .v U2 y0)]) x0 x1) := by
 simp only [exec_seq, seqK_normal, seqK_exit, seqK_ret, t91_22, t91_3, c91_20, exec_out, exec_block, t91_19 S112 h112, blockK_normal, blockK_ret, blockK_eq, kp91_5, t91_21 S113 h113, exec_ret]
 rfl
theorem rk91_0 (y0) : retK d91 .ret [(4, .v U2 y0)] = some [.v U2 y0] := by kernel_rfl
def g91 (N : Nat) (S112 : V0 → Int → Option (Int)) (S113 : V0 → Option V1) (x0 x1 : V0) (k : V0 → Option R) : Option R :=
(g91_22b N S112 S113 k x0 x1)
theorem gen91 (S112) (S113) (h112 : (ctr112 S112).holds cl) (h113 : (ctr113 S113).holds cl) (x0 x1) (k : List E → Option R) : exec cl N c91 (e17 x0 x1) (fun e env => (retK d91 e env).bind k) = g91 N S112 S113 x0 x1 (fun r0 => k [.v U2 r0]) := by
 simp only [c91, t91_22b S112 S113 h112 h113, rk91_0, Option.bind_some]
 rfl
def ctr91 (S : V0 → V0 → Option V1) : Ctr := cv2 91 U2 U2 S fun b => [.v U2 b]
def S91 (N : Nat) (x0 : V0) (x1 : V0) : Option V1 := g91 N (S112 N) (S113 N) x0 x1 (fun (r0 : V0) => some (r0))
def g89_16 (k0 : V0 → V0 → V0 → Int → Option R) (x0 x1 : V0) : Option R :=
k0 x0 x1 [] (0 : Int)
theorem t89_16 (x0 x1) : exec cl N c89_16 (e17 x0 x1) K = (g89_16 (fun y0 y1 y2 y3 => exec cl N (.seq (.seq c89_3 c89_14) (.seq c89_15 .ret)) (e151 y0 y1 y2 y3) K) x0 x1) := by
 kernel_rfl
def g89_3 (k0 : V0 → V0 → V0 → Int → Int → Option R) (x0 x1 x2 : V0) (x3 : Int) : Option R :=
k0 x0 x1 x2 x3 (0 : Int)
theorem t89_3 (x0 x1 x2 x3) : exec cl N c89_3 (e151 x0 x1 x2 x3) K = (g89_3 (fun y0 y1 y2 y3 y4 => K .normal (e152 y0 y1 y2 y3 y4)) x0 x1 x2 x3) := by
 kernel_rfl
theorem kp89_0 (x0 x1 x2 x3 x4) : keep [0, 1, 5, 6, 7] (e152 x0 x1 x2 x3 x4) = (e152 x0 x1 x2 x3 x4) := by kernel_rfl
def g89_4 (k0 : V0 → V0 → V0 → Int → Int → Bool → Option R) (x0 x1 x2 : V0) (x3 x4 : Int) : Option R :=
brB (decide (x4 < (x0.length : Int))) (k0 x0 x1 x2 x3 x4 true) (k0 x0 x1 x2 x3 x4 (decide (x4 < (x1.length : Int))))
theorem t89_4 (x0 x1 x2 x3 x4) : exec cl N c89_4 (e152 x0 x1 x2 x3 x4) K = (g89_4 (fun y0 y1 y2 y3 y4 y5 => K .normal (e156 y0 y1 y2 y3 y4 y5)) x0 x1 x2 x3 x4) := by
 kernel_rfl
theorem kp89_1 (x0 x1 x2 x3 x4 x5) : keep [0, 1, 5, 6, 7] (e156 x0 x1 x2 x3 x4 x5) = (e152 x0 x1 x2 x3 x4) := by kernel_rfl
theorem hb89_0 (x0 x1 x2 x3 x4 x5) : boolOf? (ent (e156 x0 x1 x2 x3 x4 x5) (.t 18)) = some x5 := by kernel_rfl
def g89_9 (S112 : V0 → Int → Option (Int)) (k0 : V0 → V0 → V0 → Int → Int → Option R) (x0 x1 x2 : V0) (x3 x4 : Int) : Option R :=
(S112 x0 x4).bind fun r606 =>
(S112 x1 x4).bind fun r607 =>
let v609 : Int := (IntKind.i64.wrap ((IntKind.i64.wrap (r606 + r607)) + x3))
let v610 : Int := (Int.tmod v609 (10000 : Int))
if x2.length + [v610].length ≤ 17592186044416 then
k0 x0 x1 (x2 ++ [v610]) (IntKind.i64.wrap (Int.tdiv v609 (10000 : Int))) x4
else none
theorem t89_9 (S112) (h112 : (ctr112 S112).holds cl) (x0 x1 x2 x3 x4) : exec cl N c89_9 (e152 x0 x1 x2 x3 x4) K = (g89_9 S112 (fun y0 y1 y2 y3 y4 => K .normal (e152 y0 y1 y2 y3 y4)) x0 x1 x2 x3 x4) := by
 rw [← put_eq h112]
 kernel_rfl
def g89_11 (k0 : V0 → V0 → V0 → Int → Int → Option R) (x0 x1 x2 : V0) (x3 x4 : Int) : Option R :=
k0 x0 x1 x2 x3 (IntKind.i64.wrap (x4 + (1 : Int)))
theorem t89_11 (x0 x1 x2 x3 x4) : exec cl N c89_11 (e152 x0 x1 x2 x3 x4) K = (g89_11 (fun y0 y1 y2 y3 y4 => K .normal (e152 y0 y1 y2 y3 y4)) x0 x1 x2 x3 x4) := by
 kernel_rfl
def g89_12 (S112 : V0 → Int → Option (Int)) (k0 : V0 → V0 → V0 → Int → Int → Option R) (k1 : V0 → V0 → V0 → Int → Int → Option R) (x0 x1 x2 : V0) (x3 x4 : Int) : Option R :=
(g89_4 (fun y0 y1 y2 y3 y4 y5 => brB y5 ((g89_9 S112 ((g89_11 k0))) y0 y1 y2 y3 y4) (k1 y0 y1 y2 y3 y4)) x0 x1 x2 x3 x4)
theorem t89_12 (S112) (h112 : (ctr112 S112).holds cl) (x0 x1 x2 x3 x4) : exec cl N c89_12 (e152 x0 x1 x2 x3 x4) K = (g89_12 S112 (fun y0 y1 y2 y3 y4 => K .normal (e152 y0 y1 y2 y3 y4)) (fun y0 y1 y2 y3 y4 => K (.exit 0) (e152 y0 y1 y2 y3 y4)) x0 x1 x2 x3 x4) := by
 simp only [c89_12, exec_seq, seqK_normal, seqK_exit, seqK_ret, t89_4, c89_5, exec_out, exec_cond', hb89_0, Option.bind_some, brB_true, brB_false, exec_skip, exec_exit, kp89_1, c89_10, exec_block, t89_9 S112 h112, blockK_normal, blockK_ret, blockK_eq, kp89_0, t89_11]
 rfl
def l89_13 {R : Type} (S112 : V0 → Int → Option (Int)) (k0 : V0 → V0 → V0 → Int → Int → Option R) : Nat → V0 → V0 → V0 → Int → Int → Option R
 | 0, _, _, _, _, _ => none
 | m + 1, x0, x1, x2, x3, x4 => (g89_12 S112 (l89_13 S112 k0 m) k0 x0 x1 x2 x3 x4)
theorem lt89_13 (S112) (h112 : (ctr112 S112).holds cl) : ∀ (m) (x0 x1 x2 x3 x4), iter [0, 1, 5, 6, 7] (fun env K => exec cl N c89_12 env K) K m (e152 x0 x1 x2 x3 x4) = l89_13 S112 (fun y0 y1 y2 y3 y4 => K (.exit 0) (e152 y0 y1 y2 y3 y4)) m x0 x1 x2 x3 x4 := by
 intro m
 induction m with
 | zero => intros; rfl
 | succ m ih =>
   intro x0 x1 x2 x3 x4
   simp only [iter_succ, t89_12 S112 h112, loopK_normal, loopK_exit, loopK_ret, kp89_0, ih]
   rfl
theorem kp89_2 (x0 x1 x2 x3 x4) : keep [5, 6] (e152 x0 x1 x2 x3 x4) = (e157 x2 x3) := by kernel_rfl
def g89_13 (N : Nat) (S112 : V0 → Int → Option (Int)) (k0 : V0 → Int → Option R) (x0 x1 x2 : V0) (x3 x4 : Int) : Option R :=
l89_13 S112 (fun y0 y1 y2 y3 y4 => k0 y2 y3) N x0 x1 x2 x3 x4
theorem t89_13 (S112) (h112 : (ctr112 S112).holds cl) (x0 x1 x2 x3 x4) : exec cl N c89_13 (e152 x0 x1 x2 x3 x4) K = (g89_13 N S112 (fun y0 y1 => K (.exit 0) (e157 y0 y1)) x0 x1 x2 x3 x4) := by
 simp only [c89_13, exec_out, exec_loop, kp89_0, lt89_13 S112 h112, kp89_2]
 rfl
theorem kp89_3 (x0 x1) : keep [5, 6] (e157 x0 x1) = (e157 x0 x1) := by kernel_rfl
def g89_15 (S113 : V0 → Option V1) (k0 : V0 → Option R) (x0 : V0) (x1 : Int) : Option R :=
if x0.length + [x1].length ≤ 17592186044416 then
(S113 (x0 ++ [x1])).bind fun r613 =>
k0 r613
else none
theorem t89_15 (S113) (h113 : (ctr113 S113).holds cl) (x0 x1) : exec cl N c89_15 (e157 x0 x1) K = (g89_15 S113 (fun y0 => K .normal [(4, .v U2 y0)]) x0 x1) := by
 rw [← put_eq h113]
 kernel_rfl
def g89_16b (N : Nat) (S112 : V0 → Int → Option (Int)) (S113 : V0 → Option V1) (k0 : V0 → Option R) (x0 x1 : V0) : Option R :=
(g89_16 (g89_3 (g89_13 N S112 ((g89_15 S113 k0)))) x0 x1)
theorem t89_16b (S112) (S113) (h112 : (ctr112 S112).holds cl) (h113 : (ctr113 S113).holds cl) (x0 x1) : exec cl N c89_16 (e17 x0 x1) K = (g89_16b N S112 S113 (fun y0 => K .ret [(4, .v U2 y0)]) x0 x1) := by
 simp only [exec_seq, seqK_normal, seqK_exit, seqK_ret, t89_16, t89_3, c89_14, exec_out, exec_block, t89_13 S112 h112, blockK_normal, blockK_ret, blockK_eq, kp89_3, t89_15 S113 h113, exec_ret]
 rfl
theorem rk89_0 (y0) : retK d89 .ret [(4, .v U2 y0)] = some [.v U2 y0] := by kernel_rfl
def g89 (N : Nat) (S112 : V0 → Int → Option (Int)) (S113 : V0 → Option V1) (x0 x1 : V0) (k : V0 → Option R) : Option R :=
(g89_16b N S112 S113 k x0 x1)
theorem gen89 (S112) (S113) (h112 : (ctr112 S112).holds cl) (h113 : (ctr113 S113).holds cl) (x0 x1) (k : List E → Option R) : exec cl N c89 (e17 x0 x1) (fun e env => (retK d89 e env).bind k) = g89 N S112 S113 x0 x1 (fun r0 => k [.v U2 r0]) := by
 simp only [c89, t89_16b S112 S113 h112 h113, rk89_0, Option.bind_some]
 rfl
def ctr89 (S : V0 → V0 → Option V1) : Ctr := cv2 89 U2 U2 S fun b => [.v U2 b]
def S89 (N : Nat) (x0 : V0) (x1 : V0) : Option V1 := g89 N (S112 N) (S113 N) x0 x1 (fun (r0 : V0) => some (r0))
def g83_0 (k0 : V3 → V3 → V3 → Option R) (x0 x1 : V3) : Option R :=
k0 x0 x1 ([], ())
theorem t83_0 (x0 x1) : exec cl N c83_0 (e52 x0 x1) K = (g83_0 (fun y0 y1 y2 => K .normal (e53 y0 y1 y2)) x0 x1) := by
 kernel_rfl
def g83_1 (S86 : V3 → Option (Bool)) (k0 : V3 → V3 → V3 → Bool → Option R) (x0 x1 x2 : V3) : Option R :=
(S86 x0).bind fun r616 =>
brB (!r616) (k0 x0 x1 x2 true) ((S86 x1).bind fun r617 =>
k0 x0 x1 x2 (!r617))
theorem t83_1 (S86) (h86 : (ctr86 S86).holds cl) (x0 x1 x2) : exec cl N c83_1 (e53 x0 x1 x2) K = (g83_1 S86 (fun y0 y1 y2 y3 => K .normal (e158 y0 y1 y2 y3)) x0 x1 x2) := by
 rw [← put_eq h86]
 kernel_rfl
def g83_2 (k0 : V3 → Int → Option R) (x0 x1 x2 : V3) (x3 : Bool) : Option R :=
k0 ([], ()) (1 : Int)
theorem t83_2 (x0 x1 x2 x3) : exec cl N c83_2 (e158 x0 x1 x2 x3) K = (g83_2 (fun y0 y1 => K .normal (e55 y0 y1)) x0 x1 x2 x3) := by
 kernel_rfl
theorem kp83_0 (x0 x1) : keep [2, 3, 4, 5] (e55 x0 x1) = (e56 x0 x1) := by kernel_rfl
theorem kp83_1 (x0 x1 x2 x3) : keep [2, 3, 4, 5] (e158 x0 x1 x2 x3) = (e57 x0 x1 x2) := by kernel_rfl
theorem hb83_0 (x0 x1 x2 x3) : boolOf? (ent (e158 x0 x1 x2 x3) (.t 18)) = some x3 := by kernel_rfl
def g83_4 (k0 : V3 → V0 → V0 → Option R) (x0 x1 x2 : V3) : Option R :=
k0 x2 x0.1 x1.1
theorem t83_4 (x0 x1 x2) : exec cl N c83_4 (e57 x0 x1 x2) K = (g83_4 (fun y0 y1 y2 => K .normal (e58 y0 y1 y2)) x0 x1 x2) := by
 kernel_rfl
def g83_5 (k0 : V3 → V0 → V0 → Bool → Option R) (x0 : V3) (x1 x2 : V0) : Option R :=
k0 x0 x1 x2 ((x1.length : Int) == (0 : Int))
theorem t83_5 (x0 x1 x2) : exec cl N c83_5 (e58 x0 x1 x2) K = (g83_5 (fun y0 y1 y2 y3 => K .normal (e159 y0 y1 y2 y3)) x0 x1 x2) := by
 kernel_rfl
def g83_6 (k0 : V3 → Int → Option R) (x0 : V3) (x1 x2 : V0) (x3 : Bool) : Option R :=
if ([] : List Int).length + x2.length ≤ 17592186044416 then
k0 ((([] : List Int) ++ x2), ()) (0 : Int)
else none
theorem t83_6 (x0 x1 x2 x3) : exec cl N c83_6 (e159 x0 x1 x2 x3) K = (g83_6 (fun y0 y1 => K .normal (e61 y0 y1)) x0 x1 x2 x3) := by
 kernel_rfl
theorem kp83_2 (x0 x1) : keep [4, 5, 6, 7] (e61 x0 x1) = (e160 x0 x1) := by kernel_rfl
theorem kp83_3 (x0 x1 x2 x3) : keep [4, 5, 6, 7] (e159 x0 x1 x2 x3) = (e161 x0 x1 x2) := by kernel_rfl
theorem hb83_1 (x0 x1 x2 x3) : boolOf? (ent (e159 x0 x1 x2 x3) (.t 26)) = some x3 := by kernel_rfl
def g83_8 (k0 : V3 → V0 → V0 → Int → Option R) (x0 : V3) (x1 x2 : V0) : Option R :=
k0 x0 x1 x2 (0 : Int)
theorem t83_8 (x0 x1 x2) : exec cl N c83_8 (e161 x0 x1 x2) K = (g83_8 (fun y0 y1 y2 y3 => K .normal (e162 y0 y1 y2 y3)) x0 x1 x2) := by
 kernel_rfl
theorem kp83_4 (x0 x1 x2 x3) : keep [4, 6, 7, 8] (e162 x0 x1 x2 x3) = (e162 x0 x1 x2 x3) := by kernel_rfl
def g83_9 (k0 : V3 → V0 → V0 → Int → Bool → Option R) (x0 : V3) (x1 x2 : V0) (x3 : Int) : Option R :=
k0 x0 x1 x2 x3 (decide ((x2.length : Int) > (0 : Int)))
theorem t83_9 (x0 x1 x2 x3) : exec cl N c83_9 (e162 x0 x1 x2 x3) K = (g83_9 (fun y0 y1 y2 y3 y4 => K .normal (e163 y0 y1 y2 y3 y4)) x0 x1 x2 x3) := by
 kernel_rfl
theorem kp83_5 (x0 x1 x2 x3 x4) : keep [4, 6, 7, 8] (e163 x0 x1 x2 x3 x4) = (e162 x0 x1 x2 x3) := by kernel_rfl
theorem hb83_2 (x0 x1 x2 x3 x4) : boolOf? (ent (e163 x0 x1 x2 x3 x4) (.t 33)) = some x4 := by kernel_rfl
def g83_11 (S108 : V0 → Option (Bool)) (k0 : V3 → V0 → V0 → Int → Bool → Option R) (x0 : V3) (x1 x2 : V0) (x3 : Int) : Option R :=
(S108 x1).bind fun r621 =>
brB r621 ((S108 x2).bind fun r622 =>
k0 x0 x1 x2 x3 r622) (k0 x0 x1 x2 x3 false)
theorem t83_11 (S108) (h108 : (ctr108 S108).holds cl) (x0 x1 x2 x3) : exec cl N c83_11 (e162 x0 x1 x2 x3) K = (g83_11 S108 (fun y0 y1 y2 y3 y4 => K .normal (e164 y0 y1 y2 y3 y4)) x0 x1 x2 x3) := by
 rw [← put_eq h108]
 kernel_rfl
def g83_14 (S109 : V0 → Option V1) (k0 : V3 → V0 → V0 → Int → Option R) (x0 : V3) (x1 x2 : V0) (x3 : Int) (x4 : Bool) : Option R :=
(S109 x1).bind fun r625 =>
(S109 x2).bind fun r626 =>
k0 x0 r625 r626 (IntKind.i64.wrap (x3 + (1 : Int)))
theorem t83_14 (S109) (h109 : (ctr109 S109).holds cl) (x0 x1 x2 x3 x4) : exec cl N c83_14 (e164 x0 x1 x2 x3 x4) K = (g83_14 S109 (fun y0 y1 y2 y3 => K .normal (e162 y0 y1 y2 y3)) x0 x1 x2 x3 x4) := by
 rw [← put_eq h109]
 kernel_rfl
def g83_15 (S108 : V0 → Option (Bool)) (k0 : V3 → V0 → V0 → Int → Bool → Option R) (x0 : V3) (x1 x2 : V0) (x3 : Int) (x4 : Bool) : Option R :=
(S108 x1).bind fun r628 =>
k0 x0 x1 x2 x3 r628
theorem t83_15 (S108) (h108 : (ctr108 S108).holds cl) (x0 x1 x2 x3 x4) : exec cl N c83_15 (e164 x0 x1 x2 x3 x4) K = (g83_15 S108 (fun y0 y1 y2 y3 y4 => K .normal (e165 y0 y1 y2 y3 y4)) x0 x1 x2 x3 x4) := by
 rw [← put_eq h108]
 kernel_rfl
def g83_16 (S109 : V0 → Option V1) (k0 : V3 → V0 → V0 → Int → Option R) (x0 : V3) (x1 x2 : V0) (x3 : Int) (x4 : Bool) : Option R :=
(S109 x1).bind fun r629 =>
k0 x0 r629 x2 x3
theorem t83_16 (S109) (h109 : (ctr109 S109).holds cl) (x0 x1 x2 x3 x4) : exec cl N c83_16 (e165 x0 x1 x2 x3 x4) K = (g83_16 S109 (fun y0 y1 y2 y3 => K .normal (e162 y0 y1 y2 y3)) x0 x1 x2 x3 x4) := by
 rw [← put_eq h109]
 kernel_rfl
def g83_17 (S108 : V0 → Option (Bool)) (k0 : V3 → V0 → V0 → Int → Bool → Option R) (x0 : V3) (x1 x2 : V0) (x3 : Int) (x4 : Bool) : Option R :=
(S108 x2).bind fun r630 =>
k0 x0 x1 x2 x3 r630
theorem t83_17 (S108) (h108 : (ctr108 S108).holds cl) (x0 x1 x2 x3 x4) : exec cl N c83_17 (e165 x0 x1 x2 x3 x4) K = (g83_17 S108 (fun y0 y1 y2 y3 y4 => K .normal (e166 y0 y1 y2 y3 y4)) x0 x1 x2 x3 x4) := by
 rw [← put_eq h108]
 kernel_rfl
def g83_18 (S109 : V0 → Option V1) (k0 : V3 → V0 → V0 → Int → Option R) (x0 : V3) (x1 x2 : V0) (x3 : Int) (x4 : Bool) : Option R :=
(S109 x2).bind fun r631 =>
k0 x0 x1 r631 x3
theorem t83_18 (S109) (h109 : (ctr109 S109).holds cl) (x0 x1 x2 x3 x4) : exec cl N c83_18 (e166 x0 x1 x2 x3 x4) K = (g83_18 S109 (fun y0 y1 y2 y3 => K .normal (e162 y0 y1 y2 y3)) x0 x1 x2 x3 x4) := by
 rw [← put_eq h109]
 kernel_rfl
def g83_19 (S90 : V0 → V0 → Option (Int)) (k0 : V3 → V0 → V0 → Int → Bool → Option R) (x0 : V3) (x1 x2 : V0) (x3 : Int) (x4 : Bool) : Option R :=
(S90 x1 x2).bind fun r632 =>
k0 x0 x1 x2 x3 (decide (r632 > (0 : Int)))
theorem t83_19 (S90) (h90 : (ctr90 S90).holds cl) (x0 x1 x2 x3 x4) : exec cl N c83_19 (e166 x0 x1 x2 x3 x4) K = (g83_19 S90 (fun y0 y1 y2 y3 y4 => K .normal (e167 y0 y1 y2 y3 y4)) x0 x1 x2 x3 x4) := by
 rw [← put_eq h90]
 kernel_rfl
def g83_20 (S91 : V0 → V0 → Option V1) (k0 : V3 → V0 → V0 → Int → Option R) (x0 : V3) (x1 x2 : V0) (x3 : Int) (x4 : Bool) : Option R :=
(S91 x1 x2).bind fun r634 =>
k0 x0 x2 r634 x3
theorem t83_20 (S91) (h91 : (ctr91 S91).holds cl) (x0 x1 x2 x3 x4) : exec cl N c83_20 (e167 x0 x1 x2 x3 x4) K = (g83_20 S91 (fun y0 y1 y2 y3 => K .normal (e162 y0 y1 y2 y3)) x0 x1 x2 x3 x4) := by
 rw [← put_eq h91]
 kernel_rfl
def g83_21 (S91 : V0 → V0 → Option V1) (k0 : V3 → V0 → V0 → Int → Option R) (x0 : V3) (x1 x2 : V0) (x3 : Int) (x4 : Bool) : Option R :=
(S91 x2 x1).bind fun r635 =>
k0 x0 x1 r635 x3
theorem t83_21 (S91) (h91 : (ctr91 S91).holds cl) (x0 x1 x2 x3 x4) : exec cl N c83_21 (e167 x0 x1 x2 x3 x4) K = (g83_21 S91 (fun y0 y1 y2 y3 => K .normal (e162 y0 y1 y2 y3)) x0 x1 x2 x3 x4) := by
 rw [← put_eq h91]
 kernel_rfl
theorem hb83_3 (x0 x1 x2 x3 x4) : boolOf? (ent (e167 x0 x1 x2 x3 x4) (.t 60)) = some x4 := by kernel_rfl
theorem hb83_4 (x0 x1 x2 x3 x4) : boolOf? (ent (e166 x0 x1 x2 x3 x4) (.t 55)) = some x4 := by kernel_rfl
theorem hb83_5 (x0 x1 x2 x3 x4) : boolOf? (ent (e165 x0 x1 x2 x3 x4) (.t 50)) = some x4 := by kernel_rfl
theorem hb83_6 (x0 x1 x2 x3 x4) : boolOf? (ent (e164 x0 x1 x2 x3 x4) (.t 37)) = some x4 := by kernel_rfl
def g83_28 (S90 : V0 → V0 → Option (Int)) (S91 : V0 → V0 → Option V1) (S108 : V0 → Option (Bool)) (S109 : V0 → Option V1) (k0 : V3 → V0 → V0 → Int → Option R) (k1 : V3 → V0 → V0 → Int → Option R) (x0 : V3) (x1 x2 : V0) (x3 : Int) : Option R :=
(g83_9 (fun y0 y1 y2 y3 y4 => brB y4 ((g83_11 S108 (fun y0 y1 y2 y3 y4 => brB y4 (g83_14 S109 k0 y0 y1 y2 y3 y4) (g83_15 S108 (fun y0 y1 y2 y3 y4 => brB y4 (g83_16 S109 k0 y0 y1 y2 y3 y4) (g83_17 S108 (fun y0 y1 y2 y3 y4 => brB y4 (g83_18 S109 k0 y0 y1 y2 y3 y4) (g83_19 S90 (fun y0 y1 y2 y3 y4 => brB y4 (g83_20 S91 k0 y0 y1 y2 y3 y4) (g83_21 S91 k0 y0 y1 y2 y3 y4)) y0 y1 y2 y3 y4)) y0 y1 y2 y3 y4)) y0 y1 y2 y3 y4))) y0 y1 y2 y3) (k1 y0 y1 y2 y3)) x0 x1 x2 x3)
theorem t83_28 (S90) (S91) (S108) (S109) (h90 : (ctr90 S90).holds cl) (h91 : (ctr91 S91).holds cl) (h108 : (ctr108 S108).holds cl) (h109 : (ctr109 S109).holds cl) (x0 x1 x2 x3) : exec cl N c83_28 (e162 x0 x1 x2 x3) K = (g83_28 S90 S91 S108 S109 (fun y0 y1 y2 y3 => K .normal (e162 y0 y1 y2 y3)) (fun y0 y1 y2 y3 => K (.exit 0) (e162 y0 y1 y2 y3)) x0 x1 x2 x3) := by
 simp only [c83_28, exec_seq, seqK_normal, seqK_exit, seqK_ret, t83_9, c83_10, exec_out, exec_cond', hb83_2, Option.bind_some, brB_true, brB_false, exec_skip, exec_exit, kp83_5, c83_27, exec_block, c83_26, t83_11 S108 h108, c83_25, hb83_6, t83_14 S109 h109, t83_15 S108 h108, c83_24, hb83_5, t83_16 S109 h109, t83_17 S108 h108, c83_23, hb83_4, t83_18 S109 h109, t83_19 S90 h90, c83_22, hb83_3, t83_20 S91 h91, t83_21 S91 h91, kp83_4, blockK_normal, blockK_ret, blockK_eq]
 rfl
def l83_29 {R : Type} (S90 : V0 → V0 → Option (Int)) (S91 : V0 → V0 → Option V1) (S108 : V0 → Option (Bool)) (S109 : V0 → Option V1) (k0 : V3 → V0 → V0 → Int → Option R) : Nat → V3 → V0 → V0 → Int → Option R
 | 0, _, _, _, _ => none
 | m + 1, x0, x1, x2, x3 => (g83_28 S90 S91 S108 S109 (l83_29 S90 S91 S108 S109 k0 m) k0 x0 x1 x2 x3)
theorem lt83_29 (S90) (S91) (S108) (S109) (h90 : (ctr90 S90).holds cl) (h91 : (ctr91 S91).holds cl) (h108 : (ctr108 S108).holds cl) (h109 : (ctr109 S109).holds cl) : ∀ (m) (x0 x1 x2 x3), iter [4, 6, 7, 8] (fun env K => exec cl N c83_28 env K) K m (e162 x0 x1 x2 x3) = l83_29 S90 S91 S108 S109 (fun y0 y1 y2 y3 => K (.exit 0) (e162 y0 y1 y2 y3)) m x0 x1 x2 x3 := by
 intro m
 induction m with
 | zero => intros; rfl
 | succ m ih =>
   intro x0 x1 x2 x3
   simp only [iter_succ, t83_28 S90 S91 S108 S109 h90 h91 h108 h109, loopK_normal, loopK_exit, loopK_ret, kp83_4, ih]
   rfl
theorem kp83_6 (x0 x1 x2 x3) : keep [4, 6, 8] (e162 x0 x1 x2 x3) = (e168 x0 x1 x3) := by kernel_rfl
def g83_29 (N : Nat) (S90 : V0 → V0 → Option (Int)) (S91 : V0 → V0 → Option V1) (S108 : V0 → Option (Bool)) (S109 : V0 → Option V1) (k0 : V3 → V0 → Int → Option R) (x0 : V3) (x1 x2 : V0) (x3 : Int) : Option R :=
l83_29 S90 S91 S108 S109 (fun y0 y1 y2 y3 => k0 y0 y1 y3) N x0 x1 x2 x3
theorem t83_29 (S90) (S91) (S108) (S109) (h90 : (ctr90 S90).holds cl) (h91 : (ctr91 S91).holds cl) (h108 : (ctr108 S108).holds cl) (h109 : (ctr109 S109).holds cl) (x0 x1 x2 x3) : exec cl N c83_29 (e162 x0 x1 x2 x3) K = (g83_29 N S90 S91 S108 S109 (fun y0 y1 y2 => K (.exit 0) (e168 y0 y1 y2)) x0 x1 x2 x3) := by
 simp only [c83_29, exec_out, exec_loop, kp83_4, lt83_29 S90 S91 S108 S109 h90 h91 h108 h109, kp83_6]
 rfl
theorem kp83_7 (x0 x1 x2) : keep [4, 6, 8] (e168 x0 x1 x2) = (e168 x0 x1 x2) := by kernel_rfl
def g83_31 (k0 : V3 → Int → V0 → Option R) (x0 : V3) (x1 : V0) (x2 : Int) : Option R :=
if ([] : List Int).length + x1.length ≤ 17592186044416 then
k0 x0 x2 (([] : List Int) ++ x1)
else none
theorem t83_31 (x0 x1 x2) : exec cl N c83_31 (e168 x0 x1 x2) K = (g83_31 (fun y0 y1 y2 => K .normal (e169 y0 y1 y2)) x0 x1 x2) := by
 kernel_rfl
def g83_32 (k0 : V3 → Int → V0 → Int → Option R) (x0 : V3) (x1 : Int) (x2 : V0) : Option R :=
k0 x0 x1 x2 (0 : Int)
theorem t83_32 (x0 x1 x2) : exec cl N c83_32 (e169 x0 x1 x2) K = (g83_32 (fun y0 y1 y2 y3 => K .normal (e170 y0 y1 y2 y3)) x0 x1 x2) := by
 kernel_rfl
theorem kp83_8 (x0 x1 x2 x3) : keep [4, 8, 9, 10] (e170 x0 x1 x2 x3) = (e170 x0 x1 x2 x3) := by kernel_rfl
def g83_33 (k0 : V3 → Int → V0 → Int → Bool → Option R) (x0 : V3) (x1 : Int) (x2 : V0) (x3 : Int) : Option R :=
k0 x0 x1 x2 x3 (decide (x3 < x1))
theorem t83_33 (x0 x1 x2 x3) : exec cl N c83_33 (e170 x0 x1 x2 x3) K = (g83_33 (fun y0 y1 y2 y3 y4 => K .normal (e171 y0 y1 y2 y3 y4)) x0 x1 x2 x3) := by
 kernel_rfl
theorem kp83_9 (x0 x1 x2 x3 x4) : keep [4, 8, 9, 10] (e171 x0 x1 x2 x3 x4) = (e170 x0 x1 x2 x3) := by kernel_rfl
theorem hb83_7 (x0 x1 x2 x3 x4) : boolOf? (ent (e171 x0 x1 x2 x3 x4) (.t 74)) = some x4 := by kernel_rfl
def g83_35 (S89 : V0 → V0 → Option V1) (k0 : V3 → Int → V0 → Int → Option R) (x0 : V3) (x1 : Int) (x2 : V0) (x3 : Int) : Option R :=
(S89 x2 x2).bind fun r637 =>
k0 x0 x1 r637 x3
theorem t83_35 (S89) (h89 : (ctr89 S89).holds cl) (x0 x1 x2 x3) : exec cl N c83_35 (e170 x0 x1 x2 x3) K = (g83_35 S89 (fun y0 y1 y2 y3 => K .normal (e170 y0 y1 y2 y3)) x0 x1 x2 x3) := by
 rw [← put_eq h89]
 kernel_rfl
def g83_37 (k0 : V3 → Int → V0 → Int → Option R) (x0 : V3) (x1 : Int) (x2 : V0) (x3 : Int) : Option R :=
k0 x0 x1 x2 (IntKind.i64.wrap (x3 + (1 : Int)))
theorem t83_37 (x0 x1 x2 x3) : exec cl N c83_37 (e170 x0 x1 x2 x3) K = (g83_37 (fun y0 y1 y2 y3 => K .normal (e170 y0 y1 y2 y3)) x0 x1 x2 x3) := by
 kernel_rfl
def g83_38 (S89 : V0 → V0 → Option V1) (k0 : V3 → Int → V0 → Int → Option R) (k1 : V3 → Int → V0 → Int → Option R) (x0 : V3) (x1 : Int) (x2 : V0) (x3 : Int) : Option R :=
(g83_33 (fun y0 y1 y2 y3 y4 => brB y4 ((g83_35 S89 ((g83_37 k0))) y0 y1 y2 y3) (k1 y0 y1 y2 y3)) x0 x1 x2 x3)
theorem t83_38 (S89) (h89 : (ctr89 S89).holds cl) (x0 x1 x2 x3) : exec cl N c83_38 (e170 x0 x1 x2 x3) K = (g83_38 S89 (fun y0 y1 y2 y3 => K .normal (e170 y0 y1 y2 y3)) (fun y0 y1 y2 y3 => K (.exit 3) (e170 y0 y1 y2 y3)) x0 x1 x2 x3) := by
 simp only [c83_38, exec_seq, seqK_normal, seqK_exit, seqK_ret, t83_33, c83_34, exec_out, exec_cond', hb83_7, Option.bind_some, brB_true, brB_false, exec_skip, exec_exit, kp83_9, c83_36, exec_block, t83_35 S89 h89, blockK_normal, blockK_ret, blockK_eq, kp83_8, t83_37]
 rfl
def l83_39 {R : Type} (S89 : V0 → V0 → Option V1) (k0 : V3 → Int → V0 → Int → Option R) : Nat → V3 → Int → V0 → Int → Option R
 | 0, _, _, _, _ => none
 | m + 1, x0, x1, x2, x3 => (g83_38 S89 (l83_39 S89 k0 m) k0 x0 x1 x2 x3)
theorem lt83_39 (S89) (h89 : (ctr89 S89).holds cl) : ∀ (m) (x0 x1 x2 x3), iter [4, 8, 9, 10] (fun env K => exec cl N c83_38 env K) K m (e170 x0 x1 x2 x3) = l83_39 S89 (fun y0 y1 y2 y3 => K (.exit 3) (e170 y0 y1 y2 y3)) m x0 x1 x2 x3 := by
 intro m
 induction m with
 | zero => intros; rfl
 | succ m ih =>
   intro x0 x1 x2 x3
   simp only [iter_succ, t83_38 S89 h89, loopK_normal, loopK_exit, loopK_ret, kp83_8, ih]
   rfl
theorem kp83_10 (x0 x1 x2 x3) : keep [4, 9] (e170 x0 x1 x2 x3) = (e172 x0 x2) := by kernel_rfl
def g83_39 (N : Nat) (S89 : V0 → V0 → Option V1) (k0 : V3 → V0 → Option R) (x0 : V3) (x1 : Int) (x2 : V0) (x3 : Int) : Option R :=
l83_39 S89 (fun y0 y1 y2 y3 => k0 y0 y2) N x0 x1 x2 x3
theorem t83_39 (S89) (h89 : (ctr89 S89).holds cl) (x0 x1 x2 x3) : exec cl N c83_39 (e170 x0 x1 x2 x3) K = (g83_39 N S89 (fun y0 y1 => K (.exit 3) (e172 y0 y1)) x0 x1 x2 x3) := by
 simp only [c83_39, exec_out, exec_loop, kp83_8, lt83_39 S89 h89, kp83_10]
 rfl
theorem kp83_11 (x0 x1) : keep [4, 9] (e172 x0 x1) = (e172 x0 x1) := by kernel_rfl
def g83_41 (k0 : V3 → Int → Option R) (x0 : V3) (x1 : V0) : Option R :=
k0 (x1, ()) (0 : Int)
theorem t83_41 (x0 x1) : exec cl N c83_41 (e172 x0 x1) K = (g83_41 (fun y0 y1 => K .normal (e61 y0 y1)) x0 x1) := by
 kernel_rfl
def g83_42 (N : Nat) (S86 : V3 → Option (Bool)) (S89 : V0 → V0 → Option V1) (S90 : V0 → V0 → Option (Int)) (S91 : V0 → V0 → Option V1) (S108 : V0 → Option (Bool)) (S109 : V0 → Option V1) (k0 : V3 → Int → Option R) (k1 : V3 → Int → Option R) (k2 : V3 → Int → Option R) (x0 x1 : V3) : Option R :=
(g83_0 (g83_1 S86 (fun y0 y1 y2 y3 => brB y3 (g83_2 k0 y0 y1 y2 y3) ((g83_4 (g83_5 (fun y0 y1 y2 y3 => brB y3 (g83_6 k1 y0 y1 y2 y3) ((g83_8 (g83_29 N S90 S91 S108 S109 ((g83_31 (g83_32 (g83_39 N S89 ((g83_41 k2)))))))) y0 y1 y2)))) y0 y1 y2))) x0 x1)
theorem t83_42 (S86) (S89) (S90) (S91) (S108) (S109) (h86 : (ctr86 S86).holds cl) (h89 : (ctr89 S89).holds cl) (h90 : (ctr90 S90).holds cl) (h91 : (ctr91 S91).holds cl) (h108 : (ctr108 S108).holds cl) (h109 : (ctr109 S109).holds cl) (x0 x1) : exec cl N c83_42 (e52 x0 x1) K = (g83_42 N S86 S89 S90 S91 S108 S109 (fun y0 y1 => K .ret (e56 y0 y1)) (fun y0 y1 => K .ret (e160 y0 y1)) (fun y0 y1 => K .ret (e61 y0 y1)) x0 x1) := by
 simp only [c83_42, exec_seq, seqK_normal, seqK_exit, seqK_ret, t83_0, t83_1 S86 h86, c83_3, exec_out, exec_cond', hb83_0, Option.bind_some, brB_true, brB_false, t83_2, exec_ret, exec_skip, kp83_0, kp83_1, t83_4, t83_5, c83_7, hb83_1, t83_6, kp83_2, kp83_3, t83_8, c83_30, exec_block, t83_29 S90 S91 S108 S109 h90 h91 h108 h109, blockK_normal, blockK_ret, blockK_eq, kp83_7, t83_31, t83_32, c83_40, t83_39 S89 h89, kp83_11, t83_41]
 rfl
theorem rk83_0 (y0 y1) : retK d83 .ret (e56 y0 y1) = some [.v U4 y0, .v U1 y1] := by kernel_rfl
theorem rk83_1 (y0 y1) : retK d83 .ret (e160 y0 y1) = some [.v U4 y0, .v U1 y1] := by kernel_rfl
theorem rk83_2 (y0 y1) : retK d83 .ret (e61 y0 y1) = some [.v U4 y0, .v U1 y1] := by kernel_rfl
def g83 (N : Nat) (S86 : V3 → Option (Bool)) (S89 : V0 → V0 → Option V1) (S90 : V0 → V0 → Option (Int)) (S91 : V0 → V0 → Option V1) (S108 : V0 → Option (Bool)) (S109 : V0 → Option V1) (x0 x1 : V3) (k : V3 → Int → Option R) : Option R :=
(g83_42 N S86 S89 S90 S91 S108 S109 k k k x0 x1)
theorem gen83 (S86) (S89) (S90) (S91) (S108) (S109) (h86 : (ctr86 S86).holds cl) (h89 : (ctr89 S89).holds cl) (h90 : (ctr90 S90).holds cl) (h91 : (ctr91 S91).holds cl) (h108 : (ctr108 S108).holds cl) (h109 : (ctr109 S109).holds cl) (x0 x1) (k : List E → Option R) : exec cl N c83 (e52 x0 x1) (fun e env => (retK d83 e env).bind k) = g83 N S86 S89 S90 S91 S108 S109 x0 x1 (fun r0 r1 => k [.v U4 r0, .v U1 r1]) := by
 simp only [c83, t83_42 S86 S89 S90 S91 S108 S109 h86 h89 h90 h91 h108 h109, rk83_0, rk83_1, rk83_2, Option.bind_some]
 rfl
def ctr83 (S : V3 → V3 → Option V7) : Ctr := cv2 83 U4 U4 S fun b => [.v U4 b.1, .v U1 b.2]
def S83 (N : Nat) (x0 : V3) (x1 : V3) : Option V7 := g83 N (S86 N) (S89 N) (S90 N) (S91 N) (S108 N) (S109 N) x0 x1 (fun (r0 : V3) (r1 : Int) => some (r0, r1))
def g111_0 (k0 : Int → V3 → Option R) (x0 : Int) : Option R :=
k0 x0 ([], ())
theorem t111_0 (x0) : exec cl N c111_0 [(0, .v U1 x0)] K = (g111_0 (fun y0 y1 => K .normal (e62 y0 y1)) x0) := by
 kernel_rfl
def g111_1 (k0 : Int → V3 → Bool → Option R) (x0 : Int) (x1 : V3) : Option R :=
k0 x0 x1 (decide (x0 < (0 : Int)))
theorem t111_1 (x0 x1) : exec cl N c111_1 (e62 x0 x1) K = (g111_1 (fun y0 y1 y2 => K .normal (e63 y0 y1 y2)) x0 x1) := by
 kernel_rfl
def g111_2 (k0 : V3 → Int → Option R) (x0 : Int) (x1 : V3) (x2 : Bool) : Option R :=
k0 ([], ()) (6 : Int)
theorem t111_2 (x0 x1 x2) : exec cl N c111_2 (e63 x0 x1 x2) K = (g111_2 (fun y0 y1 => K .normal (e64 y0 y1)) x0 x1 x2) := by
 kernel_rfl
theorem kp111_0 (x0 x1) : keep [0, 2, 3] (e64 x0 x1) = (e65 x0 x1) := by kernel_rfl
theorem kp111_1 (x0 x1 x2) : keep [0, 2, 3] (e63 x0 x1 x2) = (e66 x0 x1) := by kernel_rfl
theorem hb111_0 (x0 x1 x2) : boolOf? (ent (e63 x0 x1 x2) (.t 6)) = some x2 := by kernel_rfl
def g111_4 (k0 : Int → V3 → V0 → Option R) (x0 : Int) (x1 : V3) : Option R :=
k0 x0 x1 []
theorem t111_4 (x0 x1) : exec cl N c111_4 (e66 x0 x1) K = (g111_4 (fun y0 y1 y2 => K .normal (e67 y0 y1 y2)) x0 x1) := by
 kernel_rfl
theorem kp111_2 (x0 x1 x2) : keep [0, 2, 4] (e67 x0 x1 x2) = (e67 x0 x1 x2) := by kernel_rfl
def g111_5 (k0 : Int → V3 → V0 → Bool → Option R) (x0 : Int) (x1 : V3) (x2 : V0) : Option R :=
k0 x0 x1 x2 (decide (x0 > (0 : Int)))
theorem t111_5 (x0 x1 x2) : exec cl N c111_5 (e67 x0 x1 x2) K = (g111_5 (fun y0 y1 y2 y3 => K .normal (e68 y0 y1 y2 y3)) x0 x1 x2) := by
 kernel_rfl
theorem kp111_3 (x0 x1 x2 x3) : keep [0, 2, 4] (e68 x0 x1 x2 x3) = (e67 x0 x1 x2) := by kernel_rfl
theorem hb111_1 (x0 x1 x2 x3) : boolOf? (ent (e68 x0 x1 x2 x3) (.t 9)) = some x3 := by kernel_rfl
def g111_9 (k0 : Int → V3 → V0 → Option R) (x0 : Int) (x1 : V3) (x2 : V0) : Option R :=
let v650 : Int := (Int.tmod x0 (10000 : Int))
if x2.length + [v650].length ≤ 17592186044416 then
k0 (IntKind.i64.wrap (Int.tdiv x0 (10000 : Int))) x1 (x2 ++ [v650])
else none
theorem t111_9 (x0 x1 x2) : exec cl N c111_9 (e67 x0 x1 x2) K = (g111_9 (fun y0 y1 y2 => K .normal (e67 y0 y1 y2)) x0 x1 x2) := by
 kernel_rfl
def g111_11 (k0 : Int → V3 → V0 → Option R) (k1 : Int → V3 → V0 → Option R) (x0 : Int) (x1 : V3) (x2 : V0) : Option R :=
(g111_5 (fun y0 y1 y2 y3 => brB y3 ((g111_9 k0) y0 y1 y2) (k1 y0 y1 y2)) x0 x1 x2)
theorem t111_11 (x0 x1 x2) : exec cl N c111_11 (e67 x0 x1 x2) K = (g111_11 (fun y0 y1 y2 => K .normal (e67 y0 y1 y2)) (fun y0 y1 y2 => K (.exit 0) (e67 y0 y1 y2)) x0 x1 x2) := by
 simp only [c111_11, exec_seq, seqK_normal, seqK_exit, seqK_ret, t111_5, c111_6, exec_out, exec_cond', hb111_1, Option.bind_some, brB_true, brB_false, exec_skip, exec_exit, kp111_3, c111_10, exec_block, t111_9, blockK_normal, blockK_ret, blockK_eq, kp111_2]
 rfl
def l111_12 {R : Type} (k0 : Int → V3 → V0 → Option R) : Nat → Int → V3 → V0 → Option R
 | 0, _, _, _ => none
 | m + 1, x0, x1, x2 => (g111_11 (l111_12 k0 m) k0 x0 x1 x2)
theorem lt111_12 : ∀ (m) (x0 x1 x2), iter [0, 2, 4] (fun env K => exec cl N c111_11 env K) K m (e67 x0 x1 x2) = l111_12 (fun y0 y1 y2 => K (.exit 0) (e67 y0 y1 y2)) m x0 x1 x2 := by
 intro m
 induction m with
 | zero => intros; rfl
 | succ m ih =>
   intro x0 x1 x2
   simp only [iter_succ, t111_11, loopK_normal, loopK_exit, loopK_ret, kp111_2, ih]
   rfl
theorem kp111_4 (x0 x1 x2) : keep [2, 4] (e67 x0 x1 x2) = (e69 x1 x2) := by kernel_rfl
def g111_12 (N : Nat) (k0 : V3 → V0 → Option R) (x0 : Int) (x1 : V3) (x2 : V0) : Option R :=
l111_12 (fun y0 y1 y2 => k0 y1 y2) N x0 x1 x2
theorem t111_12 (x0 x1 x2) : exec cl N c111_12 (e67 x0 x1 x2) K = (g111_12 N (fun y0 y1 => K (.exit 0) (e69 y0 y1)) x0 x1 x2) := by
 simp only [c111_12, exec_out, exec_loop, kp111_2, lt111_12, kp111_4]
 rfl
theorem kp111_5 (x0 x1) : keep [2, 4] (e69 x0 x1) = (e69 x0 x1) := by kernel_rfl
def g111_14 (k0 : V3 → Int → Option R) (x0 : V3) (x1 : V0) : Option R :=
k0 (x1, ()) (0 : Int)
theorem t111_14 (x0 x1) : exec cl N c111_14 (e69 x0 x1) K = (g111_14 (fun y0 y1 => K .normal (e70 y0 y1)) x0 x1) := by
 kernel_rfl
def g111_15 (N : Nat) (k0 : V3 → Int → Option R) (k1 : V3 → Int → Option R) (x0 : Int) : Option R :=
(g111_0 (g111_1 (fun y0 y1 y2 => brB y2 (g111_2 k0 y0 y1 y2) ((g111_4 (g111_12 N ((g111_14 k1)))) y0 y1))) x0)
theorem t111_15 (x0) : exec cl N c111_15 [(0, .v U1 x0)] K = (g111_15 N (fun y0 y1 => K .ret (e65 y0 y1)) (fun y0 y1 => K .ret (e70 y0 y1)) x0) := by
 simp only [c111_15, exec_seq, seqK_normal, seqK_exit, seqK_ret, t111_0, t111_1, c111_3, exec_out, exec_cond', hb111_0, Option.bind_some, brB_true, brB_false, t111_2, exec_ret, exec_skip, kp111_0, kp111_1, t111_4, c111_13, exec_block, t111_12, blockK_normal, blockK_ret, blockK_eq, kp111_5, t111_14]
 rfl
theorem rk111_0 (y0 y1) : retK d111 .ret (e65 y0 y1) = some [.v U4 y0, .v U1 y1] := by kernel_rfl
theorem rk111_1 (y0 y1) : retK d111 .ret (e70 y0 y1) = some [.v U4 y0, .v U1 y1] := by kernel_rfl
def g111 (N : Nat) (x0 : Int) (k : V3 → Int → Option R) : Option R :=
(g111_15 N k k x0)
theorem gen111 (x0) (k : List E → Option R) : exec cl N c111 [(0, .v U1 x0)] (fun e env => (retK d111 e env).bind k) = g111 N x0 (fun r0 r1 => k [.v U4 r0, .v U1 r1]) := by
 simp only [c111, t111_15, rk111_0, rk111_1, Option.bind_some]
 rfl
def ctr111 (S : Int → Option V7) : Ctr := cv1 111 U1 S fun b => [.v U4 b.1, .v U1 b.2]
def S111 (N : Nat) (x0 : Int) : Option V7 := g111 N x0 (fun (r0 : V3) (r1 : Int) => some (r0, r1))
def g85_3 (S111 : Int → Option V7) (k0 : V3 → Option R) (x0 : Int) : Option R :=
(S111 x0).bind fun r655 =>
k0 r655.1
theorem t85_3 (S111) (h111 : (ctr111 S111).holds cl) (x0) : exec cl N c85_3 [(0, .v U1 x0)] K = (g85_3 S111 (fun y0 => exec cl N .ret [(2, .loc U4 .no y0)] K) x0) := by
 rw [← put_eq h111]
 kernel_rfl
def g85_3b (S111 : Int → Option V7) (k0 : V3 → Option R) (x0 : Int) : Option R :=
(g85_3 S111 k0 x0)
theorem t85_3b (S111) (h111 : (ctr111 S111).holds cl) (x0) : exec cl N c85_3 [(0, .v U1 x0)] K = (g85_3b S111 (fun y0 => K .ret [(2, .loc U4 .no y0)]) x0) := by
 simp only [exec_seq, seqK_normal, seqK_exit, seqK_ret, t85_3 S111 h111, exec_ret]
 rfl
theorem rk85_0 (y0) : retK d85 .ret [(2, .loc U4 .no y0)] = some [.v U4 y0] := by kernel_rfl
def g85 (S111 : Int → Option V7) (x0 : Int) (k : V3 → Option R) : Option R :=
(g85_3b S111 k x0)
theorem gen85 (S111) (h111 : (ctr111 S111).holds cl) (x0) (k : List E → Option R) : exec cl N c85 [(0, .v U1 x0)] (fun e env => (retK d85 e env).bind k) = g85 S111 x0 (fun r0 => k [.v U4 r0]) := by
 simp only [c85, t85_3b S111 h111, rk85_0, Option.bind_some]
 rfl
def ctr85 (S : Int → Option V4) : Ctr := cv1 85 U1 S fun b => [.v U4 b]
def S85 (N : Nat) (x0 : Int) : Option V4 := g85 (S111 N) x0 (fun (r0 : V3) => some (r0))
def g53_2 (S85 : Int → Option V4) (k0 : V3 → Option R) (x0 : Int) : Option R :=
(S85 (if (0 : Int) > x0 then (0 : Int) else x0)).bind fun r658 =>
k0 r658
theorem t53_2 (S85) (h85 : (ctr85 S85).holds cl) (x0) : exec cl N c53_2 [(0, .v U1 x0)] K = (g53_2 S85 (fun y0 => exec cl N .ret [(2, .loc U4 .no y0)] K) x0) := by
 rw [← put_eq h85]
 kernel_rfl
def g53_2b (S85 : Int → Option V4) (k0 : V3 → Option R) (x0 : Int) : Option R :=
(g53_2 S85 k0 x0)
theorem t53_2b (S85) (h85 : (ctr85 S85).holds cl) (x0) : exec cl N c53_2 [(0, .v U1 x0)] K = (g53_2b S85 (fun y0 => K .ret [(2, .loc U4 .no y0)]) x0) := by
 simp only [exec_seq, seqK_normal, seqK_exit, seqK_ret, t53_2 S85 h85, exec_ret]
 rfl
theorem rk53_0 (y0) : retK d53 .ret [(2, .loc U4 .no y0)] = some [.v U4 y0] := by kernel_rfl
def g53 (S85 : Int → Option V4) (x0 : Int) (k : V3 → Option R) : Option R :=
(g53_2b S85 k x0)
theorem gen53 (S85) (h85 : (ctr85 S85).holds cl) (x0) (k : List E → Option R) : exec cl N c53 [(0, .v U1 x0)] (fun e env => (retK d53 e env).bind k) = g53 S85 x0 (fun r0 => k [.v U4 r0]) := by
 simp only [c53, t53_2b S85 h85, rk53_0, Option.bind_some]
 rfl
def ctr53 (S : Int → Option V4) : Ctr := cv1 53 U1 S fun b => [.v U4 b]
def S53 (N : Nat) (x0 : Int) : Option V4 := g53 (S85 N) x0 (fun (r0 : V3) => some (r0))
def g60_2 (S90 : V0 → V0 → Option (Int)) (k0 : Int → Option R) (x0 x1 : V3) : Option R :=
(S90 x0.1 x1.1).bind fun r661 =>
k0 r661
theorem t60_2 (S90) (h90 : (ctr90 S90).holds cl) (x0 x1) : exec cl N c60_2 (e52 x0 x1) K = (g60_2 S90 (fun y0 => exec cl N .ret [(4, .v U1 y0)] K) x0 x1) := by
 rw [← put_eq h90]
 kernel_rfl
def g60_2b (S90 : V0 → V0 → Option (Int)) (k0 : Int → Option R) (x0 x1 : V3) : Option R :=
(g60_2 S90 k0 x0 x1)
theorem t60_2b (S90) (h90 : (ctr90 S90).holds cl) (x0 x1) : exec cl N c60_2 (e52 x0 x1) K = (g60_2b S90 (fun y0 => K .ret [(4, .v U1 y0)]) x0 x1) := by
 simp only [exec_seq, seqK_normal, seqK_exit, seqK_ret, t60_2 S90 h90, exec_ret]
 rfl
theorem rk60_0 (y0) : retK d60 .ret [(4, .v U1 y0)] = some [.v U1 y0] := by kernel_rfl
def g60 (S90 : V0 → V0 → Option (Int)) (x0 x1 : V3) (k : Int → Option R) : Option R :=
(g60_2b S90 k x0 x1)
theorem gen60 (S90) (h90 : (ctr90 S90).holds cl) (x0 x1) (k : List E → Option R) : exec cl N c60 (e52 x0 x1) (fun e env => (retK d60 e env).bind k) = g60 S90 x0 x1 (fun r0 => k [.v U1 r0]) := by
 simp only [c60, t60_2b S90 h90, rk60_0, Option.bind_some]
 rfl
def ctr60 (S : V3 → V3 → Option (Int)) : Ctr := cv2 60 U4 U4 S fun b => [.v U1 b]
def S60 (N : Nat) (x0 : V3) (x1 : V3) : Option (Int) := g60 (S90 N) x0 x1 (fun (r0 : Int) => some (r0))
def g51_2 (S60 : V3 → V3 → Option (Int)) (k0 : Bool → Option R) (x0 x1 : V3) : Option R :=
(S60 x0 x1).bind fun r664 =>
k0 (r664 == (0 : Int))
theorem t51_2 (S60) (h60 : (ctr60 S60).holds cl) (x0 x1) : exec cl N c51_2 (e52 x0 x1) K = (g51_2 S60 (fun y0 => exec cl N .ret [(4, .v .bool y0)] K) x0 x1) := by
 rw [← put_eq h60]
 kernel_rfl
def g51_2b (S60 : V3 → V3 → Option (Int)) (k0 : Bool → Option R) (x0 x1 : V3) : Option R :=
(g51_2 S60 k0 x0 x1)
theorem t51_2b (S60) (h60 : (ctr60 S60).holds cl) (x0 x1) : exec cl N c51_2 (e52 x0 x1) K = (g51_2b S60 (fun y0 => K .ret [(4, .v .bool y0)]) x0 x1) := by
 simp only [exec_seq, seqK_normal, seqK_exit, seqK_ret, t51_2 S60 h60, exec_ret]
 rfl
theorem rk51_0 (y0) : retK d51 .ret [(4, .v .bool y0)] = some [.v .bool y0] := by kernel_rfl
def g51 (S60 : V3 → V3 → Option (Int)) (x0 x1 : V3) (k : Bool → Option R) : Option R :=
(g51_2b S60 k x0 x1)
theorem gen51 (S60) (h60 : (ctr60 S60).holds cl) (x0 x1) (k : List E → Option R) : exec cl N c51 (e52 x0 x1) (fun e env => (retK d51 e env).bind k) = g51 S60 x0 x1 (fun r0 => k [.v .bool r0]) := by
 simp only [c51, t51_2b S60 h60, rk51_0, Option.bind_some]
 rfl
def ctr51 (S : V3 → V3 → Option (Bool)) : Ctr := cv2 51 U4 U4 S fun b => [.v .bool b]
def S51 (N : Nat) (x0 : V3) (x1 : V3) : Option (Bool) := g51 (S60 N) x0 x1 (fun (r0 : Bool) => some (r0))
def g54_0 (k0 : V12 → Option R) (x0 : V12) : Option R :=
k0 x0
theorem t54_0 (x0) : exec cl N c54_0 [(0, .v U9 x0)] K = (g54_0 (fun y0 => K .normal [(1, .loc U9 .no y0)]) x0) := by
 kernel_rfl
def g54_1 (S56 : V3 → Option (Bool)) (S86 : V3 → Option (Bool)) (k0 : V12 → Bool → Option R) (x0 : V12) : Option R :=
(S86 x0.2.1).bind fun r667 =>
brB (!r667) (k0 x0 true) ((S86 x0.2.2.1).bind fun r668 =>
brB (!r668) (k0 x0 true) ((S56 x0.2.2.1).bind fun r669 =>
brB r669 (k0 x0 true) ((S56 x0.2.1).bind fun r670 =>
brB r670 (k0 x0 x0.1) (k0 x0 false))))
theorem t54_1 (S56) (S86) (h56 : (ctr56 S56).holds cl) (h86 : (ctr86 S86).holds cl) (x0) : exec cl N c54_1 [(1, .loc U9 .no x0)] K = (g54_1 S56 S86 (fun y0 y1 => K .normal (e71 y0 y1)) x0) := by
 rw [← put_eq h56]
 rw [← put_eq h86]
 kernel_rfl
def g54_2 (k0 : Bool → Option R) (x0 : V12) (x1 : Bool) : Option R :=
k0 false
theorem t54_2 (x0 x1) : exec cl N c54_2 (e71 x0 x1) K = (g54_2 (fun y0 => K .normal [(2, .v .bool y0)]) x0 x1) := by
 kernel_rfl
theorem kp54_0 (x0) : keep [1, 2] [(2, .v .bool x0)] = (e72 x0) := by kernel_rfl
theorem kp54_1 (x0 x1) : keep [1, 2] (e71 x0 x1) = (e73 x0) := by kernel_rfl
theorem hb54_0 (x0 x1) : boolOf? (ent (e71 x0 x1) (.t 28)) = some x1 := by kernel_rfl
def g54_6 (S51 : V3 → V3 → Option (Bool)) (S53 : Int → Option V4) (S83 : V3 → V3 → Option V7) (k0 : Bool → Option R) (x0 : V12) : Option R :=
(S83 x0.2.1 x0.2.2.1).bind fun r672 =>
(S53 (1 : Int)).bind fun r673 =>
(S51 r672.1 r673).bind fun r674 =>
k0 r674
theorem t54_6 (S51) (S53) (S83) (h51 : (ctr51 S51).holds cl) (h53 : (ctr53 S53).holds cl) (h83 : (ctr83 S83).holds cl) (x0) : exec cl N c54_6 (e73 x0) K = (g54_6 S51 S53 S83 (fun y0 => exec cl N .ret [(2, .v .bool y0)] K) x0) := by
 rw [← put_eq h51]
 rw [← put_eq h53]
 rw [← put_eq h83]
 kernel_rfl
def g54_7 (S51 : V3 → V3 → Option (Bool)) (S53 : Int → Option V4) (S56 : V3 → Option (Bool)) (S83 : V3 → V3 → Option V7) (S86 : V3 → Option (Bool)) (k0 : Bool → Option R) (k1 : Bool → Option R) (x0 : V12) : Option R :=
(g54_0 (g54_1 S56 S86 (fun y0 y1 => brB y1 (g54_2 k0 y0 y1) ((g54_6 S51 S53 S83 k1) y0))) x0)
theorem t54_7 (S51) (S53) (S56) (S83) (S86) (h51 : (ctr51 S51).holds cl) (h53 : (ctr53 S53).holds cl) (h56 : (ctr56 S56).holds cl) (h83 : (ctr83 S83).holds cl) (h86 : (ctr86 S86).holds cl) (x0) : exec cl N c54_7 [(0, .v U9 x0)] K = (g54_7 S51 S53 S56 S83 S86 (fun y0 => K .ret (e72 y0)) (fun y0 => K .ret [(2, .v .bool y0)]) x0) := by
 simp only [c54_7, exec_seq, seqK_normal, seqK_exit, seqK_ret, t54_0, t54_1 S56 S86 h56 h86, c54_3, exec_out, exec_cond', hb54_0, Option.bind_some, brB_true, brB_false, t54_2, exec_ret, exec_skip, kp54_0, kp54_1, t54_6 S51 S53 S83 h51 h53 h83]
 rfl
theorem rk54_0 (y0) : retK d54 .ret (e72 y0) = some [.v .bool y0] := by kernel_rfl
theorem rk54_1 (y0) : retK d54 .ret [(2, .v .bool y0)] = some [.v .bool y0] := by kernel_rfl
def g54 (S51 : V3 → V3 → Option (Bool)) (S53 : Int → Option V4) (S56 : V3 → Option (Bool)) (S83 : V3 → V3 → Option V7) (S86 : V3 → Option (Bool)) (x0 : V12) (k : Bool → Option R) : Option R :=
(g54_7 S51 S53 S56 S83 S86 k k x0)
theorem gen54 (S51) (S53) (S56) (S83) (S86) (h51 : (ctr51 S51).holds cl) (h53 : (ctr53 S53).holds cl) (h56 : (ctr56 S56).holds cl) (h83 : (ctr83 S83).holds cl) (h86 : (ctr86 S86).holds cl) (x0) (k : List E → Option R) : exec cl N c54 [(0, .v U9 x0)] (fun e env => (retK d54 e env).bind k) = g54 S51 S53 S56 S83 S86 x0 (fun r0 => k [.v .bool r0]) := by
 simp only [c54, t54_7 S51 S53 S56 S83 S86 h51 h53 h56 h83 h86, rk54_0, rk54_1, Option.bind_some]
 rfl
def ctr54 (S : V12 → Option (Bool)) : Ctr := cv1 54 U9 S fun b => [.v .bool b]
def S54 (N : Nat) (x0 : V12) : Option (Bool) := g54 (S51 N) (S53 N) (S56 N) (S83 N) (S86 N) x0 (fun (r0 : Bool) => some (r0))
def g88_25 (k0 : V0 → V0 → V0 → Option R) (x0 x1 : V0) : Option R :=
let v740 : Int := (IntKind.i64.wrap ((IntKind.i64.wrap ((x0.length : Int) + (x1.length : Int))) + (1 : Int)))
if 0 ≤ v740 ∧ v740 ≤ v740 ∧ v740 ≤ ((17592186044416 : Nat) : Int) then
k0 x0 x1 (List.replicate v740.toNat (0 : Int))
else none
theorem t88_25 (x0 x1) : exec cl N c88_25 (e17 x0 x1) K = (g88_25 (fun y0 y1 y2 => exec cl N (.seq (.seq c88_2 c88_23) (.seq c88_24 .ret)) (e18 y0 y1 y2) K) x0 x1) := by
 kernel_rfl
def g88_2 (k0 : V0 → V0 → V0 → Int → Option R) (x0 x1 x2 : V0) : Option R :=
k0 x0 x1 x2 (0 : Int)
theorem t88_2 (x0 x1 x2) : exec cl N c88_2 (e18 x0 x1 x2) K = (g88_2 (fun y0 y1 y2 y3 => K .normal (e151 y0 y1 y2 y3)) x0 x1 x2) := by
 kernel_rfl
theorem kp88_0 (x0 x1 x2 x3) : keep [0, 1, 5, 6] (e151 x0 x1 x2 x3) = (e151 x0 x1 x2 x3) := by kernel_rfl
def g88_3 (k0 : V0 → V0 → V0 → Int → Bool → Option R) (x0 x1 x2 : V0) (x3 : Int) : Option R :=
k0 x0 x1 x2 x3 (decide (x3 < (x0.length : Int)))
theorem t88_3 (x0 x1 x2 x3) : exec cl N c88_3 (e151 x0 x1 x2 x3) K = (g88_3 (fun y0 y1 y2 y3 y4 => K .normal (e173 y0 y1 y2 y3 y4)) x0 x1 x2 x3) := by
 kernel_rfl
theorem kp88_1 (x0 x1 x2 x3 x4) : keep [0, 1, 5, 6] (e173 x0 x1 x2 x3 x4) = (e151 x0 x1 x2 x3) := by kernel_rfl
theorem hb88_0 (x0 x1 x2 x3 x4) : boolOf? (ent (e173 x0 x1 x2 x3 x4) (.t 20)) = some x4 := by kernel_rfl
def g88_18 (k0 : V0 → V0 → V0 → Int → Int → Int → Option R) (x0 x1 x2 : V0) (x3 : Int) : Option R :=
k0 x0 x1 x2 x3 (0 : Int) (0 : Int)
theorem t88_18 (x0 x1 x2 x3) : exec cl N c88_18 (e151 x0 x1 x2 x3) K = (g88_18 (fun y0 y1 y2 y3 y4 y5 => exec cl N c88_17 (e154 y0 y1 y2 y3 y4 y5) K) x0 x1 x2 x3) := by
 kernel_rfl
theorem kp88_2 (x0 x1 x2 x3 x4 x5) : keep [0, 1, 5, 6, 7, 8] (e154 x0 x1 x2 x3 x4 x5) = (e154 x0 x1 x2 x3 x4 x5) := by kernel_rfl
def g88_7 (k0 : V0 → V0 → V0 → Int → Int → Int → Bool → Option R) (x0 x1 x2 : V0) (x3 x4 x5 : Int) : Option R :=
brB (decide (x5 < (x1.length : Int))) (k0 x0 x1 x2 x3 x4 x5 true) (k0 x0 x1 x2 x3 x4 x5 (decide (x4 > (0 : Int))))
theorem t88_7 (x0 x1 x2 x3 x4 x5) : exec cl N c88_7 (e154 x0 x1 x2 x3 x4 x5) K = (g88_7 (fun y0 y1 y2 y3 y4 y5 y6 => K .normal (e174 y0 y1 y2 y3 y4 y5 y6)) x0 x1 x2 x3 x4 x5) := by
 kernel_rfl
theorem kp88_3 (x0 x1 x2 x3 x4 x5 x6) : keep [0, 1, 5, 6, 7, 8] (e174 x0 x1 x2 x3 x4 x5 x6) = (e154 x0 x1 x2 x3 x4 x5) := by kernel_rfl
theorem hb88_1 (x0 x1 x2 x3 x4 x5 x6) : boolOf? (ent (e174 x0 x1 x2 x3 x4 x5 x6) (.t 30)) = some x6 := by kernel_rfl
def g88_12 (S112 : V0 → Int → Option (Int)) (k0 : V0 → V0 → V0 → Int → Int → Int → Option R) (x0 x1 x2 : V0) (x3 x4 x5 : Int) : Option R :=
let v758 : Int := (IntKind.i64.wrap (x3 + x5))
if 0 ≤ v758 ∧ v758 < (x2.length : Int) then
if v758.toNat < x2.length then
if 0 ≤ x3 ∧ x3 < (x0.length : Int) then
(S112 x1 x5).bind fun r760 =>
let v763 : Int := (IntKind.i64.wrap ((IntKind.i64.wrap ((x2.getD v758.toNat (0 : Int)) + (IntKind.i64.wrap ((x0.getD x3.toNat (0 : Int)) * r760)))) + x4))
let v764 : Int := (IntKind.i64.wrap (x3 + x5))
if 0 ≤ v764 ∧ v764 < (x2.length : Int) then
if v764.toNat < x2.length then
k0 x0 x1 (x2.set v764.toNat (Int.tmod v763 (10000 : Int))) x3 (IntKind.i64.wrap (Int.tdiv v763 (10000 : Int))) x5
else none
else none
else none
else none
else none
theorem t88_12 (S112) (h112 : (ctr112 S112).holds cl) (x0 x1 x2 x3 x4 x5) : exec cl N c88_12 (e154 x0 x1 x2 x3 x4 x5) K = (g88_12 S112 (fun y0 y1 y2 y3 y4 y5 => K .normal (e154 y0 y1 y2 y3 y4 y5)) x0 x1 x2 x3 x4 x5) := by
 rw [← put_eq h112]
 kernel_rfl
def g88_14 (k0 : V0 → V0 → V0 → Int → Int → Int → Option R) (x0 x1 x2 : V0) (x3 x4 x5 : Int) : Option R :=
k0 x0 x1 x2 x3 x4 (IntKind.i64.wrap (x5 + (1 : Int)))
theorem t88_14 (x0 x1 x2 x3 x4 x5) : exec cl N c88_14 (e154 x0 x1 x2 x3 x4 x5) K = (g88_14 (fun y0 y1 y2 y3 y4 y5 => K .normal (e154 y0 y1 y2 y3 y4 y5)) x0 x1 x2 x3 x4 x5) := by
 kernel_rfl
def g88_15 (S112 : V0 → Int → Option (Int)) (k0 : V0 → V0 → V0 → Int → Int → Int → Option R) (k1 : V0 → V0 → V0 → Int → Int → Int → Option R) (x0 x1 x2 : V0) (x3 x4 x5 : Int) : Option R :=
(g88_7 (fun y0 y1 y2 y3 y4 y5 y6 => brB y6 ((g88_12 S112 ((g88_14 k0))) y0 y1 y2 y3 y4 y5) (k1 y0 y1 y2 y3 y4 y5)) x0 x1 x2 x3 x4 x5)
theorem t88_15 (S112) (h112 : (ctr112 S112).holds cl) (x0 x1 x2 x3 x4 x5) : exec cl N c88_15 (e154 x0 x1 x2 x3 x4 x5) K = (g88_15 S112 (fun y0 y1 y2 y3 y4 y5 => K .normal (e154 y0 y1 y2 y3 y4 y5)) (fun y0 y1 y2 y3 y4 y5 => K (.exit 2) (e154 y0 y1 y2 y3 y4 y5)) x0 x1 x2 x3 x4 x5) := by
 simp only [c88_15, exec_seq, seqK_normal, seqK_exit, seqK_ret, t88_7, c88_8, exec_out, exec_cond', hb88_1, Option.bind_some, brB_true, brB_false, exec_skip, exec_exit, kp88_3, c88_13, exec_block, t88_12 S112 h112, blockK_normal, blockK_ret, blockK_eq, kp88_2, t88_14]
 rfl
def l88_16 {R : Type} (S112 : V0 → Int → Option (Int)) (k0 : V0 → V0 → V0 → Int → Int → Int → Option R) : Nat → V0 → V0 → V0 → Int → Int → Int → Option R
 | 0, _, _, _, _, _, _ => none
 | m + 1, x0, x1, x2, x3, x4, x5 => (g88_15 S112 (l88_16 S112 k0 m) k0 x0 x1 x2 x3 x4 x5)
theorem lt88_16 (S112) (h112 : (ctr112 S112).holds cl) : ∀ (m) (x0 x1 x2 x3 x4 x5), iter [0, 1, 5, 6, 7, 8] (fun env K => exec cl N c88_15 env K) K m (e154 x0 x1 x2 x3 x4 x5) = l88_16 S112 (fun y0 y1 y2 y3 y4 y5 => K (.exit 2) (e154 y0 y1 y2 y3 y4 y5)) m x0 x1 x2 x3 x4 x5 := by
 intro m
 induction m with
 | zero => intros; rfl
 | succ m ih =>
   intro x0 x1 x2 x3 x4 x5
   simp only [iter_succ, t88_15 S112 h112, loopK_normal, loopK_exit, loopK_ret, kp88_2, ih]
   rfl
theorem kp88_4 (x0 x1 x2 x3 x4 x5) : keep [0, 1, 5, 6] (e154 x0 x1 x2 x3 x4 x5) = (e151 x0 x1 x2 x3) := by kernel_rfl
def g88_16 (N : Nat) (S112 : V0 → Int → Option (Int)) (k0 : V0 → V0 → V0 → Int → Option R) (x0 x1 x2 : V0) (x3 x4 x5 : Int) : Option R :=
l88_16 S112 (fun y0 y1 y2 y3 y4 y5 => k0 y0 y1 y2 y3) N x0 x1 x2 x3 x4 x5
theorem t88_16 (S112) (h112 : (ctr112 S112).holds cl) (x0 x1 x2 x3 x4 x5) : exec cl N c88_16 (e154 x0 x1 x2 x3 x4 x5) K = (g88_16 N S112 (fun y0 y1 y2 y3 => K (.exit 2) (e151 y0 y1 y2 y3)) x0 x1 x2 x3 x4 x5) := by
 simp only [c88_16, exec_out, exec_loop, kp88_2, lt88_16 S112 h112, kp88_4]
 rfl
def g88_20 (k0 : V0 → V0 → V0 → Int → Option R) (x0 x1 x2 : V0) (x3 : Int) : Option R :=
k0 x0 x1 x2 (IntKind.i64.wrap (x3 + (1 : Int)))
theorem t88_20 (x0 x1 x2 x3) : exec cl N c88_20 (e151 x0 x1 x2 x3) K = (g88_20 (fun y0 y1 y2 y3 => K .normal (e151 y0 y1 y2 y3)) x0 x1 x2 x3) := by
 kernel_rfl
def g88_21 (N : Nat) (S112 : V0 → Int → Option (Int)) (k0 : V0 → V0 → V0 → Int → Option R) (k1 : V0 → V0 → V0 → Int → Option R) (x0 x1 x2 : V0) (x3 : Int) : Option R :=
(g88_3 (fun y0 y1 y2 y3 y4 => brB y4 ((g88_18 (g88_16 N S112 (((g88_20 k0))))) y0 y1 y2 y3) (k1 y0 y1 y2 y3)) x0 x1 x2 x3)
theorem t88_21 (S112) (h112 : (ctr112 S112).holds cl) (x0 x1 x2 x3) : exec cl N c88_21 (e151 x0 x1 x2 x3) K = (g88_21 N S112 (fun y0 y1 y2 y3 => K .normal (e151 y0 y1 y2 y3)) (fun y0 y1 y2 y3 => K (.exit 0) (e151 y0 y1 y2 y3)) x0 x1 x2 x3) := by
 simp only [c88_21, exec_seq, seqK_normal, seqK_exit, seqK_ret, t88_3, c88_4, exec_out, exec_cond', hb88_0, Option.bind_some, brB_true, brB_false, exec_skip, exec_exit, kp88_1, c88_19, exec_block, t88_18, c88_17, t88_16 S112 h112, blockK_normal, blockK_ret, blockK_eq, kp88_0, t88_20]
 rfl
def l88_22 {R : Type} (N : Nat) (S112 : V0 → Int → Option (Int)) (k0 : V0 → V0 → V0 → Int → Option R) : Nat → V0 → V0 → V0 → Int → Option R
 | 0, _, _, _, _ => none
 | m + 1, x0, x1, x2, x3 => (g88_21 N S112 (l88_22 N S112 k0 m) k0 x0 x1 x2 x3)
theorem lt88_22 (S112) (h112 : (ctr112 S112).holds cl) : ∀ (m) (x0 x1 x2 x3), iter [0, 1, 5, 6] (fun env K => exec cl N c88_21 env K) K m (e151 x0 x1 x2 x3) = l88_22 N S112 (fun y0 y1 y2 y3 => K (.exit 0) (e151 y0 y1 y2 y3)) m x0 x1 x2 x3 := by
 intro m
 induction m with
 | zero => intros; rfl
 | succ m ih =>
   intro x0 x1 x2 x3
   simp only [iter_succ, t88_21 S112 h112, loopK_normal, loopK_exit, loopK_ret, kp88_0, ih]
   rfl
theorem kp88_5 (x0 x1 x2 x3) : keep [5] (e151 x0 x1 x2 x3) = (e25 x2) := by kernel_rfl
def g88_22 (N : Nat) (S112 : V0 → Int → Option (Int)) (k0 : V0 → Option R) (x0 x1 x2 : V0) (x3 : Int) : Option R :=
l88_22 N S112 (fun y0 y1 y2 y3 => k0 y2) N x0 x1 x2 x3
theorem t88_22 (S112) (h112 : (ctr112 S112).holds cl) (x0 x1 x2 x3) : exec cl N c88_22 (e151 x0 x1 x2 x3) K = (g88_22 N S112 (fun y0 => K (.exit 0) (e25 y0)) x0 x1 x2 x3) := by
 simp only [c88_22, exec_out, exec_loop, kp88_0, lt88_22 S112 h112, kp88_5]
 rfl
theorem kp88_6 (x0) : keep [5] (e25 x0) = (e25 x0) := by kernel_rfl
def g88_24 (S113 : V0 → Option V1) (k0 : V0 → Option R) (x0 : V0) : Option R :=
(S113 x0).bind fun r769 =>
k0 r769
theorem t88_24 (S113) (h113 : (ctr113 S113).holds cl) (x0) : exec cl N c88_24 (e25 x0) K = (g88_24 S113 (fun y0 => K .normal [(4, .v U2 y0)]) x0) := by
 rw [← put_eq h113]
 kernel_rfl
def g88_25b (N : Nat) (S112 : V0 → Int → Option (Int)) (S113 : V0 → Option V1) (k0 : V0 → Option R) (x0 x1 : V0) : Option R :=
(g88_25 (g88_2 (g88_22 N S112 ((g88_24 S113 k0)))) x0 x1)
theorem t88_25b (S112) (S113) (h112 : (ctr112 S112).holds cl) (h113 : (ctr113 S113).holds cl) (x0 x1) : exec cl N c88_25 (e17 x0 x1) K = (g88_25b N S112 S113 (fun y0 => K .ret [(4, .v U2 y0)]) x0 x1) := by
 simp only [exec_seq, seqK_normal, seqK_exit, seqK_ret, t88_25, t88_2, c88_23, exec_out, exec_block, t88_22 S112 h112, blockK_normal, blockK_ret, blockK_eq, kp88_6, t88_24 S113 h113, exec_ret]
 rfl
theorem rk88_0 (y0) : retK d88 .ret [(4, .v U2 y0)] = some [.v U2 y0] := by kernel_rfl
def g88 (N : Nat) (S112 : V0 → Int → Option (Int)) (S113 : V0 → Option V1) (x0 x1 : V0) (k : V0 → Option R) : Option R :=
(g88_25b N S112 S113 k x0 x1)
theorem gen88 (S112) (S113) (h112 : (ctr112 S112).holds cl) (h113 : (ctr113 S113).holds cl) (x0 x1) (k : List E → Option R) : exec cl N c88 (e17 x0 x1) (fun e env => (retK d88 e env).bind k) = g88 N S112 S113 x0 x1 (fun r0 => k [.v U2 r0]) := by
 simp only [c88, t88_25b S112 S113 h112 h113, rk88_0, Option.bind_some]
 rfl
def ctr88 (S : V0 → V0 → Option V1) : Ctr := cv2 88 U2 U2 S fun b => [.v U2 b]
def S88 (N : Nat) (x0 : V0) (x1 : V0) : Option V1 := g88 N (S112 N) (S113 N) x0 x1 (fun (r0 : V0) => some (r0))
def g110_30 (k0 : V0 → V0 → V0 → V0 → Option R) (x0 x1 : V0) : Option R :=
if 0 ≤ (x0.length : Int) ∧ (x0.length : Int) ≤ (x0.length : Int) ∧ (x0.length : Int) ≤ ((17592186044416 : Nat) : Int) then
k0 x0 x1 (List.replicate (x0.length : Int).toNat (0 : Int)) []
else none
theorem t110_30 (x0 x1) : exec cl N c110_30 (e17 x0 x1) K = (g110_30 (fun y0 y1 y2 y3 => exec cl N (.seq (.seq c110_3 c110_28) (.seq c110_29 .ret)) (e39 y0 y1 y2 y3) K) x0 x1) := by
 kernel_rfl
def g110_3 (k0 : V0 → V0 → V0 → V0 → Int → Option R) (x0 x1 x2 x3 : V0) : Option R :=
k0 x0 x1 x2 x3 (IntKind.i64.wrap ((x0.length : Int) - (1 : Int)))
theorem t110_3 (x0 x1 x2 x3) : exec cl N c110_3 (e39 x0 x1 x2 x3) K = (g110_3 (fun y0 y1 y2 y3 y4 => K .normal (e40 y0 y1 y2 y3 y4)) x0 x1 x2 x3) := by
 kernel_rfl
theorem kp110_0 (x0 x1 x2 x3 x4) : keep [0, 1, 6, 7, 8] (e40 x0 x1 x2 x3 x4) = (e40 x0 x1 x2 x3 x4) := by kernel_rfl
def g110_4 (k0 : V0 → V0 → V0 → V0 → Int → Bool → Option R) (x0 x1 x2 x3 : V0) (x4 : Int) : Option R :=
k0 x0 x1 x2 x3 x4 (decide (x4 ≥ (0 : Int)))
theorem t110_4 (x0 x1 x2 x3 x4) : exec cl N c110_4 (e40 x0 x1 x2 x3 x4) K = (g110_4 (fun y0 y1 y2 y3 y4 y5 => K .normal (e175 y0 y1 y2 y3 y4 y5)) x0 x1 x2 x3 x4) := by
 kernel_rfl
theorem kp110_1 (x0 x1 x2 x3 x4 x5) : keep [0, 1, 6, 7, 8] (e175 x0 x1 x2 x3 x4 x5) = (e40 x0 x1 x2 x3 x4) := by kernel_rfl
theorem hb110_0 (x0 x1 x2 x3 x4 x5) : boolOf? (ent (e175 x0 x1 x2 x3 x4 x5) (.t 19)) = some x5 := by kernel_rfl
def g110_23 (S113 : V0 → Option V1) (k0 : V0 → V0 → V0 → V0 → Int → Int → Int → Option R) (x0 x1 x2 x3 : V0) (x4 : Int) : Option R :=
if 0 ≤ x4 ∧ x4 < (x0.length : Int) then
if [(x0.getD x4.toNat (0 : Int))].length + x3.length ≤ 17592186044416 then
(S113 ([(x0.getD x4.toNat (0 : Int))] ++ x3)).bind fun r781 =>
k0 x0 x1 x2 r781 x4 (0 : Int) (9999 : Int)
else none
else none
theorem t110_23 (S113) (h113 : (ctr113 S113).holds cl) (x0 x1 x2 x3 x4) : exec cl N c110_23 (e40 x0 x1 x2 x3 x4) K = (g110_23 S113 (fun y0 y1 y2 y3 y4 y5 y6 => exec cl N (.seq c110_19 c110_22) (e42 y0 y1 y2 y3 y4 y5 y6) K) x0 x1 x2 x3 x4) := by
 rw [← put_eq h113]
 kernel_rfl
theorem kp110_2 (x0 x1 x2 x3 x4 x5 x6) : keep [0, 1, 6, 7, 8, 9, 10] (e42 x0 x1 x2 x3 x4 x5 x6) = (e42 x0 x1 x2 x3 x4 x5 x6) := by kernel_rfl
def g110_8 (k0 : V0 → V0 → V0 → V0 → Int → Int → Int → Bool → Option R) (x0 x1 x2 x3 : V0) (x4 x5 x6 : Int) : Option R :=
k0 x0 x1 x2 x3 x4 x5 x6 (decide (x5 < x6))
theorem t110_8 (x0 x1 x2 x3 x4 x5 x6) : exec cl N c110_8 (e42 x0 x1 x2 x3 x4 x5 x6) K = (g110_8 (fun y0 y1 y2 y3 y4 y5 y6 y7 => K .normal (e176 y0 y1 y2 y3 y4 y5 y6 y7)) x0 x1 x2 x3 x4 x5 x6) := by
 kernel_rfl
theorem kp110_3 (x0 x1 x2 x3 x4 x5 x6 x7) : keep [0, 1, 6, 7, 8, 9, 10] (e176 x0 x1 x2 x3 x4 x5 x6 x7) = (e42 x0 x1 x2 x3 x4 x5 x6) := by kernel_rfl
theorem hb110_1 (x0 x1 x2 x3 x4 x5 x6 x7) : boolOf? (ent (e176 x0 x1 x2 x3 x4 x5 x6 x7) (.t 32)) = some x7 := by kernel_rfl
def g110_15 (S88 : V0 → V0 → Option V1) (S90 : V0 → V0 → Option (Int)) (k0 : V0 → V0 → V0 → V0 → Int → Int → Int → Int → Bool → Option R) (x0 x1 x2 x3 : V0) (x4 x5 x6 : Int) : Option R :=
let v788 : Int := (IntKind.i64.wrap (Int.tdiv (IntKind.i64.wrap ((IntKind.i64.wrap (x5 + x6)) + (1 : Int))) (2 : Int)))
(S88 x1 [v788]).bind fun r789 =>
(S90 r789 x3).bind fun r790 =>
k0 x0 x1 x2 x3 x4 x5 x6 v788 (decide (r790 ≤ (0 : Int)))
theorem t110_15 (S88) (S90) (h88 : (ctr88 S88).holds cl) (h90 : (ctr90 S90).holds cl) (x0 x1 x2 x3 x4 x5 x6) : exec cl N c110_15 (e42 x0 x1 x2 x3 x4 x5 x6) K = (g110_15 S88 S90 (fun y0 y1 y2 y3 y4 y5 y6 y7 y8 => exec cl N c110_14 (e177 y0 y1 y2 y3 y4 y5 y6 y7 y8) K) x0 x1 x2 x3 x4 x5 x6) := by
 rw [← put_eq h88]
 rw [← put_eq h90]
 kernel_rfl
def g110_12 (k0 : V0 → V0 → V0 → V0 → Int → Int → Int → Option R) (x0 x1 x2 x3 : V0) (x4 x5 x6 x7 : Int) (x8 : Bool) : Option R :=
k0 x0 x1 x2 x3 x4 x7 x6
theorem t110_12 (x0 x1 x2 x3 x4 x5 x6 x7 x8) : exec cl N c110_12 (e177 x0 x1 x2 x3 x4 x5 x6 x7 x8) K = (g110_12 (fun y0 y1 y2 y3 y4 y5 y6 => K .normal (e42 y0 y1 y2 y3 y4 y5 y6)) x0 x1 x2 x3 x4 x5 x6 x7 x8) := by
 kernel_rfl
def g110_13 (k0 : V0 → V0 → V0 → V0 → Int → Int → Int → Option R) (x0 x1 x2 x3 : V0) (x4 x5 x6 x7 : Int) (x8 : Bool) : Option R :=
k0 x0 x1 x2 x3 x4 x5 (IntKind.i64.wrap (x7 - (1 : Int)))
theorem t110_13 (x0 x1 x2 x3 x4 x5 x6 x7 x8) : exec cl N c110_13 (e177 x0 x1 x2 x3 x4 x5 x6 x7 x8) K = (g110_13 (fun y0 y1 y2 y3 y4 y5 y6 => K .normal (e42 y0 y1 y2 y3 y4 y5 y6)) x0 x1 x2 x3 x4 x5 x6 x7 x8) := by
 kernel_rfl
theorem hb110_2 (x0 x1 x2 x3 x4 x5 x6 x7 x8) : boolOf? (ent (e177 x0 x1 x2 x3 x4 x5 x6 x7 x8) (.t 44)) = some x8 := by kernel_rfl
def g110_17 (S88 : V0 → V0 → Option V1) (S90 : V0 → V0 → Option (Int)) (k0 : V0 → V0 → V0 → V0 → Int → Int → Int → Option R) (k1 : V0 → V0 → V0 → V0 → Int → Int → Int → Option R) (x0 x1 x2 x3 : V0) (x4 x5 x6 : Int) : Option R :=
(g110_8 (fun y0 y1 y2 y3 y4 y5 y6 y7 => brB y7 ((g110_15 S88 S90 (fun y0 y1 y2 y3 y4 y5 y6 y7 y8 => brB y8 (g110_12 k0 y0 y1 y2 y3 y4 y5 y6 y7 y8) (g110_13 k0 y0 y1 y2 y3 y4 y5 y6 y7 y8))) y0 y1 y2 y3 y4 y5 y6) (k1 y0 y1 y2 y3 y4 y5 y6)) x0 x1 x2 x3 x4 x5 x6)
theorem t110_17 (S88) (S90) (h88 : (ctr88 S88).holds cl) (h90 : (ctr90 S90).holds cl) (x0 x1 x2 x3 x4 x5 x6) : exec cl N c110_17 (e42 x0 x1 x2 x3 x4 x5 x6) K = (g110_17 S88 S90 (fun y0 y1 y2 y3 y4 y5 y6 => K .normal (e42 y0 y1 y2 y3 y4 y5 y6)) (fun y0 y1 y2 y3 y4 y5 y6 => K (.exit 2) (e42 y0 y1 y2 y3 y4 y5 y6)) x0 x1 x2 x3 x4 x5 x6) := by
 simp only [c110_17, exec_seq, seqK_normal, seqK_exit, seqK_ret, t110_8, c110_9, exec_out, exec_cond', hb110_1, Option.bind_some, brB_true, brB_false, exec_skip, exec_exit, kp110_3, c110_16, exec_block, t110_15 S88 S90 h88 h90, c110_14, hb110_2, t110_12, t110_13, kp110_2, blockK_normal, blockK_ret, blockK_eq]
 rfl
def l110_18 {R : Type} (S88 : V0 → V0 → Option V1) (S90 : V0 → V0 → Option (Int)) (k0 : V0 → V0 → V0 → V0 → Int → Int → Int → Option R) : Nat → V0 → V0 → V0 → V0 → Int → Int → Int → Option R
 | 0, _, _, _, _, _, _, _ => none
 | m + 1, x0, x1, x2, x3, x4, x5, x6 => (g110_17 S88 S90 (l110_18 S88 S90 k0 m) k0 x0 x1 x2 x3 x4 x5 x6)
theorem lt110_18 (S88) (S90) (h88 : (ctr88 S88).holds cl) (h90 : (ctr90 S90).holds cl) : ∀ (m) (x0 x1 x2 x3 x4 x5 x6), iter [0, 1, 6, 7, 8, 9, 10] (fun env K => exec cl N c110_17 env K) K m (e42 x0 x1 x2 x3 x4 x5 x6) = l110_18 S88 S90 (fun y0 y1 y2 y3 y4 y5 y6 => K (.exit 2) (e42 y0 y1 y2 y3 y4 y5 y6)) m x0 x1 x2 x3 x4 x5 x6 := by
 intro m
 induction m with
 | zero => intros; rfl
 | succ m ih =>
   intro x0 x1 x2 x3 x4 x5 x6
   simp only [iter_succ, t110_17 S88 S90 h88 h90, loopK_normal, loopK_exit, loopK_ret, kp110_2, ih]
   rfl
theorem kp110_4 (x0 x1 x2 x3 x4 x5 x6) : keep [0, 1, 6, 7, 8, 9] (e42 x0 x1 x2 x3 x4 x5 x6) = (e45 x0 x1 x2 x3 x4 x5) := by kernel_rfl
def g110_18 (N : Nat) (S88 : V0 → V0 → Option V1) (S90 : V0 → V0 → Option (Int)) (k0 : V0 → V0 → V0 → V0 → Int → Int → Option R) (x0 x1 x2 x3 : V0) (x4 x5 x6 : Int) : Option R :=
l110_18 S88 S90 (fun y0 y1 y2 y3 y4 y5 y6 => k0 y0 y1 y2 y3 y4 y5) N x0 x1 x2 x3 x4 x5 x6
theorem t110_18 (S88) (S90) (h88 : (ctr88 S88).holds cl) (h90 : (ctr90 S90).holds cl) (x0 x1 x2 x3 x4 x5 x6) : exec cl N c110_18 (e42 x0 x1 x2 x3 x4 x5 x6) K = (g110_18 N S88 S90 (fun y0 y1 y2 y3 y4 y5 => K (.exit 2) (e45 y0 y1 y2 y3 y4 y5)) x0 x1 x2 x3 x4 x5 x6) := by
 simp only [c110_18, exec_out, exec_loop, kp110_2, lt110_18 S88 S90 h88 h90, kp110_4]
 rfl
theorem kp110_5 (x0 x1 x2 x3 x4 x5) : keep [0, 1, 6, 7, 8, 9] (e45 x0 x1 x2 x3 x4 x5) = (e45 x0 x1 x2 x3 x4 x5) := by kernel_rfl
def g110_22 (S88 : V0 → V0 → Option V1) (S91 : V0 → V0 → Option V1) (k0 : V0 → V0 → V0 → V0 → Int → Option R) (x0 x1 x2 x3 : V0) (x4 x5 : Int) : Option R :=
if 0 ≤ x4 ∧ x4 < (x2.length : Int) then
if x4.toNat < x2.length then
(S88 x1 [x5]).bind fun r793 =>
(S91 x3 r793).bind fun r794 =>
k0 x0 x1 (x2.set x4.toNat x5) r794 x4
else none
else none
theorem t110_22 (S88) (S91) (h88 : (ctr88 S88).holds cl) (h91 : (ctr91 S91).holds cl) (x0 x1 x2 x3 x4 x5) : exec cl N c110_22 (e45 x0 x1 x2 x3 x4 x5) K = (g110_22 S88 S91 (fun y0 y1 y2 y3 y4 => K .normal (e40 y0 y1 y2 y3 y4)) x0 x1 x2 x3 x4 x5) := by
 rw [← put_eq h88]
 rw [← put_eq h91]
 kernel_rfl
def g110_25 (k0 : V0 → V0 → V0 → V0 → Int → Option R) (x0 x1 x2 x3 : V0) (x4 : Int) : Option R :=
k0 x0 x1 x2 x3 (IntKind.i64.wrap (x4 - (1 : Int)))
theorem t110_25 (x0 x1 x2 x3 x4) : exec cl N c110_25 (e40 x0 x1 x2 x3 x4) K = (g110_25 (fun y0 y1 y2 y3 y4 => K .normal (e40 y0 y1 y2 y3 y4)) x0 x1 x2 x3 x4) := by
 kernel_rfl
def g110_26 (N : Nat) (S88 : V0 → V0 → Option V1) (S90 : V0 → V0 → Option (Int)) (S91 : V0 → V0 → Option V1) (S113 : V0 → Option V1) (k0 : V0 → V0 → V0 → V0 → Int → Option R) (k1 : V0 → V0 → V0 → V0 → Int → Option R) (x0 x1 x2 x3 : V0) (x4 : Int) : Option R :=
(g110_4 (fun y0 y1 y2 y3 y4 y5 => brB y5 ((g110_23 S113 (g110_18 N S88 S90 ((g110_22 S88 S91 ((g110_25 k0)))))) y0 y1 y2 y3 y4) (k1 y0 y1 y2 y3 y4)) x0 x1 x2 x3 x4)
theorem t110_26 (S88) (S90) (S91) (S113) (h88 : (ctr88 S88).holds cl) (h90 : (ctr90 S90).holds cl) (h91 : (ctr91 S91).holds cl) (h113 : (ctr113 S113).holds cl) (x0 x1 x2 x3 x4) : exec cl N c110_26 (e40 x0 x1 x2 x3 x4) K = (g110_26 N S88 S90 S91 S113 (fun y0 y1 y2 y3 y4 => K .normal (e40 y0 y1 y2 y3 y4)) (fun y0 y1 y2 y3 y4 => K (.exit 0) (e40 y0 y1 y2 y3 y4)) x0 x1 x2 x3 x4) := by
 simp only [c110_26, exec_seq, seqK_normal, seqK_exit, seqK_ret, t110_4, c110_5, exec_out, exec_cond', hb110_0, Option.bind_some, brB_true, brB_false, exec_skip, exec_exit, kp110_1, c110_24, exec_block, t110_23 S113 h113, c110_19, t110_18 S88 S90 h88 h90, blockK_normal, blockK_ret, blockK_eq, kp110_5, t110_22 S88 S91 h88 h91, kp110_0, t110_25]
 rfl
def l110_27 {R : Type} (N : Nat) (S88 : V0 → V0 → Option V1) (S90 : V0 → V0 → Option (Int)) (S91 : V0 → V0 → Option V1) (S113 : V0 → Option V1) (k0 : V0 → V0 → V0 → V0 → Int → Option R) : Nat → V0 → V0 → V0 → V0 → Int → Option R
 | 0, _, _, _, _, _ => none
 | m + 1, x0, x1, x2, x3, x4 => (g110_26 N S88 S90 S91 S113 (l110_27 N S88 S90 S91 S113 k0 m) k0 x0 x1 x2 x3 x4)
theorem lt110_27 (S88) (S90) (S91) (S113) (h88 : (ctr88 S88).holds cl) (h90 : (ctr90 S90).holds cl) (h91 : (ctr91 S91).holds cl) (h113 : (ctr113 S113).holds cl) : ∀ (m) (x0 x1 x2 x3 x4), iter [0, 1, 6, 7, 8] (fun env K => exec cl N c110_26 env K) K m (e40 x0 x1 x2 x3 x4) = l110_27 N S88 S90 S91 S113 (fun y0 y1 y2 y3 y4 => K (.exit 0) (e40 y0 y1 y2 y3 y4)) m x0 x1 x2 x3 x4 := by
 intro m
 induction m with
 | zero => intros; rfl
 | succ m ih =>
   intro x0 x1 x2 x3 x4
   simp only [iter_succ, t110_26 S88 S90 S91 S113 h88 h90 h91 h113, loopK_normal, loopK_exit, loopK_ret, kp110_0, ih]
   rfl
theorem kp110_6 (x0 x1 x2 x3 x4) : keep [6, 7] (e40 x0 x1 x2 x3 x4) = (e47 x2 x3) := by kernel_rfl
def g110_27 (N : Nat) (S88 : V0 → V0 → Option V1) (S90 : V0 → V0 → Option (Int)) (S91 : V0 → V0 → Option V1) (S113 : V0 → Option V1) (k0 : V0 → V0 → Option R) (x0 x1 x2 x3 : V0) (x4 : Int) : Option R :=
l110_27 N S88 S90 S91 S113 (fun y0 y1 y2 y3 y4 => k0 y2 y3) N x0 x1 x2 x3 x4
theorem t110_27 (S88) (S90) (S91) (S113) (h88 : (ctr88 S88).holds cl) (h90 : (ctr90 S90).holds cl) (h91 : (ctr91 S91).holds cl) (h113 : (ctr113 S113).holds cl) (x0 x1 x2 x3 x4) : exec cl N c110_27 (e40 x0 x1 x2 x3 x4) K = (g110_27 N S88 S90 S91 S113 (fun y0 y1 => K (.exit 0) (e47 y0 y1)) x0 x1 x2 x3 x4) := by
 simp only [c110_27, exec_out, exec_loop, kp110_0, lt110_27 S88 S90 S91 S113 h88 h90 h91 h113, kp110_6]
 rfl
theorem kp110_7 (x0 x1) : keep [6, 7] (e47 x0 x1) = (e47 x0 x1) := by kernel_rfl
def g110_29 (S113 : V0 → Option V1) (k0 : V0 → V0 → Option R) (x0 x1 : V0) : Option R :=
(S113 x0).bind fun r796 =>
k0 r796 x1
theorem t110_29 (S113) (h113 : (ctr113 S113).holds cl) (x0 x1) : exec cl N c110_29 (e47 x0 x1) K = (g110_29 S113 (fun y0 y1 => K .normal (e48 y0 y1)) x0 x1) := by
 rw [← put_eq h113]
 kernel_rfl
def g110_30b (N : Nat) (S88 : V0 → V0 → Option V1) (S90 : V0 → V0 → Option (Int)) (S91 : V0 → V0 → Option V1) (S113 : V0 → Option V1) (k0 : V0 → V0 → Option R) (x0 x1 : V0) : Option R :=
(g110_30 (g110_3 (g110_27 N S88 S90 S91 S113 ((g110_29 S113 k0)))) x0 x1)
theorem t110_30b (S88) (S90) (S91) (S113) (h88 : (ctr88 S88).holds cl) (h90 : (ctr90 S90).holds cl) (h91 : (ctr91 S91).holds cl) (h113 : (ctr113 S113).holds cl) (x0 x1) : exec cl N c110_30 (e17 x0 x1) K = (g110_30b N S88 S90 S91 S113 (fun y0 y1 => K .ret (e48 y0 y1)) x0 x1) := by
 simp only [exec_seq, seqK_normal, seqK_exit, seqK_ret, t110_30, t110_3, c110_28, exec_out, exec_block, t110_27 S88 S90 S91 S113 h88 h90 h91 h113, blockK_normal, blockK_ret, blockK_eq, kp110_7, t110_29 S113 h113, exec_ret]
 rfl
theorem rk110_0 (y0 y1) : retK d110 .ret (e48 y0 y1) = some [.v U2 y0, .v U2 y1] := by kernel_rfl
def g110 (N : Nat) (S88 : V0 → V0 → Option V1) (S90 : V0 → V0 → Option (Int)) (S91 : V0 → V0 → Option V1) (S113 : V0 → Option V1) (x0 x1 : V0) (k : V0 → V0 → Option R) : Option R :=
(g110_30b N S88 S90 S91 S113 k x0 x1)
theorem gen110 (S88) (S90) (S91) (S113) (h88 : (ctr88 S88).holds cl) (h90 : (ctr90 S90).holds cl) (h91 : (ctr91 S91).holds cl) (h113 : (ctr113 S113).holds cl) (x0 x1) (k : List E → Option R) : exec cl N c110 (e17 x0 x1) (fun e env => (retK d110 e env).bind k) = g110 N S88 S90 S91 S113 x0 x1 (fun r0 r1 => k [.v U2 r0, .v U2 r1]) := by
 simp only [c110, t110_30b S88 S90 S91 S113 h88 h90 h91 h113, rk110_0, Option.bind_some]
 rfl
def ctr110 (S : V0 → V0 → Option V5) : Ctr := cv2 110 U2 U2 S fun b => [.v U2 b.1, .v U2 b.2]
def S110 (N : Nat) (x0 : V0) (x1 : V0) : Option V5 := g110 N (S88 N) (S90 N) (S91 N) (S113 N) x0 x1 (fun (r0 : V0) (r1 : V0) => some (r0, r1))
def g84_0 (k0 : V3 → V3 → V3 → V3 → Option R) (x0 x1 : V3) : Option R :=
k0 x0 x1 ([], ()) ([], ())
theorem t84_0 (x0 x1) : exec cl N c84_0 (e52 x0 x1) K = (g84_0 (fun y0 y1 y2 y3 => K .normal (e108 y0 y1 y2 y3)) x0 x1) := by
 kernel_rfl
def g84_1 (S86 : V3 → Option (Bool)) (k0 : V3 → V3 → V3 → V3 → Bool → Option R) (x0 x1 x2 x3 : V3) : Option R :=
(S86 x0).bind fun r799 =>
brB (!r799) (k0 x0 x1 x2 x3 true) ((S86 x1).bind fun r800 =>
k0 x0 x1 x2 x3 (!r800))
theorem t84_1 (S86) (h86 : (ctr86 S86).holds cl) (x0 x1 x2 x3) : exec cl N c84_1 (e108 x0 x1 x2 x3) K = (g84_1 S86 (fun y0 y1 y2 y3 y4 => K .normal (e178 y0 y1 y2 y3 y4)) x0 x1 x2 x3) := by
 rw [← put_eq h86]
 kernel_rfl
def g84_2 (k0 : V3 → V3 → Int → Option R) (x0 x1 x2 x3 : V3) (x4 : Bool) : Option R :=
k0 ([], ()) ([], ()) (1 : Int)
theorem t84_2 (x0 x1 x2 x3 x4) : exec cl N c84_2 (e178 x0 x1 x2 x3 x4) K = (g84_2 (fun y0 y1 y2 => K .normal (e110 y0 y1 y2)) x0 x1 x2 x3 x4) := by
 kernel_rfl
theorem kp84_0 (x0 x1 x2) : keep [2, 3, 4, 5, 6] (e110 x0 x1 x2) = (e111 x0 x1 x2) := by kernel_rfl
theorem kp84_1 (x0 x1 x2 x3 x4) : keep [2, 3, 4, 5, 6] (e178 x0 x1 x2 x3 x4) = (e113 x0 x1 x2 x3) := by kernel_rfl
theorem hb84_0 (x0 x1 x2 x3 x4) : boolOf? (ent (e178 x0 x1 x2 x3 x4) (.t 16)) = some x4 := by kernel_rfl
def g84_4 (k0 : V3 → V3 → V3 → V3 → Bool → Option R) (x0 x1 x2 x3 : V3) : Option R :=
k0 x0 x1 x2 x3 ((x1.1.length : Int) == (0 : Int))
theorem t84_4 (x0 x1 x2 x3) : exec cl N c84_4 (e113 x0 x1 x2 x3) K = (g84_4 (fun y0 y1 y2 y3 y4 => K .normal (e179 y0 y1 y2 y3 y4)) x0 x1 x2 x3) := by
 kernel_rfl
def g84_5 (k0 : V3 → V3 → Int → Option R) (x0 x1 x2 x3 : V3) (x4 : Bool) : Option R :=
k0 ([], ()) ([], ()) (6 : Int)
theorem t84_5 (x0 x1 x2 x3 x4) : exec cl N c84_5 (e179 x0 x1 x2 x3 x4) K = (g84_5 (fun y0 y1 y2 => K .normal (e110 y0 y1 y2)) x0 x1 x2 x3 x4) := by
 kernel_rfl
theorem kp84_2 (x0 x1 x2 x3 x4) : keep [2, 3, 4, 5, 6] (e179 x0 x1 x2 x3 x4) = (e113 x0 x1 x2 x3) := by kernel_rfl
theorem hb84_1 (x0 x1 x2 x3 x4) : boolOf? (ent (e179 x0 x1 x2 x3 x4) (.t 22)) = some x4 := by kernel_rfl
def g84_9 (S110 : V0 → V0 → Option V5) (k0 : V3 → V3 → Int → Option R) (x0 x1 x2 x3 : V3) : Option R :=
(S110 x0.1 x1.1).bind fun r803 =>
k0 (r803.1, ()) (r803.2, ()) (0 : Int)
theorem t84_9 (S110) (h110 : (ctr110 S110).holds cl) (x0 x1 x2 x3) : exec cl N c84_9 (e113 x0 x1 x2 x3) K = (g84_9 S110 (fun y0 y1 y2 => exec cl N .ret (e114 y0 y1 y2) K) x0 x1 x2 x3) := by
 rw [← put_eq h110]
 kernel_rfl
def g84_10 (S86 : V3 → Option (Bool)) (S110 : V0 → V0 → Option V5) (k0 : V3 → V3 → Int → Option R) (k1 : V3 → V3 → Int → Option R) (x0 x1 : V3) : Option R :=
(g84_0 (g84_1 S86 (fun y0 y1 y2 y3 y4 => brB y4 (g84_2 k0 y0 y1 y2 y3 y4) ((g84_4 (fun y0 y1 y2 y3 y4 => brB y4 (g84_5 k0 y0 y1 y2 y3 y4) ((g84_9 S110 k1) y0 y1 y2 y3))) y0 y1 y2 y3))) x0 x1)
theorem t84_10 (S86) (S110) (h86 : (ctr86 S86).holds cl) (h110 : (ctr110 S110).holds cl) (x0 x1) : exec cl N c84_10 (e52 x0 x1) K = (g84_10 S86 S110 (fun y0 y1 y2 => K .ret (e111 y0 y1 y2)) (fun y0 y1 y2 => K .ret (e114 y0 y1 y2)) x0 x1) := by
 simp only [c84_10, exec_seq, seqK_normal, seqK_exit, seqK_ret, t84_0, t84_1 S86 h86, c84_3, exec_out, exec_cond', hb84_0, Option.bind_some, brB_true, brB_false, t84_2, exec_ret, exec_skip, kp84_0, kp84_1, t84_4, c84_6, hb84_1, t84_5, kp84_2, t84_9 S110 h110]
 rfl
theorem rk84_0 (y0 y1 y2) : retK d84 .ret (e111 y0 y1 y2) = some [.v U4 y0, .v U4 y1, .v U1 y2] := by kernel_rfl
theorem rk84_1 (y0 y1 y2) : retK d84 .ret (e114 y0 y1 y2) = some [.v U4 y0, .v U4 y1, .v U1 y2] := by kernel_rfl
def g84 (S86 : V3 → Option (Bool)) (S110 : V0 → V0 → Option V5) (x0 x1 : V3) (k : V3 → V3 → Int → Option R) : Option R :=
(g84_10 S86 S110 k k x0 x1)
theorem gen84 (S86) (S110) (h86 : (ctr86 S86).holds cl) (h110 : (ctr110 S110).holds cl) (x0 x1) (k : List E → Option R) : exec cl N c84 (e52 x0 x1) (fun e env => (retK d84 e env).bind k) = g84 S86 S110 x0 x1 (fun r0 r1 r2 => k [.v U4 r0, .v U4 r1, .v U1 r2]) := by
 simp only [c84, t84_10 S86 S110 h86 h110, rk84_0, rk84_1, Option.bind_some]
 rfl
def ctr84 (S : V3 → V3 → Option V10) : Ctr := cv2 84 U4 U4 S fun b => [.v U4 b.1, .v U4 b.2.1, .v U1 b.2.2]
def S84 (N : Nat) (x0 : V3) (x1 : V3) : Option V10 := g84 (S86 N) (S110 N) x0 x1 (fun (r0 : V3) (r1 : V3) (r2 : Int) => some (r0, r1, r2))
def g52_5 (S56 : V3 → Option (Bool)) (S83 : V3 → V3 → Option V7) (S84 : V3 → V3 → Option V10) (k0 : V12 → Option R) (x0 : Bool) (x1 x2 : V3) : Option R :=
(S83 x1 x2).bind fun r820 =>
(S84 x1 r820.1).bind fun r821 =>
(S84 x2 r820.1).bind fun r822 =>
brB x0 ((S56 r821.1).bind fun r823 =>
k0 ((!r823), r821.1, r822.1, ())) (k0 (false, r821.1, r822.1, ()))
theorem t52_5 (S56) (S83) (S84) (h56 : (ctr56 S56).holds cl) (h83 : (ctr83 S83).holds cl) (h84 : (ctr84 S84).holds cl) (x0 x1 x2) : exec cl N c52_5 (e115 x0 x1 x2) K = (g52_5 S56 S83 S84 (fun y0 => exec cl N .ret [(6, .loc U9 .no y0)] K) x0 x1 x2) := by
 rw [← put_eq h56]
 rw [← put_eq h83]
 rw [← put_eq h84]
 kernel_rfl
def g52_5b (S56 : V3 → Option (Bool)) (S83 : V3 → V3 → Option V7) (S84 : V3 → V3 → Option V10) (k0 : V12 → Option R) (x0 : Bool) (x1 x2 : V3) : Option R :=
(g52_5 S56 S83 S84 k0 x0 x1 x2)
theorem t52_5b (S56) (S83) (S84) (h56 : (ctr56 S56).holds cl) (h83 : (ctr83 S83).holds cl) (h84 : (ctr84 S84).holds cl) (x0 x1 x2) : exec cl N c52_5 (e115 x0 x1 x2) K = (g52_5b S56 S83 S84 (fun y0 => K .ret [(6, .loc U9 .no y0)]) x0 x1 x2) := by
 simp only [exec_seq, seqK_normal, seqK_exit, seqK_ret, t52_5 S56 S83 S84 h56 h83 h84, exec_ret]
 rfl
theorem rk52_0 (y0) : retK d52 .ret [(6, .loc U9 .no y0)] = some [.v U9 y0] := by kernel_rfl
def g52 (S56 : V3 → Option (Bool)) (S83 : V3 → V3 → Option V7) (S84 : V3 → V3 → Option V10) (x0 : Bool) (x1 x2 : V3) (k : V12 → Option R) : Option R :=
(g52_5b S56 S83 S84 k x0 x1 x2)
theorem gen52 (S56) (S83) (S84) (h56 : (ctr56 S56).holds cl) (h83 : (ctr83 S83).holds cl) (h84 : (ctr84 S84).holds cl) (x0 x1 x2) (k : List E → Option R) : exec cl N c52 (e115 x0 x1 x2) (fun e env => (retK d52 e env).bind k) = g52 S56 S83 S84 x0 x1 x2 (fun r0 => k [.v U9 r0]) := by
 simp only [c52, t52_5b S56 S83 S84 h56 h83 h84, rk52_0, Option.bind_some]
 rfl
def ctr52 (S : Bool → V3 → V3 → Option V13) : Ctr := cv3 52 .bool U4 U4 S fun b => [.v U9 b]
def S52 (N : Nat) (x0 : Bool) (x1 : V3) (x2 : V3) : Option V13 := g52 (S56 N) (S83 N) (S84 N) x0 x1 x2 (fun (r0 : V12) => some (r0))
def g23_0 (k0 : Int → Int → V12 → Option R) (x0 x1 : Int) : Option R :=
k0 x0 x1 (false, (([], ()), (([], ()), ())))
theorem t23_0 (x0 x1) : exec cl N c23_0 (e92 x0 x1) K = (g23_0 (fun y0 y1 y2 => K .normal (e180 y0 y1 y2)) x0 x1) := by
 kernel_rfl
def g23_1 (k0 : Int → Int → V12 → Bool → Option R) (x0 x1 : Int) (x2 : V12) : Option R :=
k0 x0 x1 x2 (x1 == (0 : Int))
theorem t23_1 (x0 x1 x2) : exec cl N c23_1 (e180 x0 x1 x2) K = (g23_1 (fun y0 y1 y2 y3 => K .normal (e181 y0 y1 y2 y3)) x0 x1 x2) := by
 kernel_rfl
def g23_2 (k0 : V12 → Int → Option R) (x0 x1 : Int) (x2 : V12) (x3 : Bool) : Option R :=
k0 (false, ([], ()), ([], ()), ()) (6 : Int)
theorem t23_2 (x0 x1 x2 x3) : exec cl N c23_2 (e181 x0 x1 x2 x3) K = (g23_2 (fun y0 y1 => K .normal (e118 y0 y1)) x0 x1 x2 x3) := by
 kernel_rfl
theorem kp23_0 (x0 x1) : keep [0, 1, 4, 5] (e118 x0 x1) = (e182 x0 x1) := by kernel_rfl
theorem kp23_1 (x0 x1 x2 x3) : keep [0, 1, 4, 5] (e181 x0 x1 x2 x3) = (e183 x0 x1 x2) := by kernel_rfl
theorem hb23_0 (x0 x1 x2 x3) : boolOf? (ent (e181 x0 x1 x2 x3) (.t 8)) = some x3 := by kernel_rfl
def g23_4 (k0 : Int → Int → V12 → Bool → Option R) (x0 x1 : Int) (x2 : V12) : Option R :=
brB (decide (x0 < (-1000000000000000 : Int))) (k0 x0 x1 x2 true) (brB (decide (x0 > (1000000000000000 : Int))) (k0 x0 x1 x2 true) (brB (decide (x1 < (-1000000000000000 : Int))) (k0 x0 x1 x2 true) (k0 x0 x1 x2 (decide (x1 > (1000000000000000 : Int))))))
theorem t23_4 (x0 x1 x2) : exec cl N c23_4 (e183 x0 x1 x2) K = (g23_4 (fun y0 y1 y2 y3 => K .normal (e184 y0 y1 y2 y3)) x0 x1 x2) := by
 kernel_rfl
def g23_5 (k0 : V12 → Int → Option R) (x0 x1 : Int) (x2 : V12) (x3 : Bool) : Option R :=
k0 (false, ([], ()), ([], ()), ()) (3 : Int)
theorem t23_5 (x0 x1 x2 x3) : exec cl N c23_5 (e184 x0 x1 x2 x3) K = (g23_5 (fun y0 y1 => K .normal (e118 y0 y1)) x0 x1 x2 x3) := by
 kernel_rfl
theorem kp23_2 (x0 x1 x2 x3) : keep [0, 1, 4, 5] (e184 x0 x1 x2 x3) = (e183 x0 x1 x2) := by kernel_rfl
theorem hb23_1 (x0 x1 x2 x3) : boolOf? (ent (e184 x0 x1 x2 x3) (.t 23)) = some x3 := by kernel_rfl
def g23_7 (k0 : Int → Int → V12 → Bool → Option R) (x0 x1 : Int) (x2 : V12) : Option R :=
k0 x0 x1 x2 (!((decide (x0 < (0 : Int))) == (decide (x1 < (0 : Int)))))
theorem t23_7 (x0 x1 x2) : exec cl N c23_7 (e183 x0 x1 x2) K = (g23_7 (fun y0 y1 y2 y3 => K .normal (e185 y0 y1 y2 y3)) x0 x1 x2) := by
 kernel_rfl
def g23_8 (k0 : Int → Int → V12 → Bool → Bool → Option R) (x0 x1 : Int) (x2 : V12) (x3 : Bool) : Option R :=
k0 x0 x1 x2 x3 (decide (x0 < (0 : Int)))
theorem t23_8 (x0 x1 x2 x3) : exec cl N c23_8 (e185 x0 x1 x2 x3) K = (g23_8 (fun y0 y1 y2 y3 y4 => K .normal (e186 y0 y1 y2 y3 y4)) x0 x1 x2 x3) := by
 kernel_rfl
def g23_9 (k0 : Int → Int → V12 → Bool → Option R) (x0 x1 : Int) (x2 : V12) (x3 x4 : Bool) : Option R :=
k0 (IntKind.i64.wrap ((0 : Int) - x0)) x1 x2 x3
theorem t23_9 (x0 x1 x2 x3 x4) : exec cl N c23_9 (e186 x0 x1 x2 x3 x4) K = (g23_9 (fun y0 y1 y2 y3 => K .normal (e185 y0 y1 y2 y3)) x0 x1 x2 x3 x4) := by
 kernel_rfl
theorem kp23_3 (x0 x1 x2 x3) : keep [0, 1, 4, 6] (e185 x0 x1 x2 x3) = (e185 x0 x1 x2 x3) := by kernel_rfl
theorem kp23_4 (x0 x1 x2 x3 x4) : keep [0, 1, 4, 6] (e186 x0 x1 x2 x3 x4) = (e185 x0 x1 x2 x3) := by kernel_rfl
theorem hb23_2 (x0 x1 x2 x3 x4) : boolOf? (ent (e186 x0 x1 x2 x3 x4) (.t 31)) = some x4 := by kernel_rfl
def g23_11 (k0 : Int → Int → V12 → Bool → Option R) (x0 x1 : Int) (x2 : V12) (x3 : Bool) : Option R :=
(g23_8 (fun y0 y1 y2 y3 y4 => brB y4 (g23_9 k0 y0 y1 y2 y3 y4) (k0 y0 y1 y2 y3)) x0 x1 x2 x3)
theorem t23_11 (x0 x1 x2 x3) : exec cl N c23_11 (e185 x0 x1 x2 x3) K = (g23_11 (fun y0 y1 y2 y3 => K .normal (e185 y0 y1 y2 y3)) x0 x1 x2 x3) := by
 simp only [c23_11, exec_seq, seqK_normal, seqK_exit, seqK_ret, t23_8, c23_10, exec_out, exec_cond', hb23_2, Option.bind_some, brB_true, brB_false, t23_9, exec_skip, kp23_3, kp23_4]
 rfl
def g23_12 (k0 : Int → Int → V12 → Bool → Bool → Option R) (x0 x1 : Int) (x2 : V12) (x3 : Bool) : Option R :=
k0 x0 x1 x2 x3 (decide (x1 < (0 : Int)))
theorem t23_12 (x0 x1 x2 x3) : exec cl N c23_12 (e185 x0 x1 x2 x3) K = (g23_12 (fun y0 y1 y2 y3 y4 => K .normal (e187 y0 y1 y2 y3 y4)) x0 x1 x2 x3) := by
 kernel_rfl
def g23_13 (k0 : Int → Int → V12 → Bool → Option R) (x0 x1 : Int) (x2 : V12) (x3 x4 : Bool) : Option R :=
k0 x0 (IntKind.i64.wrap ((0 : Int) - x1)) x2 x3
theorem t23_13 (x0 x1 x2 x3 x4) : exec cl N c23_13 (e187 x0 x1 x2 x3 x4) K = (g23_13 (fun y0 y1 y2 y3 => K .normal (e185 y0 y1 y2 y3)) x0 x1 x2 x3 x4) := by
 kernel_rfl
theorem kp23_5 (x0 x1 x2 x3 x4) : keep [0, 1, 4, 6] (e187 x0 x1 x2 x3 x4) = (e185 x0 x1 x2 x3) := by kernel_rfl
theorem hb23_3 (x0 x1 x2 x3 x4) : boolOf? (ent (e187 x0 x1 x2 x3 x4) (.t 35)) = some x4 := by kernel_rfl
def g23_15 (k0 : Int → Int → V12 → Bool → Option R) (x0 x1 : Int) (x2 : V12) (x3 : Bool) : Option R :=
(g23_12 (fun y0 y1 y2 y3 y4 => brB y4 (g23_13 k0 y0 y1 y2 y3 y4) (k0 y0 y1 y2 y3)) x0 x1 x2 x3)
theorem t23_15 (x0 x1 x2 x3) : exec cl N c23_15 (e185 x0 x1 x2 x3) K = (g23_15 (fun y0 y1 y2 y3 => K .normal (e185 y0 y1 y2 y3)) x0 x1 x2 x3) := by
 simp only [c23_15, exec_seq, seqK_normal, seqK_exit, seqK_ret, t23_12, c23_14, exec_out, exec_cond', hb23_3, Option.bind_some, brB_true, brB_false, t23_13, exec_skip, kp23_3, kp23_5]
 rfl
def g23_16 (S52 : Bool → V3 → V3 → Option V13) (S53 : Int → Option V4) (k0 : V12 → Int → Option R) (x0 x1 : Int) (x2 : V12) (x3 : Bool) : Option R :=
(S53 x0).bind fun r841 =>
(S53 x1).bind fun r842 =>
(S52 x3 r841 r842).bind fun r843 =>
k0 r843 (0 : Int)
theorem t23_16 (S52) (S53) (h52 : (ctr52 S52).holds cl) (h53 : (ctr53 S53).holds cl) (x0 x1 x2 x3) : exec cl N c23_16 (e185 x0 x1 x2 x3) K = (g23_16 S52 S53 (fun y0 y1 => K .normal (e118 y0 y1)) x0 x1 x2 x3) := by
 rw [← put_eq h52]
 rw [← put_eq h53]
 kernel_rfl
def g23_17 (S52 : Bool → V3 → V3 → Option V13) (S53 : Int → Option V4) (k0 : V12 → Int → Option R) (k1 : V12 → Int → Option R) (x0 x1 : Int) : Option R :=
(g23_0 (g23_1 (fun y0 y1 y2 y3 => brB y3 (g23_2 k0 y0 y1 y2 y3) ((g23_4 (fun y0 y1 y2 y3 => brB y3 (g23_5 k0 y0 y1 y2 y3) ((g23_7 (g23_11 (g23_15 (g23_16 S52 S53 k1)))) y0 y1 y2))) y0 y1 y2))) x0 x1)
theorem t23_17 (S52) (S53) (h52 : (ctr52 S52).holds cl) (h53 : (ctr53 S53).holds cl) (x0 x1) : exec cl N c23_17 (e92 x0 x1) K = (g23_17 S52 S53 (fun y0 y1 => K .ret (e182 y0 y1)) (fun y0 y1 => K .ret (e118 y0 y1)) x0 x1) := by
 simp only [c23_17, exec_seq, seqK_normal, seqK_exit, seqK_ret, t23_0, t23_1, c23_3, exec_out, exec_cond', hb23_0, Option.bind_some, brB_true, brB_false, t23_2, exec_ret, exec_skip, kp23_0, kp23_1, t23_4, c23_6, hb23_1, t23_5, kp23_2, t23_7, t23_11, t23_15, t23_16 S52 S53 h52 h53]
 rfl
theorem rk23_0 (y0 y1) : retK d23 .ret (e182 y0 y1) = some [.v U9 y0, .v U1 y1] := by kernel_rfl
theorem rk23_1 (y0 y1) : retK d23 .ret (e118 y0 y1) = some [.v U9 y0, .v U1 y1] := by kernel_rfl
def g23 (S52 : Bool → V3 → V3 → Option V13) (S53 : Int → Option V4) (x0 x1 : Int) (k : V12 → Int → Option R) : Option R :=
(g23_17 S52 S53 k k x0 x1)
theorem gen23 (S52) (S53) (h52 : (ctr52 S52).holds cl) (h53 : (ctr53 S53).holds cl) (x0 x1) (k : List E → Option R) : exec cl N c23 (e92 x0 x1) (fun e env => (retK d23 e env).bind k) = g23 S52 S53 x0 x1 (fun r0 r1 => k [.v U9 r0, .v U1 r1]) := by
 simp only [c23, t23_17 S52 S53 h52 h53, rk23_0, rk23_1, Option.bind_some]
 rfl
def ctr23 (S : Int → Int → Option V15) : Ctr := cv2 23 U1 U1 S fun b => [.v U9 b.1, .v U1 b.2]
def S23 (N : Nat) (x0 : Int) (x1 : Int) : Option V15 := g23 (S52 N) (S53 N) x0 x1 (fun (r0 : V12) (r1 : Int) => some (r0, r1))
def g104_3 (S23 : Int → Int → Option V15) (k0 : V12 → Option R) : Option R :=
(S23 (1 : Int) (1 : Int)).bind fun r847 =>
k0 r847.1
theorem t104_3 (S23) (h23 : (ctr23 S23).holds cl) : exec cl N c104_3 [] K = (g104_3 S23 (fun y0 => exec cl N .ret [(0, .loc U9 .no y0)] K)) := by
 rw [← put_eq h23]
 kernel_rfl
def g104_3b (S23 : Int → Int → Option V15) (k0 : V12 → Option R) : Option R :=
(g104_3 S23 k0)
theorem t104_3b (S23) (h23 : (ctr23 S23).holds cl) : exec cl N c104_3 [] K = (g104_3b S23 (fun y0 => K .ret [(0, .loc U9 .no y0)])) := by
 simp only [exec_seq, seqK_normal, seqK_exit, seqK_ret, t104_3 S23 h23, exec_ret]
 rfl
theorem rk104_0 (y0) : retK d104 .ret [(0, .loc U9 .no y0)] = some [.v U9 y0] := by kernel_rfl
def g104 (S23 : Int → Int → Option V15) (k : V12 → Option R) : Option R :=
(g104_3b S23 k)
theorem gen104 (S23) (h23 : (ctr23 S23).holds cl) (k : List E → Option R) : exec cl N c104 [] (fun e env => (retK d104 e env).bind k) = g104 S23 (fun r0 => k [.v U9 r0]) := by
 simp only [c104, t104_3b S23 h23, rk104_0, Option.bind_some]
 rfl
def ctr104 (S : Option V13) : Ctr := { A := Unit, B := V12, f := 104, enc := fun a => [], dec := dec0, S := fun a => S, ent := fun b => [.v U9 b], ok := (fun es b h => dec0_some h) }
def S104 (N : Nat) : Option V13 := g104 (S23 N) (fun (r0 : V12) => some (r0))
def g70_12 (S84 : V3 → V3 → Option V10) (k0 : V3 → V3 → V3 → V3 → V3 → V3 → Option R) (x0 x1 x2 x3 : V3) : Option R :=
(S84 x0 x1).bind fun r863 =>
(S84 x2 x3).bind fun r864 =>
k0 x1 x3 r863.1 r863.2.1 r864.1 r864.2.1
theorem t70_12 (S84) (h84 : (ctr84 S84).holds cl) (x0 x1 x2 x3) : exec cl N c70_12 (e188 x0 x1 x2 x3) K = (g70_12 S84 (fun y0 y1 y2 y3 y4 y5 => exec cl N (.seq c70_7 (.seq (.seq c70_8 c70_10) (.seq c70_11 .ret))) (e189 y0 y1 y2 y3 y4 y5) K) x0 x1 x2 x3) := by
 rw [← put_eq h84]
 kernel_rfl
def g70_7 (S60 : V3 → V3 → Option (Int)) (k0 : V3 → V3 → V3 → V3 → Int → Bool → Option R) (x0 x1 x2 x3 x4 x5 : V3) : Option R :=
(S60 x2 x4).bind fun r866 =>
k0 x0 x1 x3 x5 r866 (r866 != (0 : Int))
theorem t70_7 (S60) (h60 : (ctr60 S60).holds cl) (x0 x1 x2 x3 x4 x5) : exec cl N c70_7 (e189 x0 x1 x2 x3 x4 x5) K = (g70_7 S60 (fun y0 y1 y2 y3 y4 y5 => exec cl N c70_6 (e190 y0 y1 y2 y3 y4 y5) K) x0 x1 x2 x3 x4 x5) := by
 rw [← put_eq h60]
 kernel_rfl
def g70_5 (k0 : Int → Option R) (x0 x1 x2 x3 : V3) (x4 : Int) (x5 : Bool) : Option R :=
k0 x4
theorem t70_5 (x0 x1 x2 x3 x4 x5) : exec cl N c70_5 (e190 x0 x1 x2 x3 x4 x5) K = (g70_5 (fun y0 => K .normal [(8, .v U1 y0)]) x0 x1 x2 x3 x4 x5) := by
 kernel_rfl
theorem kp70_0 (x0) : keep [5, 7, 8, 10, 13] [(8, .v U1 x0)] = (e191 x0) := by kernel_rfl
theorem kp70_1 (x0 x1 x2 x3 x4 x5) : keep [5, 7, 8, 10, 13] (e190 x0 x1 x2 x3 x4 x5) = (e192 x0 x1 x2 x3) := by kernel_rfl
theorem hb70_0 (x0 x1 x2 x3 x4 x5) : boolOf? (ent (e190 x0 x1 x2 x3 x4 x5) (.t 34)) = some x5 := by kernel_rfl
def g70_8 (S56 : V3 → Option (Bool)) (k0 : V3 → V3 → V3 → V3 → Bool → Option R) (x0 x1 x2 x3 : V3) : Option R :=
(S56 x2).bind fun r868 =>
brB r868 (k0 x0 x1 x2 x3 true) ((S56 x3).bind fun r869 =>
k0 x0 x1 x2 x3 r869)
theorem t70_8 (S56) (h56 : (ctr56 S56).holds cl) (x0 x1 x2 x3) : exec cl N c70_8 (e192 x0 x1 x2 x3) K = (g70_8 S56 (fun y0 y1 y2 y3 y4 => K .normal (e193 y0 y1 y2 y3 y4)) x0 x1 x2 x3) := by
 rw [← put_eq h56]
 kernel_rfl
def g70_9 (S60 : V3 → V3 → Option (Int)) (k0 : Int → Option R) (x0 x1 x2 x3 : V3) (x4 : Bool) : Option R :=
(S60 x2 x3).bind fun r870 =>
k0 r870
theorem t70_9 (S60) (h60 : (ctr60 S60).holds cl) (x0 x1 x2 x3 x4) : exec cl N c70_9 (e193 x0 x1 x2 x3 x4) K = (g70_9 S60 (fun y0 => K .normal [(8, .v U1 y0)]) x0 x1 x2 x3 x4) := by
 rw [← put_eq h60]
 kernel_rfl
theorem kp70_2 (x0 x1 x2 x3 x4) : keep [5, 7, 8, 10, 13] (e193 x0 x1 x2 x3 x4) = (e192 x0 x1 x2 x3) := by kernel_rfl
theorem hb70_1 (x0 x1 x2 x3 x4) : boolOf? (ent (e193 x0 x1 x2 x3 x4) (.t 41)) = some x4 := by kernel_rfl
def g70_11 (S70 : V3 → V3 → V3 → V3 → Option (Int)) (k0 : Int → Option R) (x0 x1 x2 x3 : V3) : Option R :=
(S70 x1 x3 x0 x2).bind fun r871 =>
k0 r871
theorem t70_11 (S70) (h70 : (ctr70 S70).holds cl) (x0 x1 x2 x3) : exec cl N c70_11 (e192 x0 x1 x2 x3) K = (g70_11 S70 (fun y0 => K .normal [(8, .v U1 y0)]) x0 x1 x2 x3) := by
 rw [← put_eq h70]
 kernel_rfl
def g70_12b (S56 : V3 → Option (Bool)) (S60 : V3 → V3 → Option (Int)) (S70 : V3 → V3 → V3 → V3 → Option (Int)) (S84 : V3 → V3 → Option V10) (k0 : Int → Option R) (k1 : Int → Option R) (x0 x1 x2 x3 : V3) : Option R :=
(g70_12 S84 (g70_7 S60 (fun y0 y1 y2 y3 y4 y5 => brB y5 (g70_5 k0 y0 y1 y2 y3 y4 y5) ((g70_8 S56 (fun y0 y1 y2 y3 y4 => brB y4 (g70_9 S60 k0 y0 y1 y2 y3 y4) ((g70_11 S70 k1) y0 y1 y2 y3))) y0 y1 y2 y3))) x0 x1 x2 x3)
theorem t70_12b (S56) (S60) (S70) (S84) (h56 : (ctr56 S56).holds cl) (h60 : (ctr60 S60).holds cl) (h70 : (ctr70 S70).holds cl) (h84 : (ctr84 S84).holds cl) (x0 x1 x2 x3) : exec cl N c70_12 (e188 x0 x1 x2 x3) K = (g70_12b S56 S60 S70 S84 (fun y0 => K .ret (e191 y0)) (fun y0 => K .ret [(8, .v U1 y0)]) x0 x1 x2 x3) := by
 simp only [exec_seq, seqK_normal, seqK_exit, seqK_ret, t70_12 S84 h84, t70_7 S60 h60, c70_6, exec_out, exec_cond', hb70_0, Option.bind_some, brB_true, brB_false, t70_5, exec_ret, exec_skip, kp70_0, kp70_1, t70_8 S56 h56, c70_10, hb70_1, t70_9 S60 h60, kp70_2, t70_11 S70 h70]
 rfl
theorem rk70_0 (y0) : retK d70 .ret (e191 y0) = some [.v U1 y0] := by kernel_rfl
theorem rk70_1 (y0) : retK d70 .ret [(8, .v U1 y0)] = some [.v U1 y0] := by kernel_rfl
def g70 (S56 : V3 → Option (Bool)) (S60 : V3 → V3 → Option (Int)) (S70 : V3 → V3 → V3 → V3 → Option (Int)) (S84 : V3 → V3 → Option V10) (x0 x1 x2 x3 : V3) (k : Int → Option R) : Option R :=
(g70_12b S56 S60 S70 S84 k k x0 x1 x2 x3)
theorem gen70 (S56) (S60) (S70) (S84) (h56 : (ctr56 S56).holds cl) (h60 : (ctr60 S60).holds cl) (h70 : (ctr70 S70).holds cl) (h84 : (ctr84 S84).holds cl) (x0 x1 x2 x3) (k : List E → Option R) : exec cl N c70 (e188 x0 x1 x2 x3) (fun e env => (retK d70 e env).bind k) = g70 S56 S60 S70 S84 x0 x1 x2 x3 (fun r0 => k [.v U1 r0]) := by
 simp only [c70, t70_12b S56 S60 S70 S84 h56 h60 h70 h84, rk70_0, rk70_1, Option.bind_some]
 rfl
def R70 (N : Nat) : Nat → V3 → V3 → V3 → V3 → Option (Int)
 | 0, _, _, _, _ => none
 | m + 1, x0, x1, x2, x3 => g70 (S56 N) (S60 N) (R70 N m) (S84 N) x0 x1 x2 x3 (fun (r0 : Int) => some (r0))
def S70 (N : Nat) (x0 : V3) (x1 : V3) (x2 : V3) (x3 : V3) : Option (Int) := R70 N 250 x0 x1 x2 x3
def g35_0 (k0 : V12 → V12 → Option R) (x0 x1 : V12) : Option R :=
k0 x0 x1
theorem t35_0 (x0 x1) : exec cl N c35_0 (e194 x0 x1) K = (g35_0 (fun y0 y1 => K .normal [(2, .loc U9 .no y0), (3, .loc U9 .no y1)]) x0 x1) := by
 kernel_rfl
def g35_1 (S54 : V12 → Option (Bool)) (k0 : V12 → V12 → Bool → Option R) (x0 x1 : V12) : Option R :=
(S54 x0).bind fun r874 =>
brB (!r874) (k0 x0 x1 true) ((S54 x1).bind fun r875 =>
k0 x0 x1 (!r875))
theorem t35_1 (S54) (h54 : (ctr54 S54).holds cl) (x0 x1) : exec cl N c35_1 [(2, .loc U9 .no x0), (3, .loc U9 .no x1)] K = (g35_1 S54 (fun y0 y1 y2 => K .normal (e195 y0 y1 y2)) x0 x1) := by
 rw [← put_eq h54]
 kernel_rfl
def g35_2 (k0 : Int → Option R) (x0 x1 : V12) (x2 : Bool) : Option R :=
k0 (0 : Int)
theorem t35_2 (x0 x1 x2) : exec cl N c35_2 (e195 x0 x1 x2) K = (g35_2 (fun y0 => K .normal [(4, .v U1 y0)]) x0 x1 x2) := by
 kernel_rfl
theorem kp35_0 (x0) : keep [2, 3, 4] [(4, .v U1 x0)] = (e196 x0) := by kernel_rfl
theorem kp35_1 (x0 x1 x2) : keep [2, 3, 4] (e195 x0 x1 x2) = (e197 x0 x1) := by kernel_rfl
theorem hb35_0 (x0 x1 x2) : boolOf? (ent (e195 x0 x1 x2) (.t 12)) = some x2 := by kernel_rfl
def g35_4 (k0 : V12 → V12 → Bool → Option R) (x0 x1 : V12) : Option R :=
k0 x0 x1 (!(x0.1 == x1.1))
theorem t35_4 (x0 x1) : exec cl N c35_4 (e197 x0 x1) K = (g35_4 (fun y0 y1 y2 => K .normal (e198 y0 y1 y2)) x0 x1) := by
 kernel_rfl
def g35_5 (k0 : Bool → Option R) (x0 x1 : V12) (x2 : Bool) : Option R :=
k0 x0.1
theorem t35_5 (x0 x1 x2) : exec cl N c35_5 (e198 x0 x1 x2) K = (g35_5 (fun y0 => K .normal [(19, .v .bool y0)]) x0 x1 x2) := by
 kernel_rfl
def g35_6 (k0 : Int → Option R) (x0 : Bool) : Option R :=
k0 (-1 : Int)
theorem t35_6 (x0) : exec cl N c35_6 [(19, .v .bool x0)] K = (g35_6 (fun y0 => K .normal [(4, .v U1 y0)]) x0) := by
 kernel_rfl
theorem kp35_2 (x0) : keep [4] [(4, .v U1 x0)] = [(4, .v U1 x0)] := by kernel_rfl
theorem kp35_3 (x0) : keep [4] [(19, .v .bool x0)] = [(4, .dead)] := by kernel_rfl
theorem hb35_1 (x0) : boolOf? (ent [(19, .v .bool x0)] (.t 19)) = some x0 := by kernel_rfl
def g35_8 (k0 : Int → Option R) : Option R :=
k0 (1 : Int)
theorem t35_8 : exec cl N c35_8 [(4, .dead)] K = (g35_8 (fun y0 => K .normal [(4, .v U1 y0)])) := by
 kernel_rfl
theorem kp35_4 (x0 x1 x2) : keep [2, 3, 4] (e198 x0 x1 x2) = (e197 x0 x1) := by kernel_rfl
theorem hb35_2 (x0 x1 x2) : boolOf? (ent (e198 x0 x1 x2) (.t 17)) = some x2 := by kernel_rfl
def g35_10 (k0 : V12 → V12 → Bool → Option R) (x0 x1 : V12) : Option R :=
k0 x0 x1 x0.1
theorem t35_10 (x0 x1) : exec cl N c35_10 (e197 x0 x1) K = (g35_10 (fun y0 y1 y2 => K .normal (e199 y0 y1 y2)) x0 x1) := by
 kernel_rfl
def g35_11 (S70 : V3 → V3 → V3 → V3 → Option (Int)) (k0 : Int → Option R) (x0 x1 : V12) (x2 : Bool) : Option R :=
(S70 x1.2.1 x1.2.2.1 x0.2.1 x0.2.2.1).bind fun r877 =>
k0 r877
theorem t35_11 (S70) (h70 : (ctr70 S70).holds cl) (x0 x1 x2) : exec cl N c35_11 (e199 x0 x1 x2) K = (g35_11 S70 (fun y0 => K .normal [(4, .v U1 y0)]) x0 x1 x2) := by
 rw [← put_eq h70]
 kernel_rfl
theorem kp35_5 (x0 x1 x2) : keep [2, 3, 4] (e199 x0 x1 x2) = (e197 x0 x1) := by kernel_rfl
theorem hb35_3 (x0 x1 x2) : boolOf? (ent (e199 x0 x1 x2) (.t 21)) = some x2 := by kernel_rfl
def g35_13 (S70 : V3 → V3 → V3 → V3 → Option (Int)) (k0 : Int → Option R) (x0 x1 : V12) : Option R :=
(S70 x0.2.1 x0.2.2.1 x1.2.1 x1.2.2.1).bind fun r878 =>
k0 r878
theorem t35_13 (S70) (h70 : (ctr70 S70).holds cl) (x0 x1) : exec cl N c35_13 (e197 x0 x1) K = (g35_13 S70 (fun y0 => K .normal [(4, .v U1 y0)]) x0 x1) := by
 rw [← put_eq h70]
 kernel_rfl
def g35_14 (S54 : V12 → Option (Bool)) (S70 : V3 → V3 → V3 → V3 → Option (Int)) (k0 : Int → Option R) (k1 : Int → Option R) (x0 x1 : V12) : Option R :=
(g35_0 (g35_1 S54 (fun y0 y1 y2 => brB y2 (g35_2 k0 y0 y1 y2) ((g35_4 (fun y0 y1 y2 => brB y2 (g35_5 (fun y0 => brB y0 (g35_6 k0 y0) (g35_8 k0)) y0 y1 y2) ((g35_10 (fun y0 y1 y2 => brB y2 (g35_11 S70 k0 y0 y1 y2) ((g35_13 S70 k1) y0 y1))) y0 y1))) y0 y1))) x0 x1)
theorem t35_14 (S54) (S70) (h54 : (ctr54 S54).holds cl) (h70 : (ctr70 S70).holds cl) (x0 x1) : exec cl N c35_14 (e194 x0 x1) K = (g35_14 S54 S70 (fun y0 => K .ret (e196 y0)) (fun y0 => K .ret [(4, .v U1 y0)]) x0 x1) := by
 simp only [c35_14, exec_seq, seqK_normal, seqK_exit, seqK_ret, t35_0, t35_1 S54 h54, c35_3, exec_out, exec_cond', hb35_0, Option.bind_some, brB_true, brB_false, t35_2, exec_ret, exec_skip, kp35_0, kp35_1, t35_4, c35_9, hb35_2, t35_5, c35_7, hb35_1, t35_6, kp35_2, kp35_3, t35_8, kp35_4, t35_10, c35_12, hb35_3, t35_11 S70 h70, kp35_5, t35_13 S70 h70]
 rfl
theorem rk35_0 (y0) : retK d35 .ret (e196 y0) = some [.v U1 y0] := by kernel_rfl
theorem rk35_1 (y0) : retK d35 .ret [(4, .v U1 y0)] = some [.v U1 y0] := by kernel_rfl
def g35 (S54 : V12 → Option (Bool)) (S70 : V3 → V3 → V3 → V3 → Option (Int)) (x0 x1 : V12) (k : Int → Option R) : Option R :=
(g35_14 S54 S70 k k x0 x1)
theorem gen35 (S54) (S70) (h54 : (ctr54 S54).holds cl) (h70 : (ctr70 S70).holds cl) (x0 x1) (k : List E → Option R) : exec cl N c35 (e194 x0 x1) (fun e env => (retK d35 e env).bind k) = g35 S54 S70 x0 x1 (fun r0 => k [.v U1 r0]) := by
 simp only [c35, t35_14 S54 S70 h54 h70, rk35_0, rk35_1, Option.bind_some]
 rfl
def ctr35 (S : V12 → V12 → Option (Int)) : Ctr := cv2 35 U9 U9 S fun b => [.v U1 b]
def S35 (N : Nat) (x0 : V12) (x1 : V12) : Option (Int) := g35 (S54 N) (S70 N) x0 x1 (fun (r0 : Int) => some (r0))
def g79_0 (k0 : V12 → Option R) (x0 : V12) : Option R :=
k0 x0
theorem t79_0 (x0) : exec cl N c79_0 [(0, .v U9 x0)] K = (g79_0 (fun y0 => K .normal [(1, .loc U9 .no y0)]) x0) := by
 kernel_rfl
def g79_1 (S54 : V12 → Option (Bool)) (k0 : V12 → Bool → Option R) (x0 : V12) : Option R :=
(S54 x0).bind fun r884 =>
k0 x0 (!r884)
theorem t79_1 (S54) (h54 : (ctr54 S54).holds cl) (x0) : exec cl N c79_1 [(1, .loc U9 .no x0)] K = (g79_1 S54 (fun y0 y1 => K .normal (e200 y0 y1)) x0) := by
 rw [← put_eq h54]
 kernel_rfl
def g79_2 (k0 : Int → Option R) (x0 : V12) (x1 : Bool) : Option R :=
k0 (1 : Int)
theorem t79_2 (x0 x1) : exec cl N c79_2 (e200 x0 x1) K = (g79_2 (fun y0 => K .normal [(2, .v U1 y0)]) x0 x1) := by
 kernel_rfl
theorem kp79_0 (x0) : keep [1, 2] [(2, .v U1 x0)] = (e75 x0) := by kernel_rfl
theorem kp79_1 (x0 x1) : keep [1, 2] (e200 x0 x1) = (e73 x0) := by kernel_rfl
theorem hb79_0 (x0 x1) : boolOf? (ent (e200 x0 x1) (.t 5)) = some x1 := by kernel_rfl
def g79_4 (S35 : V12 → V12 → Option (Int)) (S53 : Int → Option V4) (S60 : V3 → V3 → Option (Int)) (S104 : Option V13) (k0 : Bool → Option R) (x0 : V12) : Option R :=
brB x0.1 (k0 true) ((S104).bind fun r885 =>
(S35 x0 r885).bind fun r886 =>
brB (decide (r886 > (0 : Int))) (k0 true) ((S53 (1000 : Int)).bind fun r888 =>
(S60 x0.2.2.1 r888).bind fun r889 =>
k0 (decide (r889 > (0 : Int)))))
theorem t79_4 (S35) (S53) (S60) (S104) (h35 : (ctr35 S35).holds cl) (h53 : (ctr53 S53).holds cl) (h60 : (ctr60 S60).holds cl) (h104 : (ctr104 S104).holds cl) (x0) : exec cl N c79_4 (e73 x0) K = (g79_4 S35 S53 S60 S104 (fun y0 => K .normal [(20, .v .bool y0)]) x0) := by
 rw [← put_eq h35]
 rw [← put_eq h53]
 rw [← put_eq h60]
 rw [← put_eq h104]
 kernel_rfl
def g79_5 (k0 : Int → Option R) (x0 : Bool) : Option R :=
k0 (6 : Int)
theorem t79_5 (x0) : exec cl N c79_5 [(20, .v .bool x0)] K = (g79_5 (fun y0 => K .normal [(2, .v U1 y0)]) x0) := by
 kernel_rfl
theorem kp79_2 (x0) : keep [2] [(2, .v U1 x0)] = [(2, .v U1 x0)] := by kernel_rfl
theorem kp79_3 (x0) : keep [2] [(20, .v .bool x0)] = [(2, .dead)] := by kernel_rfl
theorem hb79_1 (x0) : boolOf? (ent [(20, .v .bool x0)] (.t 20)) = some x0 := by kernel_rfl
def g79_7 (k0 : Int → Option R) : Option R :=
k0 (0 : Int)
theorem t79_7 : exec cl N c79_7 [(2, .dead)] K = (g79_7 (fun y0 => K .normal [(2, .v U1 y0)])) := by
 kernel_rfl
def g79_8 (S35 : V12 → V12 → Option (Int)) (S53 : Int → Option V4) (S54 : V12 → Option (Bool)) (S60 : V3 → V3 → Option (Int)) (S104 : Option V13) (k0 : Int → Option R) (k1 : Int → Option R) (x0 : V12) : Option R :=
(g79_0 (g79_1 S54 (fun y0 y1 => brB y1 (g79_2 k0 y0 y1) ((g79_4 S35 S53 S60 S104 (fun y0 => brB y0 (g79_5 k1 y0) (g79_7 k1))) y0))) x0)
theorem t79_8 (S35) (S53) (S54) (S60) (S104) (h35 : (ctr35 S35).holds cl) (h53 : (ctr53 S53).holds cl) (h54 : (ctr54 S54).holds cl) (h60 : (ctr60 S60).holds cl) (h104 : (ctr104 S104).holds cl) (x0) : exec cl N c79_8 [(0, .v U9 x0)] K = (g79_8 S35 S53 S54 S60 S104 (fun y0 => K .ret (e75 y0)) (fun y0 => K .ret [(2, .v U1 y0)]) x0) := by
 simp only [c79_8, exec_seq, seqK_normal, seqK_exit, seqK_ret, t79_0, t79_1 S54 h54, c79_3, exec_out, exec_cond', hb79_0, Option.bind_some, brB_true, brB_false, t79_2, exec_ret, exec_skip, kp79_0, kp79_1, t79_4 S35 S53 S60 S104 h35 h53 h60 h104, c79_6, hb79_1, t79_5, kp79_2, kp79_3, t79_7]
 rfl
theorem rk79_0 (y0) : retK d79 .ret (e75 y0) = some [.v U1 y0] := by kernel_rfl
theorem rk79_1 (y0) : retK d79 .ret [(2, .v U1 y0)] = some [.v U1 y0] := by kernel_rfl
def g79 (S35 : V12 → V12 → Option (Int)) (S53 : Int → Option V4) (S54 : V12 → Option (Bool)) (S60 : V3 → V3 → Option (Int)) (S104 : Option V13) (x0 : V12) (k : Int → Option R) : Option R :=
(g79_8 S35 S53 S54 S60 S104 k k x0)
theorem gen79 (S35) (S53) (S54) (S60) (S104) (h35 : (ctr35 S35).holds cl) (h53 : (ctr53 S53).holds cl) (h54 : (ctr54 S54).holds cl) (h60 : (ctr60 S60).holds cl) (h104 : (ctr104 S104).holds cl) (x0) (k : List E → Option R) : exec cl N c79 [(0, .v U9 x0)] (fun e env => (retK d79 e env).bind k) = g79 S35 S53 S54 S60 S104 x0 (fun r0 => k [.v U1 r0]) := by
 simp only [c79, t79_8 S35 S53 S54 S60 S104 h35 h53 h54 h60 h104, rk79_0, rk79_1, Option.bind_some]
 rfl
def ctr79 (S : V12 → Option (Int)) : Ctr := cv1 79 U9 S fun b => [.v U1 b]
def S79 (N : Nat) (x0 : V12) : Option (Int) := g79 (S35 N) (S53 N) (S54 N) (S60 N) (S104 N) x0 (fun (r0 : Int) => some (r0))
def g47_0 (k0 : Int → Int → Int → Int → V12 → Option R) (x0 : V12) (x1 x2 x3 x4 : Int) : Option R :=
k0 x1 x2 x3 x4 x0
theorem t47_0 (x0 x1 x2 x3 x4) : exec cl N c47_0 (e201 x0 x1 x2 x3 x4) K = (g47_0 (fun y0 y1 y2 y3 y4 => K .normal [(1, .v U1 y0), (2, .v U1 y1), (3, .v U1 y2), (4, .v U1 y3), (5, .loc U9 .no y4)]) x0 x1 x2 x3 x4) := by
 kernel_rfl
def g47_5 (S79 : V12 → Option (Int)) (k0 : Int → Int → Int → Int → Int → Bool → Option R) (x0 x1 x2 x3 : Int) (x4 : V12) : Option R :=
(S79 x4).bind fun r899 =>
k0 x0 x1 x2 x3 r899 (r899 != (0 : Int))
theorem t47_5 (S79) (h79 : (ctr79 S79).holds cl) (x0 x1 x2 x3 x4) : exec cl N c47_5 [(1, .v U1 x0), (2, .v U1 x1), (3, .v U1 x2), (4, .v U1 x3), (5, .loc U9 .no x4)] K = (g47_5 S79 (fun y0 y1 y2 y3 y4 y5 => exec cl N c47_4 (e202 y0 y1 y2 y3 y4 y5) K) x0 x1 x2 x3 x4) := by
 rw [← put_eq h79]
 kernel_rfl
def g47_3 (k0 : Int → Option R) (x0 x1 x2 x3 x4 : Int) (x5 : Bool) : Option R :=
k0 x4
theorem t47_3 (x0 x1 x2 x3 x4 x5) : exec cl N c47_3 (e202 x0 x1 x2 x3 x4 x5) K = (g47_3 (fun y0 => K .normal [(10, .v U1 y0)]) x0 x1 x2 x3 x4 x5) := by
 kernel_rfl
theorem kp47_0 (x0) : keep [1, 2, 3, 4, 10] [(10, .v U1 x0)] = (e203 x0) := by kernel_rfl
theorem kp47_1 (x0 x1 x2 x3 x4 x5) : keep [1, 2, 3, 4, 10] (e202 x0 x1 x2 x3 x4 x5) = [(1, .v U1 x0), (2, .v U1 x1), (3, .v U1 x2), (4, .v U1 x3), (10, .dead)] := by kernel_rfl
theorem hb47_0 (x0 x1 x2 x3 x4 x5) : boolOf? (ent (e202 x0 x1 x2 x3 x4 x5) (.t 15)) = some x5 := by kernel_rfl
def g47_6 (k0 : Bool → Option R) (x0 x1 x2 x3 : Int) : Option R :=
brB (decide (x0 < (0 : Int))) (k0 true) (brB (decide (x0 > x1)) (k0 true) (brB (decide (x2 < (0 : Int))) (k0 true) (k0 (decide (x2 > x3)))))
theorem t47_6 (x0 x1 x2 x3) : exec cl N c47_6 [(1, .v U1 x0), (2, .v U1 x1), (3, .v U1 x2), (4, .v U1 x3), (10, .dead)] K = (g47_6 (fun y0 => K .normal [(32, .v .bool y0)]) x0 x1 x2 x3) := by
 kernel_rfl
def g47_7 (k0 : Int → Option R) (x0 : Bool) : Option R :=
k0 (6 : Int)
theorem t47_7 (x0) : exec cl N c47_7 [(32, .v .bool x0)] K = (g47_7 (fun y0 => K .normal [(10, .v U1 y0)]) x0) := by
 kernel_rfl
theorem kp47_2 (x0) : keep [10] [(10, .v U1 x0)] = [(10, .v U1 x0)] := by kernel_rfl
theorem kp47_3 (x0) : keep [10] [(32, .v .bool x0)] = [(10, .dead)] := by kernel_rfl
theorem hb47_1 (x0) : boolOf? (ent [(32, .v .bool x0)] (.t 32)) = some x0 := by kernel_rfl
def g47_9 (k0 : Int → Option R) : Option R :=
k0 (0 : Int)
theorem t47_9 : exec cl N c47_9 [(10, .dead)] K = (g47_9 (fun y0 => K .normal [(10, .v U1 y0)])) := by
 kernel_rfl
def g47_10 (S79 : V12 → Option (Int)) (k0 : Int → Option R) (k1 : Int → Option R) (x0 : V12) (x1 x2 x3 x4 : Int) : Option R :=
(g47_0 (g47_5 S79 (fun y0 y1 y2 y3 y4 y5 => brB y5 (g47_3 k0 y0 y1 y2 y3 y4 y5) ((g47_6 (fun y0 => brB y0 (g47_7 k1 y0) (g47_9 k1))) y0 y1 y2 y3))) x0 x1 x2 x3 x4)
theorem t47_10 (S79) (h79 : (ctr79 S79).holds cl) (x0 x1 x2 x3 x4) : exec cl N c47_10 (e201 x0 x1 x2 x3 x4) K = (g47_10 S79 (fun y0 => K .ret (e203 y0)) (fun y0 => K .ret [(10, .v U1 y0)]) x0 x1 x2 x3 x4) := by
 simp only [c47_10, exec_seq, seqK_normal, seqK_exit, seqK_ret, t47_0, t47_5 S79 h79, c47_4, exec_out, exec_cond', hb47_0, Option.bind_some, brB_true, brB_false, t47_3, exec_ret, exec_skip, kp47_0, kp47_1, t47_6, c47_8, hb47_1, t47_7, kp47_2, kp47_3, t47_9]
 rfl
theorem rk47_0 (y0) : retK d47 .ret (e203 y0) = some [.v U1 y0] := by kernel_rfl
theorem rk47_1 (y0) : retK d47 .ret [(10, .v U1 y0)] = some [.v U1 y0] := by kernel_rfl
def g47 (S79 : V12 → Option (Int)) (x0 : V12) (x1 x2 x3 x4 : Int) (k : Int → Option R) : Option R :=
(g47_10 S79 k k x0 x1 x2 x3 x4)
theorem gen47 (S79) (h79 : (ctr79 S79).holds cl) (x0 x1 x2 x3 x4) (k : List E → Option R) : exec cl N c47 (e201 x0 x1 x2 x3 x4) (fun e env => (retK d47 e env).bind k) = g47 S79 x0 x1 x2 x3 x4 (fun r0 => k [.v U1 r0]) := by
 simp only [c47, t47_10 S79 h79, rk47_0, rk47_1, Option.bind_some]
 rfl
def ctr47 (S : V12 → Int → Int → Int → Int → Option (Int)) : Ctr := cv5 47 U9 U1 U1 U1 U1 S fun b => [.v U1 b]
def S47 (N : Nat) (x0 : V12) (x1 : Int) (x2 : Int) (x3 : Int) (x4 : Int) : Option (Int) := g47 (S79 N) x0 x1 x2 x3 x4 (fun (r0 : Int) => some (r0))
def g61_0 (k0 : V3 → V3 → V3 → Option R) (x0 x1 : V3) : Option R :=
k0 x0 x1 ([], ())
theorem t61_0 (x0 x1) : exec cl N c61_0 (e52 x0 x1) K = (g61_0 (fun y0 y1 y2 => K .normal (e53 y0 y1 y2)) x0 x1) := by
 kernel_rfl
def g61_1 (S86 : V3 → Option (Bool)) (k0 : V3 → V3 → V3 → Bool → Option R) (x0 x1 x2 : V3) : Option R :=
(S86 x0).bind fun r916 =>
brB (!r916) (k0 x0 x1 x2 true) ((S86 x1).bind fun r917 =>
k0 x0 x1 x2 (!r917))
theorem t61_1 (S86) (h86 : (ctr86 S86).holds cl) (x0 x1 x2) : exec cl N c61_1 (e53 x0 x1 x2) K = (g61_1 S86 (fun y0 y1 y2 y3 => K .normal (e102 y0 y1 y2 y3)) x0 x1 x2) := by
 rw [← put_eq h86]
 kernel_rfl
def g61_2 (k0 : V3 → Int → Option R) (x0 x1 x2 : V3) (x3 : Bool) : Option R :=
k0 ([], ()) (1 : Int)
theorem t61_2 (x0 x1 x2 x3) : exec cl N c61_2 (e102 x0 x1 x2 x3) K = (g61_2 (fun y0 y1 => K .normal (e55 y0 y1)) x0 x1 x2 x3) := by
 kernel_rfl
theorem kp61_0 (x0 x1) : keep [2, 3, 4, 5] (e55 x0 x1) = (e56 x0 x1) := by kernel_rfl
theorem kp61_1 (x0 x1 x2 x3) : keep [2, 3, 4, 5] (e102 x0 x1 x2 x3) = (e57 x0 x1 x2) := by kernel_rfl
theorem hb61_0 (x0 x1 x2 x3) : boolOf? (ent (e102 x0 x1 x2 x3) (.t 13)) = some x3 := by kernel_rfl
def g61_4 (S60 : V3 → V3 → Option (Int)) (k0 : V3 → V3 → V3 → Bool → Option R) (x0 x1 x2 : V3) : Option R :=
(S60 x0 x1).bind fun r918 =>
k0 x0 x1 x2 (decide (r918 < (0 : Int)))
theorem t61_4 (S60) (h60 : (ctr60 S60).holds cl) (x0 x1 x2) : exec cl N c61_4 (e57 x0 x1 x2) K = (g61_4 S60 (fun y0 y1 y2 y3 => K .normal (e158 y0 y1 y2 y3)) x0 x1 x2) := by
 rw [← put_eq h60]
 kernel_rfl
def g61_5 (k0 : V3 → Int → Option R) (x0 x1 x2 : V3) (x3 : Bool) : Option R :=
k0 ([], ()) (6 : Int)
theorem t61_5 (x0 x1 x2 x3) : exec cl N c61_5 (e158 x0 x1 x2 x3) K = (g61_5 (fun y0 y1 => K .normal (e55 y0 y1)) x0 x1 x2 x3) := by
 kernel_rfl
theorem kp61_2 (x0 x1 x2 x3) : keep [2, 3, 4, 5] (e158 x0 x1 x2 x3) = (e57 x0 x1 x2) := by kernel_rfl
theorem hb61_1 (x0 x1 x2 x3) : boolOf? (ent (e158 x0 x1 x2 x3) (.t 18)) = some x3 := by kernel_rfl
def g61_7 (S91 : V0 → V0 → Option V1) (k0 : V3 → Int → Option R) (x0 x1 x2 : V3) : Option R :=
(S91 x0.1 x1.1).bind fun r920 =>
k0 (r920, ()) (0 : Int)
theorem t61_7 (S91) (h91 : (ctr91 S91).holds cl) (x0 x1 x2) : exec cl N c61_7 (e57 x0 x1 x2) K = (g61_7 S91 (fun y0 y1 => K .normal (e61 y0 y1)) x0 x1 x2) := by
 rw [← put_eq h91]
 kernel_rfl
def g61_8 (S60 : V3 → V3 → Option (Int)) (S86 : V3 → Option (Bool)) (S91 : V0 → V0 → Option V1) (k0 : V3 → Int → Option R) (k1 : V3 → Int → Option R) (x0 x1 : V3) : Option R :=
(g61_0 (g61_1 S86 (fun y0 y1 y2 y3 => brB y3 (g61_2 k0 y0 y1 y2 y3) ((g61_4 S60 (fun y0 y1 y2 y3 => brB y3 (g61_5 k0 y0 y1 y2 y3) ((g61_7 S91 k1) y0 y1 y2))) y0 y1 y2))) x0 x1)
theorem t61_8 (S60) (S86) (S91) (h60 : (ctr60 S60).holds cl) (h86 : (ctr86 S86).holds cl) (h91 : (ctr91 S91).holds cl) (x0 x1) : exec cl N c61_8 (e52 x0 x1) K = (g61_8 S60 S86 S91 (fun y0 y1 => K .ret (e56 y0 y1)) (fun y0 y1 => K .ret (e61 y0 y1)) x0 x1) := by
 simp only [c61_8, exec_seq, seqK_normal, seqK_exit, seqK_ret, t61_0, t61_1 S86 h86, c61_3, exec_out, exec_cond', hb61_0, Option.bind_some, brB_true, brB_false, t61_2, exec_ret, exec_skip, kp61_0, kp61_1, t61_4 S60 h60, c61_6, hb61_1, t61_5, kp61_2, t61_7 S91 h91]
 rfl
theorem rk61_0 (y0 y1) : retK d61 .ret (e56 y0 y1) = some [.v U4 y0, .v U1 y1] := by kernel_rfl
theorem rk61_1 (y0 y1) : retK d61 .ret (e61 y0 y1) = some [.v U4 y0, .v U1 y1] := by kernel_rfl
def g61 (S60 : V3 → V3 → Option (Int)) (S86 : V3 → Option (Bool)) (S91 : V0 → V0 → Option V1) (x0 x1 : V3) (k : V3 → Int → Option R) : Option R :=
(g61_8 S60 S86 S91 k k x0 x1)
theorem gen61 (S60) (S86) (S91) (h60 : (ctr60 S60).holds cl) (h86 : (ctr86 S86).holds cl) (h91 : (ctr91 S91).holds cl) (x0 x1) (k : List E → Option R) : exec cl N c61 (e52 x0 x1) (fun e env => (retK d61 e env).bind k) = g61 S60 S86 S91 x0 x1 (fun r0 r1 => k [.v U4 r0, .v U1 r1]) := by
 simp only [c61, t61_8 S60 S86 S91 h60 h86 h91, rk61_0, rk61_1, Option.bind_some]
 rfl
def ctr61 (S : V3 → V3 → Option V7) : Ctr := cv2 61 U4 U4 S fun b => [.v U4 b.1, .v U1 b.2]
def S61 (N : Nat) (x0 : V3) (x1 : V3) : Option V7 := g61 (S60 N) (S86 N) (S91 N) x0 x1 (fun (r0 : V3) (r1 : Int) => some (r0, r1))
end Go.Fw.L51
