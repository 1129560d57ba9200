/- Printed by an own program for this claim: the machine's code of functions, or their typed forms with their equations; no conditions. -/
import Derived.Test.YtnobiophckdjfaaFwMhy51a
import Derived.Test.YtnobiophckdjfaaFwB5
set_option linter.unusedVariables false
set_option linter.unusedSimpArgs false
namespace Go.Fw.L51
open Go Go.Fw
set_option maxRecDepth 100000
set_option linter.unusedVariables false
set_option linter.unusedSimpArgs false
variable {N : Nat} {cl : Cal} {R : Type} {K : KE R}
def g91_22 (k0 : V0 → V0 → V0 → Int → Option R) (x0 x1 : V0) : Option R :=
k0 x0 x1 [] (0 : Int)
theorem t91_22 (x0 x1) : exec cl N c91_22 (e14 x0 x1) K = (g91_22 (fun y0 y1 y2 y3 => exec cl N (.seq (.seq c91_3 c91_20) (.seq c91_21 .ret)) (e97 y0 y1 y2 y3) K) x0 x1) := by
  kernel_rfl
def g91_3 (k0 : V0 → V0 → V0 → Int → Int → Option R) (x0 x1 x2 : V0) (x3 : Int) : Option R :=
k0 x0 x1 x2 x3 (0 : Int)
theorem t91_3 (x0 x1 x2 x3) : exec cl N c91_3 (e97 x0 x1 x2 x3) K = (g91_3 (fun y0 y1 y2 y3 y4 => K .normal (e103 y0 y1 y2 y3 y4)) x0 x1 x2 x3) := by
  kernel_rfl
theorem kp91_0 (x0 x1 x2 x3 x4) : keep [0, 1, 5, 6, 7] (e103 x0 x1 x2 x3 x4) = (e103 x0 x1 x2 x3 x4) := by kernel_rfl
def g91_4 (k0 : V0 → V0 → V0 → Int → Int → Bool → Option R) (x0 x1 x2 : V0) (x3 x4 : Int) : Option R :=
k0 x0 x1 x2 x3 x4 (decide (x4 < (x0.length : Int)))
theorem t91_4 (x0 x1 x2 x3 x4) : exec cl N c91_4 (e103 x0 x1 x2 x3 x4) K = (g91_4 (fun y0 y1 y2 y3 y4 y5 => K .normal (e104 y0 y1 y2 y3 y4 y5)) x0 x1 x2 x3 x4) := by
  kernel_rfl
theorem kp91_1 (x0 x1 x2 x3 x4 x5) : keep [0, 1, 5, 6, 7] (e104 x0 x1 x2 x3 x4 x5) = (e103 x0 x1 x2 x3 x4) := by kernel_rfl
theorem hb91_0 (x0 x1 x2 x3 x4 x5) : boolOf? (ent (e104 x0 x1 x2 x3 x4 x5) (.t 12)) = some x5 := by kernel_rfl
def g91_15 (S112 : V0 → Int → Option (Int)) (k0 : V0 → V0 → V0 → Int → Int → Int → Option R) (x0 x1 x2 : V0) (x3 x4 : Int) : Option R :=
if 0 ≤ x4 ∧ x4 < (x0.length : Int) then
(S112 x1 x4).bind fun r545 =>
k0 x0 x1 x2 (0 : Int) x4 (IntKind.i64.wrap ((IntKind.i64.wrap ((x0.getD x4.toNat (0 : Int)) - r545)) - x3))
else none
theorem t91_15 (S112) (h112 : (ctr112 S112).holds cl) (x0 x1 x2 x3 x4) : exec cl N c91_15 (e103 x0 x1 x2 x3 x4) K = (g91_15 S112 (fun y0 y1 y2 y3 y4 y5 => exec cl N (.seq c91_13 c91_14) (e99 y0 y1 y2 y3 y4 y5) K) x0 x1 x2 x3 x4) := by
  rw [← put_eq h112]
  kernel_rfl
def g91_8 (k0 : V0 → V0 → V0 → Int → Int → Int → Bool → Option R) (x0 x1 x2 : V0) (x3 x4 x5 : Int) : Option R :=
k0 x0 x1 x2 x3 x4 x5 (decide (x5 < (0 : Int)))
theorem t91_8 (x0 x1 x2 x3 x4 x5) : exec cl N c91_8 (e99 x0 x1 x2 x3 x4 x5) K = (g91_8 (fun y0 y1 y2 y3 y4 y5 y6 => K .normal (e105 y0 y1 y2 y3 y4 y5 y6)) x0 x1 x2 x3 x4 x5) := by
  kernel_rfl
def g91_11 (k0 : V0 → V0 → V0 → Int → Int → Int → Option R) (x0 x1 x2 : V0) (x3 x4 x5 : Int) (x6 : Bool) : Option R :=
k0 x0 x1 x2 (1 : Int) x4 (IntKind.i64.wrap (x5 + (10000 : Int)))
theorem t91_11 (x0 x1 x2 x3 x4 x5 x6) : exec cl N c91_11 (e105 x0 x1 x2 x3 x4 x5 x6) K = (g91_11 (fun y0 y1 y2 y3 y4 y5 => K .normal (e99 y0 y1 y2 y3 y4 y5)) x0 x1 x2 x3 x4 x5 x6) := by
  kernel_rfl
theorem kp91_2 (x0 x1 x2 x3 x4 x5) : keep [0, 1, 5, 6, 7, 8] (e99 x0 x1 x2 x3 x4 x5) = (e99 x0 x1 x2 x3 x4 x5) := by kernel_rfl
theorem kp91_3 (x0 x1 x2 x3 x4 x5 x6) : keep [0, 1, 5, 6, 7, 8] (e105 x0 x1 x2 x3 x4 x5 x6) = (e99 x0 x1 x2 x3 x4 x5) := by kernel_rfl
theorem hb91_1 (x0 x1 x2 x3 x4 x5 x6) : boolOf? (ent (e105 x0 x1 x2 x3 x4 x5 x6) (.t 26)) = some x6 := by kernel_rfl
def g91_13 (k0 : V0 → V0 → V0 → Int → Int → Int → Option R) (x0 x1 x2 : V0) (x3 x4 x5 : Int) : Option R :=
(g91_8 (fun y0 y1 y2 y3 y4 y5 y6 => brB y6 (g91_11 k0 y0 y1 y2 y3 y4 y5 y6) (k0 y0 y1 y2 y3 y4 y5)) x0 x1 x2 x3 x4 x5)
theorem t91_13 (x0 x1 x2 x3 x4 x5) : exec cl N c91_13 (e99 x0 x1 x2 x3 x4 x5) K = (g91_13 (fun y0 y1 y2 y3 y4 y5 => K .normal (e99 y0 y1 y2 y3 y4 y5)) x0 x1 x2 x3 x4 x5) := by
  simp only [c91_13, exec_seq, seqK_normal, seqK_exit, seqK_ret, t91_8, c91_12, exec_out, exec_cond', hb91_1, Option.bind_some, brB_true, brB_false, t91_11, exec_skip, kp91_2, kp91_3]
  rfl
def g91_14 (k0 : V0 → V0 → V0 → Int → Int → Option R) (x0 x1 x2 : V0) (x3 x4 x5 : Int) : Option R :=
if x2.length + [x5].length ≤ 17592186044416 then
k0 x0 x1 (x2 ++ [x5]) x3 x4
else none
theorem t91_14 (x0 x1 x2 x3 x4 x5) : exec cl N c91_14 (e99 x0 x1 x2 x3 x4 x5) K = (g91_14 (fun y0 y1 y2 y3 y4 => K .normal (e103 y0 y1 y2 y3 y4)) x0 x1 x2 x3 x4 x5) := by
  kernel_rfl
def g91_17 (k0 : V0 → V0 → V0 → Int → Int → Option R) (x0 x1 x2 : V0) (x3 x4 : Int) : Option R :=
k0 x0 x1 x2 x3 (IntKind.i64.wrap (x4 + (1 : Int)))
theorem t91_17 (x0 x1 x2 x3 x4) : exec cl N c91_17 (e103 x0 x1 x2 x3 x4) K = (g91_17 (fun y0 y1 y2 y3 y4 => K .normal (e103 y0 y1 y2 y3 y4)) x0 x1 x2 x3 x4) := by
  kernel_rfl
def g91_18 (S112 : V0 → Int → Option (Int)) (k0 : V0 → V0 → V0 → Int → Int → Option R) (k1 : V0 → V0 → V0 → Int → Int → Option R) (x0 x1 x2 : V0) (x3 x4 : Int) : Option R :=
(g91_4 (fun y0 y1 y2 y3 y4 y5 => brB y5 ((g91_15 S112 (g91_13 (g91_14 ((g91_17 k0))))) y0 y1 y2 y3 y4) (k1 y0 y1 y2 y3 y4)) x0 x1 x2 x3 x4)
theorem t91_18 (S112) (h112 : (ctr112 S112).holds cl) (x0 x1 x2 x3 x4) : exec cl N c91_18 (e103 x0 x1 x2 x3 x4) K = (g91_18 S112 (fun y0 y1 y2 y3 y4 => K .normal (e103 y0 y1 y2 y3 y4)) (fun y0 y1 y2 y3 y4 => K (.exit 0) (e103 y0 y1 y2 y3 y4)) x0 x1 x2 x3 x4) := by
  simp only [c91_18, exec_seq, seqK_normal, seqK_exit, seqK_ret, t91_4, c91_5, exec_out, exec_cond', hb91_0, Option.bind_some, brB_true, brB_false, exec_skip, exec_exit, kp91_1, c91_16, exec_block, t91_15 S112 h112, t91_13, t91_14, blockK_normal, blockK_ret, blockK_eq, kp91_0, t91_17]
  rfl
def l91_19 {R : Type} (S112 : V0 → Int → Option (Int)) (k0 : V0 → V0 → V0 → Int → Int → Option R) : Nat → V0 → V0 → V0 → Int → Int → Option R
  | 0, _, _, _, _, _ => none
  | m + 1, x0, x1, x2, x3, x4 => (g91_18 S112 (l91_19 S112 k0 m) k0 x0 x1 x2 x3 x4)
theorem lt91_19 (S112) (h112 : (ctr112 S112).holds cl) : ∀ (m) (x0 x1 x2 x3 x4), iter [0, 1, 5, 6, 7] (fun env K => exec cl N c91_18 env K) K m (e103 x0 x1 x2 x3 x4) = l91_19 S112 (fun y0 y1 y2 y3 y4 => K (.exit 0) (e103 y0 y1 y2 y3 y4)) m x0 x1 x2 x3 x4 := by
  intro m
  induction m with
  | zero => intros; rfl
  | succ m ih =>
    intro x0 x1 x2 x3 x4
    simp only [iter_succ, t91_18 S112 h112, loopK_normal, loopK_exit, loopK_ret, kp91_0, ih]
    rfl
theorem kp91_4 (x0 x1 x2 x3 x4) : keep [5] (e103 x0 x1 x2 x3 x4) = (e22 x2) := by kernel_rfl
def g91_19 (N : Nat) (S112 : V0 → Int → Option (Int)) (k0 : V0 → Option R) (x0 x1 x2 : V0) (x3 x4 : Int) : Option R :=
l91_19 S112 (fun y0 y1 y2 y3 y4 => k0 y2) N x0 x1 x2 x3 x4
theorem t91_19 (S112) (h112 : (ctr112 S112).holds cl) (x0 x1 x2 x3 x4) : exec cl N c91_19 (e103 x0 x1 x2 x3 x4) K = (g91_19 N S112 (fun y0 => K (.exit 0) (e22 y0)) x0 x1 x2 x3 x4) := by
  simp only [c91_19, exec_out, exec_loop, kp91_0, lt91_19 S112 h112, kp91_4]
  rfl
theorem kp91_5 (x0) : keep [5] (e22 x0) = (e22 x0) := by kernel_rfl
def g91_21 (S113 : V0 → Option V1) (k0 : V0 → Option R) (x0 : V0) : Option R :=
(S113 x0).bind fun r552 =>
k0 r552
theorem t91_21 (S113) (h113 : (ctr113 S113).holds cl) (x0) : exec cl N c91_21 (e22 x0) K = (g91_21 S113 (fun y0 => K .normal [(4, .v U2 y0)]) x0) := by
  rw [← put_eq h113]
  kernel_rfl
def g91_22b (N : Nat) (S112 : V0 → Int → Option (Int)) (S113 : V0 → Option V1) (k0 : V0 → Option R) (x0 x1 : V0) : Option R :=
(g91_22 (g91_3 (g91_19 N S112 ((g91_21 S113 k0)))) x0 x1)
theorem t91_22b (S112) (S113) (h112 : (ctr112 S112).holds cl) (h113 : (ctr113 S113).holds cl) (x0 x1) : exec cl N c91_22 (e14 x0 x1) K = (g91_22b N S112 S113 (fun y0 => K .ret [(4, .v U2 y0)]) x0 x1) := by
  simp only [exec_seq, seqK_normal, seqK_exit, seqK_ret, t91_22, t91_3, c91_20, exec_out, exec_block, t91_19 S112 h112, blockK_normal, blockK_ret, blockK_eq, kp91_5, t91_21 S113 h113, exec_ret]
  rfl
theorem rk91_0 (y0) : retK d91 .ret [(4, .v U2 y0)] = some [.v U2 y0] := by kernel_rfl
def g91 (N : Nat) (S112 : V0 → Int → Option (Int)) (S113 : V0 → Option V1) (x0 x1 : V0) (k : V0 → Option R) : Option R :=
(g91_22b N S112 S113 k x0 x1)
theorem gen91 {N : Nat} {cl : Cal} (S112 : V0 → Int → Option (Int)) (S113 : V0 → Option V1) (h112 : (ctr112 S112).holds cl) (h113 : (ctr113 S113).holds cl) (x0 : V0) (x1 : V0) {R : Type} (k : List E → Option R) : exec cl N c91 (params 0 [.v U2 x0, .v U2 x1]) (fun e env => (retK d91 e env).bind k) = g91 N S112 S113 x0 x1 (fun (r0 : V0) => k [.v U2 r0]) := by
  have e0 : params 0 [.v U2 x0, .v U2 x1] = (e14 x0 x1) := by kernel_rfl
  simp only [c91, e0, t91_22b S112 S113 h112 h113, rk91_0, Option.bind_some]
  rfl
def ctr91 (S : V0 → V0 → Option V1) : Ctr := { A := V0 × V0 × Unit, B := V0, f := 91, enc := fun a => [.v U2 a.1, .v U2 a.2.1], dec := (decC (decV U2) (decC (decV U2) dec0)), S := fun a => S a.1 a.2.1, ent := fun b => [.v U2 b], ok := (decV_cons (T := U2) (decV_cons (T := U2) (fun es b h => dec0_some h))) }
def S91 (N : Nat) (x0 : V0) (x1 : V0) : Option V1 := g91 N (S112 N) (S113 N) x0 x1 (fun (r0 : V0) => some (r0))
def g110_30 (k0 : V0 → V0 → V0 → V0 → Option R) (x0 x1 : V0) : Option R :=
if 0 ≤ (x0.length : Int) ∧ (x0.length : Int) ≤ (x0.length : Int) ∧ (x0.length : Int) ≤ ((17592186044416 : Nat) : Int) then
k0 x0 x1 (List.replicate (x0.length : Int).toNat (0 : Int)) []
else none
theorem t110_30 (x0 x1) : exec cl N c110_30 (e14 x0 x1) K = (g110_30 (fun y0 y1 y2 y3 => exec cl N (.seq (.seq c110_3 c110_28) (.seq c110_29 .ret)) (e36 y0 y1 y2 y3) K) x0 x1) := by
  kernel_rfl
def g110_3 (k0 : V0 → V0 → V0 → V0 → Int → Option R) (x0 x1 x2 x3 : V0) : Option R :=
k0 x0 x1 x2 x3 (IntKind.i64.wrap ((x0.length : Int) - (1 : Int)))
theorem t110_3 (x0 x1 x2 x3) : exec cl N c110_3 (e36 x0 x1 x2 x3) K = (g110_3 (fun y0 y1 y2 y3 y4 => K .normal (e37 y0 y1 y2 y3 y4)) x0 x1 x2 x3) := by
  kernel_rfl
theorem kp110_0 (x0 x1 x2 x3 x4) : keep [0, 1, 6, 7, 8] (e37 x0 x1 x2 x3 x4) = (e37 x0 x1 x2 x3 x4) := by kernel_rfl
def g110_4 (k0 : V0 → V0 → V0 → V0 → Int → Bool → Option R) (x0 x1 x2 x3 : V0) (x4 : Int) : Option R :=
k0 x0 x1 x2 x3 x4 (decide (x4 ≥ (0 : Int)))
theorem t110_4 (x0 x1 x2 x3 x4) : exec cl N c110_4 (e37 x0 x1 x2 x3 x4) K = (g110_4 (fun y0 y1 y2 y3 y4 y5 => K .normal (e106 y0 y1 y2 y3 y4 y5)) x0 x1 x2 x3 x4) := by
  kernel_rfl
theorem kp110_1 (x0 x1 x2 x3 x4 x5) : keep [0, 1, 6, 7, 8] (e106 x0 x1 x2 x3 x4 x5) = (e37 x0 x1 x2 x3 x4) := by kernel_rfl
theorem hb110_0 (x0 x1 x2 x3 x4 x5) : boolOf? (ent (e106 x0 x1 x2 x3 x4 x5) (.t 19)) = some x5 := by kernel_rfl
def g110_23 (S113 : V0 → Option V1) (k0 : V0 → V0 → V0 → V0 → Int → Int → Int → Option R) (x0 x1 x2 x3 : V0) (x4 : Int) : Option R :=
if 0 ≤ x4 ∧ x4 < (x0.length : Int) then
if [(x0.getD x4.toNat (0 : Int))].length + x3.length ≤ 17592186044416 then
(S113 ([(x0.getD x4.toNat (0 : Int))] ++ x3)).bind fun r559 =>
k0 x0 x1 x2 r559 x4 (0 : Int) (9999 : Int)
else none
else none
theorem t110_23 (S113) (h113 : (ctr113 S113).holds cl) (x0 x1 x2 x3 x4) : exec cl N c110_23 (e37 x0 x1 x2 x3 x4) K = (g110_23 S113 (fun y0 y1 y2 y3 y4 y5 y6 => exec cl N (.seq c110_19 c110_22) (e39 y0 y1 y2 y3 y4 y5 y6) K) x0 x1 x2 x3 x4) := by
  rw [← put_eq h113]
  kernel_rfl
theorem kp110_2 (x0 x1 x2 x3 x4 x5 x6) : keep [0, 1, 6, 7, 8, 9, 10] (e39 x0 x1 x2 x3 x4 x5 x6) = (e39 x0 x1 x2 x3 x4 x5 x6) := by kernel_rfl
def g110_8 (k0 : V0 → V0 → V0 → V0 → Int → Int → Int → Bool → Option R) (x0 x1 x2 x3 : V0) (x4 x5 x6 : Int) : Option R :=
k0 x0 x1 x2 x3 x4 x5 x6 (decide (x5 < x6))
theorem t110_8 (x0 x1 x2 x3 x4 x5 x6) : exec cl N c110_8 (e39 x0 x1 x2 x3 x4 x5 x6) K = (g110_8 (fun y0 y1 y2 y3 y4 y5 y6 y7 => K .normal (e107 y0 y1 y2 y3 y4 y5 y6 y7)) x0 x1 x2 x3 x4 x5 x6) := by
  kernel_rfl
theorem kp110_3 (x0 x1 x2 x3 x4 x5 x6 x7) : keep [0, 1, 6, 7, 8, 9, 10] (e107 x0 x1 x2 x3 x4 x5 x6 x7) = (e39 x0 x1 x2 x3 x4 x5 x6) := by kernel_rfl
theorem hb110_1 (x0 x1 x2 x3 x4 x5 x6 x7) : boolOf? (ent (e107 x0 x1 x2 x3 x4 x5 x6 x7) (.t 32)) = some x7 := by kernel_rfl
def g110_15 (S88 : V0 → V0 → Option V1) (S90 : V0 → V0 → Option (Int)) (k0 : V0 → V0 → V0 → V0 → Int → Int → Int → Int → Bool → Option R) (x0 x1 x2 x3 : V0) (x4 x5 x6 : Int) : Option R :=
let v566 : Int := (IntKind.i64.wrap (Int.tdiv (IntKind.i64.wrap ((IntKind.i64.wrap (x5 + x6)) + (1 : Int))) (2 : Int)))
(S88 x1 [v566]).bind fun r567 =>
(S90 r567 x3).bind fun r568 =>
k0 x0 x1 x2 x3 x4 x5 x6 v566 (decide (r568 ≤ (0 : Int)))
theorem t110_15 (S88) (S90) (h88 : (ctr88 S88).holds cl) (h90 : (ctr90 S90).holds cl) (x0 x1 x2 x3 x4 x5 x6) : exec cl N c110_15 (e39 x0 x1 x2 x3 x4 x5 x6) K = (g110_15 S88 S90 (fun y0 y1 y2 y3 y4 y5 y6 y7 y8 => exec cl N c110_14 (e108 y0 y1 y2 y3 y4 y5 y6 y7 y8) K) x0 x1 x2 x3 x4 x5 x6) := by
  rw [← put_eq h88]
  rw [← put_eq h90]
  kernel_rfl
def g110_12 (k0 : V0 → V0 → V0 → V0 → Int → Int → Int → Option R) (x0 x1 x2 x3 : V0) (x4 x5 x6 x7 : Int) (x8 : Bool) : Option R :=
k0 x0 x1 x2 x3 x4 x7 x6
theorem t110_12 (x0 x1 x2 x3 x4 x5 x6 x7 x8) : exec cl N c110_12 (e108 x0 x1 x2 x3 x4 x5 x6 x7 x8) K = (g110_12 (fun y0 y1 y2 y3 y4 y5 y6 => K .normal (e39 y0 y1 y2 y3 y4 y5 y6)) x0 x1 x2 x3 x4 x5 x6 x7 x8) := by
  kernel_rfl
def g110_13 (k0 : V0 → V0 → V0 → V0 → Int → Int → Int → Option R) (x0 x1 x2 x3 : V0) (x4 x5 x6 x7 : Int) (x8 : Bool) : Option R :=
k0 x0 x1 x2 x3 x4 x5 (IntKind.i64.wrap (x7 - (1 : Int)))
theorem t110_13 (x0 x1 x2 x3 x4 x5 x6 x7 x8) : exec cl N c110_13 (e108 x0 x1 x2 x3 x4 x5 x6 x7 x8) K = (g110_13 (fun y0 y1 y2 y3 y4 y5 y6 => K .normal (e39 y0 y1 y2 y3 y4 y5 y6)) x0 x1 x2 x3 x4 x5 x6 x7 x8) := by
  kernel_rfl
theorem hb110_2 (x0 x1 x2 x3 x4 x5 x6 x7 x8) : boolOf? (ent (e108 x0 x1 x2 x3 x4 x5 x6 x7 x8) (.t 44)) = some x8 := by kernel_rfl
def g110_17 (S88 : V0 → V0 → Option V1) (S90 : V0 → V0 → Option (Int)) (k0 : V0 → V0 → V0 → V0 → Int → Int → Int → Option R) (k1 : V0 → V0 → V0 → V0 → Int → Int → Int → Option R) (x0 x1 x2 x3 : V0) (x4 x5 x6 : Int) : Option R :=
(g110_8 (fun y0 y1 y2 y3 y4 y5 y6 y7 => brB y7 ((g110_15 S88 S90 (fun y0 y1 y2 y3 y4 y5 y6 y7 y8 => brB y8 (g110_12 k0 y0 y1 y2 y3 y4 y5 y6 y7 y8) (g110_13 k0 y0 y1 y2 y3 y4 y5 y6 y7 y8))) y0 y1 y2 y3 y4 y5 y6) (k1 y0 y1 y2 y3 y4 y5 y6)) x0 x1 x2 x3 x4 x5 x6)
theorem t110_17 (S88) (S90) (h88 : (ctr88 S88).holds cl) (h90 : (ctr90 S90).holds cl) (x0 x1 x2 x3 x4 x5 x6) : exec cl N c110_17 (e39 x0 x1 x2 x3 x4 x5 x6) K = (g110_17 S88 S90 (fun y0 y1 y2 y3 y4 y5 y6 => K .normal (e39 y0 y1 y2 y3 y4 y5 y6)) (fun y0 y1 y2 y3 y4 y5 y6 => K (.exit 2) (e39 y0 y1 y2 y3 y4 y5 y6)) x0 x1 x2 x3 x4 x5 x6) := by
  simp only [c110_17, exec_seq, seqK_normal, seqK_exit, seqK_ret, t110_8, c110_9, exec_out, exec_cond', hb110_1, Option.bind_some, brB_true, brB_false, exec_skip, exec_exit, kp110_3, c110_16, exec_block, t110_15 S88 S90 h88 h90, c110_14, hb110_2, t110_12, t110_13, kp110_2, blockK_normal, blockK_ret, blockK_eq]
  rfl
def l110_18 {R : Type} (S88 : V0 → V0 → Option V1) (S90 : V0 → V0 → Option (Int)) (k0 : V0 → V0 → V0 → V0 → Int → Int → Int → Option R) : Nat → V0 → V0 → V0 → V0 → Int → Int → Int → Option R
  | 0, _, _, _, _, _, _, _ => none
  | m + 1, x0, x1, x2, x3, x4, x5, x6 => (g110_17 S88 S90 (l110_18 S88 S90 k0 m) k0 x0 x1 x2 x3 x4 x5 x6)
theorem lt110_18 (S88) (S90) (h88 : (ctr88 S88).holds cl) (h90 : (ctr90 S90).holds cl) : ∀ (m) (x0 x1 x2 x3 x4 x5 x6), iter [0, 1, 6, 7, 8, 9, 10] (fun env K => exec cl N c110_17 env K) K m (e39 x0 x1 x2 x3 x4 x5 x6) = l110_18 S88 S90 (fun y0 y1 y2 y3 y4 y5 y6 => K (.exit 2) (e39 y0 y1 y2 y3 y4 y5 y6)) m x0 x1 x2 x3 x4 x5 x6 := by
  intro m
  induction m with
  | zero => intros; rfl
  | succ m ih =>
    intro x0 x1 x2 x3 x4 x5 x6
    simp only [iter_succ, t110_17 S88 S90 h88 h90, loopK_normal, loopK_exit, loopK_ret, kp110_2, ih]
    rfl
theorem kp110_4 (x0 x1 x2 x3 x4 x5 x6) : keep [0, 1, 6, 7, 8, 9] (e39 x0 x1 x2 x3 x4 x5 x6) = (e42 x0 x1 x2 x3 x4 x5) := by kernel_rfl
def g110_18 (N : Nat) (S88 : V0 → V0 → Option V1) (S90 : V0 → V0 → Option (Int)) (k0 : V0 → V0 → V0 → V0 → Int → Int → Option R) (x0 x1 x2 x3 : V0) (x4 x5 x6 : Int) : Option R :=
l110_18 S88 S90 (fun y0 y1 y2 y3 y4 y5 y6 => k0 y0 y1 y2 y3 y4 y5) N x0 x1 x2 x3 x4 x5 x6
theorem t110_18 (S88) (S90) (h88 : (ctr88 S88).holds cl) (h90 : (ctr90 S90).holds cl) (x0 x1 x2 x3 x4 x5 x6) : exec cl N c110_18 (e39 x0 x1 x2 x3 x4 x5 x6) K = (g110_18 N S88 S90 (fun y0 y1 y2 y3 y4 y5 => K (.exit 2) (e42 y0 y1 y2 y3 y4 y5)) x0 x1 x2 x3 x4 x5 x6) := by
  simp only [c110_18, exec_out, exec_loop, kp110_2, lt110_18 S88 S90 h88 h90, kp110_4]
  rfl
theorem kp110_5 (x0 x1 x2 x3 x4 x5) : keep [0, 1, 6, 7, 8, 9] (e42 x0 x1 x2 x3 x4 x5) = (e42 x0 x1 x2 x3 x4 x5) := by kernel_rfl
def g110_22 (S88 : V0 → V0 → Option V1) (S91 : V0 → V0 → Option V1) (k0 : V0 → V0 → V0 → V0 → Int → Option R) (x0 x1 x2 x3 : V0) (x4 x5 : Int) : Option R :=
if 0 ≤ x4 ∧ x4 < (x2.length : Int) then
if x4.toNat < x2.length then
(S88 x1 [x5]).bind fun r571 =>
(S91 x3 r571).bind fun r572 =>
k0 x0 x1 (x2.set x4.toNat x5) r572 x4
else none
else none
theorem t110_22 (S88) (S91) (h88 : (ctr88 S88).holds cl) (h91 : (ctr91 S91).holds cl) (x0 x1 x2 x3 x4 x5) : exec cl N c110_22 (e42 x0 x1 x2 x3 x4 x5) K = (g110_22 S88 S91 (fun y0 y1 y2 y3 y4 => K .normal (e37 y0 y1 y2 y3 y4)) x0 x1 x2 x3 x4 x5) := by
  rw [← put_eq h88]
  rw [← put_eq h91]
  kernel_rfl
def g110_25 (k0 : V0 → V0 → V0 → V0 → Int → Option R) (x0 x1 x2 x3 : V0) (x4 : Int) : Option R :=
k0 x0 x1 x2 x3 (IntKind.i64.wrap (x4 - (1 : Int)))
theorem t110_25 (x0 x1 x2 x3 x4) : exec cl N c110_25 (e37 x0 x1 x2 x3 x4) K = (g110_25 (fun y0 y1 y2 y3 y4 => K .normal (e37 y0 y1 y2 y3 y4)) x0 x1 x2 x3 x4) := by
  kernel_rfl
def g110_26 (N : Nat) (S88 : V0 → V0 → Option V1) (S90 : V0 → V0 → Option (Int)) (S91 : V0 → V0 → Option V1) (S113 : V0 → Option V1) (k0 : V0 → V0 → V0 → V0 → Int → Option R) (k1 : V0 → V0 → V0 → V0 → Int → Option R) (x0 x1 x2 x3 : V0) (x4 : Int) : Option R :=
(g110_4 (fun y0 y1 y2 y3 y4 y5 => brB y5 ((g110_23 S113 (g110_18 N S88 S90 ((g110_22 S88 S91 ((g110_25 k0)))))) y0 y1 y2 y3 y4) (k1 y0 y1 y2 y3 y4)) x0 x1 x2 x3 x4)
theorem t110_26 (S88) (S90) (S91) (S113) (h88 : (ctr88 S88).holds cl) (h90 : (ctr90 S90).holds cl) (h91 : (ctr91 S91).holds cl) (h113 : (ctr113 S113).holds cl) (x0 x1 x2 x3 x4) : exec cl N c110_26 (e37 x0 x1 x2 x3 x4) K = (g110_26 N S88 S90 S91 S113 (fun y0 y1 y2 y3 y4 => K .normal (e37 y0 y1 y2 y3 y4)) (fun y0 y1 y2 y3 y4 => K (.exit 0) (e37 y0 y1 y2 y3 y4)) x0 x1 x2 x3 x4) := by
  simp only [c110_26, exec_seq, seqK_normal, seqK_exit, seqK_ret, t110_4, c110_5, exec_out, exec_cond', hb110_0, Option.bind_some, brB_true, brB_false, exec_skip, exec_exit, kp110_1, c110_24, exec_block, t110_23 S113 h113, c110_19, t110_18 S88 S90 h88 h90, blockK_normal, blockK_ret, blockK_eq, kp110_5, t110_22 S88 S91 h88 h91, kp110_0, t110_25]
  rfl
def l110_27 {R : Type} (N : Nat) (S88 : V0 → V0 → Option V1) (S90 : V0 → V0 → Option (Int)) (S91 : V0 → V0 → Option V1) (S113 : V0 → Option V1) (k0 : V0 → V0 → V0 → V0 → Int → Option R) : Nat → V0 → V0 → V0 → V0 → Int → Option R
  | 0, _, _, _, _, _ => none
  | m + 1, x0, x1, x2, x3, x4 => (g110_26 N S88 S90 S91 S113 (l110_27 N S88 S90 S91 S113 k0 m) k0 x0 x1 x2 x3 x4)
theorem lt110_27 (S88) (S90) (S91) (S113) (h88 : (ctr88 S88).holds cl) (h90 : (ctr90 S90).holds cl) (h91 : (ctr91 S91).holds cl) (h113 : (ctr113 S113).holds cl) : ∀ (m) (x0 x1 x2 x3 x4), iter [0, 1, 6, 7, 8] (fun env K => exec cl N c110_26 env K) K m (e37 x0 x1 x2 x3 x4) = l110_27 N S88 S90 S91 S113 (fun y0 y1 y2 y3 y4 => K (.exit 0) (e37 y0 y1 y2 y3 y4)) m x0 x1 x2 x3 x4 := by
  intro m
  induction m with
  | zero => intros; rfl
  | succ m ih =>
    intro x0 x1 x2 x3 x4
    simp only [iter_succ, t110_26 S88 S90 S91 S113 h88 h90 h91 h113, loopK_normal, loopK_exit, loopK_ret, kp110_0, ih]
    rfl
theorem kp110_6 (x0 x1 x2 x3 x4) : keep [6, 7] (e37 x0 x1 x2 x3 x4) = (e44 x2 x3) := by kernel_rfl
def g110_27 (N : Nat) (S88 : V0 → V0 → Option V1) (S90 : V0 → V0 → Option (Int)) (S91 : V0 → V0 → Option V1) (S113 : V0 → Option V1) (k0 : V0 → V0 → Option R) (x0 x1 x2 x3 : V0) (x4 : Int) : Option R :=
l110_27 N S88 S90 S91 S113 (fun y0 y1 y2 y3 y4 => k0 y2 y3) N x0 x1 x2 x3 x4
theorem t110_27 (S88) (S90) (S91) (S113) (h88 : (ctr88 S88).holds cl) (h90 : (ctr90 S90).holds cl) (h91 : (ctr91 S91).holds cl) (h113 : (ctr113 S113).holds cl) (x0 x1 x2 x3 x4) : exec cl N c110_27 (e37 x0 x1 x2 x3 x4) K = (g110_27 N S88 S90 S91 S113 (fun y0 y1 => K (.exit 0) (e44 y0 y1)) x0 x1 x2 x3 x4) := by
  simp only [c110_27, exec_out, exec_loop, kp110_0, lt110_27 S88 S90 S91 S113 h88 h90 h91 h113, kp110_6]
  rfl
theorem kp110_7 (x0 x1) : keep [6, 7] (e44 x0 x1) = (e44 x0 x1) := by kernel_rfl
def g110_29 (S113 : V0 → Option V1) (k0 : V0 → V0 → Option R) (x0 x1 : V0) : Option R :=
(S113 x0).bind fun r574 =>
k0 r574 x1
theorem t110_29 (S113) (h113 : (ctr113 S113).holds cl) (x0 x1) : exec cl N c110_29 (e44 x0 x1) K = (g110_29 S113 (fun y0 y1 => K .normal (e45 y0 y1)) x0 x1) := by
  rw [← put_eq h113]
  kernel_rfl
def g110_30b (N : Nat) (S88 : V0 → V0 → Option V1) (S90 : V0 → V0 → Option (Int)) (S91 : V0 → V0 → Option V1) (S113 : V0 → Option V1) (k0 : V0 → V0 → Option R) (x0 x1 : V0) : Option R :=
(g110_30 (g110_3 (g110_27 N S88 S90 S91 S113 ((g110_29 S113 k0)))) x0 x1)
theorem t110_30b (S88) (S90) (S91) (S113) (h88 : (ctr88 S88).holds cl) (h90 : (ctr90 S90).holds cl) (h91 : (ctr91 S91).holds cl) (h113 : (ctr113 S113).holds cl) (x0 x1) : exec cl N c110_30 (e14 x0 x1) K = (g110_30b N S88 S90 S91 S113 (fun y0 y1 => K .ret (e45 y0 y1)) x0 x1) := by
  simp only [exec_seq, seqK_normal, seqK_exit, seqK_ret, t110_30, t110_3, c110_28, exec_out, exec_block, t110_27 S88 S90 S91 S113 h88 h90 h91 h113, blockK_normal, blockK_ret, blockK_eq, kp110_7, t110_29 S113 h113, exec_ret]
  rfl
theorem rk110_0 (y0 y1) : retK d110 .ret (e45 y0 y1) = some [.v U2 y0, .v U2 y1] := by kernel_rfl
def g110 (N : Nat) (S88 : V0 → V0 → Option V1) (S90 : V0 → V0 → Option (Int)) (S91 : V0 → V0 → Option V1) (S113 : V0 → Option V1) (x0 x1 : V0) (k : V0 → V0 → Option R) : Option R :=
(g110_30b N S88 S90 S91 S113 k x0 x1)
theorem gen110 {N : Nat} {cl : Cal} (S88 : V0 → V0 → Option V1) (S90 : V0 → V0 → Option (Int)) (S91 : V0 → V0 → Option V1) (S113 : V0 → Option V1) (h88 : (ctr88 S88).holds cl) (h90 : (ctr90 S90).holds cl) (h91 : (ctr91 S91).holds cl) (h113 : (ctr113 S113).holds cl) (x0 : V0) (x1 : V0) {R : Type} (k : List E → Option R) : exec cl N c110 (params 0 [.v U2 x0, .v U2 x1]) (fun e env => (retK d110 e env).bind k) = g110 N S88 S90 S91 S113 x0 x1 (fun (r0 : V0) (r1 : V0) => k [.v U2 r0, .v U2 r1]) := by
  have e0 : params 0 [.v U2 x0, .v U2 x1] = (e14 x0 x1) := by kernel_rfl
  simp only [c110, e0, t110_30b S88 S90 S91 S113 h88 h90 h91 h113, rk110_0, Option.bind_some]
  rfl
def ctr110 (S : V0 → V0 → Option V6) : Ctr := { A := V0 × V0 × Unit, B := V0 × V0, f := 110, enc := fun a => [.v U2 a.1, .v U2 a.2.1], dec := (decC (decV U2) (decC (decV U2) dec0)), S := fun a => S a.1 a.2.1, ent := fun b => [.v U2 b.1, .v U2 b.2], ok := (decV_cons (T := U2) (decV_cons (T := U2) (fun es b h => dec0_some h))) }
def S110 (N : Nat) (x0 : V0) (x1 : V0) : Option V6 := g110 N (S88 N) (S90 N) (S91 N) (S113 N) x0 x1 (fun (r0 : V0) (r1 : V0) => some (r0, r1))
def g93_0 (k0 : Int → Int → V3 → Option R) (x0 x1 : Int) : Option R :=
k0 x0 x1 ([], ())
theorem t93_0 (x0 x1) : exec cl N c93_0 (e48 x0 x1) K = (g93_0 (fun y0 y1 y2 => K .normal (e49 y0 y1 y2)) x0 x1) := by
  kernel_rfl
def g93_1 (k0 : Int → Int → V3 → Bool → Option R) (x0 x1 : Int) (x2 : V3) : Option R :=
brB (decide (x0 < (0 : Int))) (k0 x0 x1 x2 true) (brB (decide (x0 > (400 : Int))) (k0 x0 x1 x2 true) (brB (decide (x1 < (0 : Int))) (k0 x0 x1 x2 true) (k0 x0 x1 x2 (decide (x1 > x0)))))
theorem t93_1 (x0 x1 x2) : exec cl N c93_1 (e49 x0 x1 x2) K = (g93_1 (fun y0 y1 y2 y3 => K .normal (e50 y0 y1 y2 y3)) x0 x1 x2) := by
  kernel_rfl
def g93_2 (k0 : V3 → Int → Option R) (x0 x1 : Int) (x2 : V3) (x3 : Bool) : Option R :=
k0 ([], ()) (6 : Int)
theorem t93_2 (x0 x1 x2 x3) : exec cl N c93_2 (e50 x0 x1 x2 x3) K = (g93_2 (fun y0 y1 => K .normal (e51 y0 y1)) x0 x1 x2 x3) := by
  kernel_rfl
theorem kp93_0 (x0 x1) : keep [0, 1, 4, 5] (e51 x0 x1) = (e52 x0 x1) := by kernel_rfl
theorem kp93_1 (x0 x1 x2 x3) : keep [0, 1, 4, 5] (e50 x0 x1 x2 x3) = (e53 x0 x1 x2) := by kernel_rfl
theorem hb93_0 (x0 x1 x2 x3) : boolOf? (ent (e50 x0 x1 x2 x3) (.t 22)) = some x3 := by kernel_rfl
def g93_4 (k0 : Int → Int → V3 → V0 → Option R) (x0 x1 : Int) (x2 : V3) : Option R :=
k0 x0 x1 x2 [(1 : Int)]
theorem t93_4 (x0 x1 x2) : exec cl N c93_4 (e53 x0 x1 x2) K = (g93_4 (fun y0 y1 y2 y3 => K .normal (e54 y0 y1 y2 y3)) x0 x1 x2) := by
  kernel_rfl
def g93_5 (k0 : Int → Int → V3 → V0 → Int → Option R) (x0 x1 : Int) (x2 : V3) (x3 : V0) : Option R :=
k0 x0 x1 x2 x3 (1 : Int)
theorem t93_5 (x0 x1 x2 x3) : exec cl N c93_5 (e54 x0 x1 x2 x3) K = (g93_5 (fun y0 y1 y2 y3 y4 => K .normal (e55 y0 y1 y2 y3 y4)) x0 x1 x2 x3) := by
  kernel_rfl
theorem kp93_2 (x0 x1 x2 x3 x4) : keep [0, 1, 4, 6, 7] (e55 x0 x1 x2 x3 x4) = (e55 x0 x1 x2 x3 x4) := by kernel_rfl
def g93_6 (k0 : Int → Int → V3 → V0 → Int → Bool → Option R) (x0 x1 : Int) (x2 : V3) (x3 : V0) (x4 : Int) : Option R :=
k0 x0 x1 x2 x3 x4 (decide (x4 ≤ x1))
theorem t93_6 (x0 x1 x2 x3 x4) : exec cl N c93_6 (e55 x0 x1 x2 x3 x4) K = (g93_6 (fun y0 y1 y2 y3 y4 y5 => K .normal (e109 y0 y1 y2 y3 y4 y5)) x0 x1 x2 x3 x4) := by
  kernel_rfl
theorem kp93_3 (x0 x1 x2 x3 x4 x5) : keep [0, 1, 4, 6, 7] (e109 x0 x1 x2 x3 x4 x5) = (e55 x0 x1 x2 x3 x4) := by kernel_rfl
theorem hb93_1 (x0 x1 x2 x3 x4 x5) : boolOf? (ent (e109 x0 x1 x2 x3 x4 x5) (.t 27)) = some x5 := by kernel_rfl
def g93_8 (S88 : V0 → V0 → Option V1) (S110 : V0 → V0 → Option V6) (k0 : Int → Int → V3 → V0 → Int → Option R) (x0 x1 : Int) (x2 : V3) (x3 : V0) (x4 : Int) : Option R :=
(S88 x3 [(IntKind.i64.wrap ((IntKind.i64.wrap (x0 - x1)) + x4))]).bind fun r584 =>
(S110 r584 [x4]).bind fun r585 =>
k0 x0 x1 x2 r585.1 x4
theorem t93_8 (S88) (S110) (h88 : (ctr88 S88).holds cl) (h110 : (ctr110 S110).holds cl) (x0 x1 x2 x3 x4) : exec cl N c93_8 (e55 x0 x1 x2 x3 x4) K = (g93_8 S88 S110 (fun y0 y1 y2 y3 y4 => K .normal (e55 y0 y1 y2 y3 y4)) x0 x1 x2 x3 x4) := by
  rw [← put_eq h88]
  rw [← put_eq h110]
  kernel_rfl
def g93_10 (k0 : Int → Int → V3 → V0 → Int → Option R) (x0 x1 : Int) (x2 : V3) (x3 : V0) (x4 : Int) : Option R :=
k0 x0 x1 x2 x3 (IntKind.i64.wrap (x4 + (1 : Int)))
theorem t93_10 (x0 x1 x2 x3 x4) : exec cl N c93_10 (e55 x0 x1 x2 x3 x4) K = (g93_10 (fun y0 y1 y2 y3 y4 => K .normal (e55 y0 y1 y2 y3 y4)) x0 x1 x2 x3 x4) := by
  kernel_rfl
def g93_11 (S88 : V0 → V0 → Option V1) (S110 : V0 → V0 → Option V6) (k0 : Int → Int → V3 → V0 → Int → Option R) (k1 : Int → Int → V3 → V0 → Int → Option R) (x0 x1 : Int) (x2 : V3) (x3 : V0) (x4 : Int) : Option R :=
(g93_6 (fun y0 y1 y2 y3 y4 y5 => brB y5 ((g93_8 S88 S110 ((g93_10 k0))) y0 y1 y2 y3 y4) (k1 y0 y1 y2 y3 y4)) x0 x1 x2 x3 x4)
theorem t93_11 (S88) (S110) (h88 : (ctr88 S88).holds cl) (h110 : (ctr110 S110).holds cl) (x0 x1 x2 x3 x4) : exec cl N c93_11 (e55 x0 x1 x2 x3 x4) K = (g93_11 S88 S110 (fun y0 y1 y2 y3 y4 => K .normal (e55 y0 y1 y2 y3 y4)) (fun y0 y1 y2 y3 y4 => K (.exit 0) (e55 y0 y1 y2 y3 y4)) x0 x1 x2 x3 x4) := by
  simp only [c93_11, exec_seq, seqK_normal, seqK_exit, seqK_ret, t93_6, c93_7, exec_out, exec_cond', hb93_1, Option.bind_some, brB_true, brB_false, exec_skip, exec_exit, kp93_3, c93_9, exec_block, t93_8 S88 S110 h88 h110, blockK_normal, blockK_ret, blockK_eq, kp93_2, t93_10]
  rfl
def l93_12 {R : Type} (S88 : V0 → V0 → Option V1) (S110 : V0 → V0 → Option V6) (k0 : Int → Int → V3 → V0 → Int → Option R) : Nat → Int → Int → V3 → V0 → Int → Option R
  | 0, _, _, _, _, _ => none
  | m + 1, x0, x1, x2, x3, x4 => (g93_11 S88 S110 (l93_12 S88 S110 k0 m) k0 x0 x1 x2 x3 x4)
theorem lt93_12 (S88) (S110) (h88 : (ctr88 S88).holds cl) (h110 : (ctr110 S110).holds cl) : ∀ (m) (x0 x1 x2 x3 x4), iter [0, 1, 4, 6, 7] (fun env K => exec cl N c93_11 env K) K m (e55 x0 x1 x2 x3 x4) = l93_12 S88 S110 (fun y0 y1 y2 y3 y4 => K (.exit 0) (e55 y0 y1 y2 y3 y4)) m x0 x1 x2 x3 x4 := by
  intro m
  induction m with
  | zero => intros; rfl
  | succ m ih =>
    intro x0 x1 x2 x3 x4
    simp only [iter_succ, t93_11 S88 S110 h88 h110, loopK_normal, loopK_exit, loopK_ret, kp93_2, ih]
    rfl
theorem kp93_4 (x0 x1 x2 x3 x4) : keep [4, 6] (e55 x0 x1 x2 x3 x4) = (e57 x2 x3) := by kernel_rfl
def g93_12 (N : Nat) (S88 : V0 → V0 → Option V1) (S110 : V0 → V0 → Option V6) (k0 : V3 → V0 → Option R) (x0 x1 : Int) (x2 : V3) (x3 : V0) (x4 : Int) : Option R :=
l93_12 S88 S110 (fun y0 y1 y2 y3 y4 => k0 y2 y3) N x0 x1 x2 x3 x4
theorem t93_12 (S88) (S110) (h88 : (ctr88 S88).holds cl) (h110 : (ctr110 S110).holds cl) (x0 x1 x2 x3 x4) : exec cl N c93_12 (e55 x0 x1 x2 x3 x4) K = (g93_12 N S88 S110 (fun y0 y1 => K (.exit 0) (e57 y0 y1)) x0 x1 x2 x3 x4) := by
  simp only [c93_12, exec_out, exec_loop, kp93_2, lt93_12 S88 S110 h88 h110, kp93_4]
  rfl
theorem kp93_5 (x0 x1) : keep [4, 6] (e57 x0 x1) = (e57 x0 x1) := by kernel_rfl
def g93_14 (k0 : V3 → Int → Option R) (x0 : V3) (x1 : V0) : Option R :=
k0 (x1, ()) (0 : Int)
theorem t93_14 (x0 x1) : exec cl N c93_14 (e57 x0 x1) K = (g93_14 (fun y0 y1 => K .normal (e58 y0 y1)) x0 x1) := by
  kernel_rfl
def g93_15 (N : Nat) (S88 : V0 → V0 → Option V1) (S110 : V0 → V0 → Option V6) (k0 : V3 → Int → Option R) (k1 : V3 → Int → Option R) (x0 x1 : Int) : Option R :=
(g93_0 (g93_1 (fun y0 y1 y2 y3 => brB y3 (g93_2 k0 y0 y1 y2 y3) ((g93_4 (g93_5 (g93_12 N S88 S110 ((g93_14 k1))))) y0 y1 y2))) x0 x1)
theorem t93_15 (S88) (S110) (h88 : (ctr88 S88).holds cl) (h110 : (ctr110 S110).holds cl) (x0 x1) : exec cl N c93_15 (e48 x0 x1) K = (g93_15 N S88 S110 (fun y0 y1 => K .ret (e52 y0 y1)) (fun y0 y1 => K .ret (e58 y0 y1)) x0 x1) := by
  simp only [c93_15, exec_seq, seqK_normal, seqK_exit, seqK_ret, t93_0, t93_1, c93_3, exec_out, exec_cond', hb93_0, Option.bind_some, brB_true, brB_false, t93_2, exec_ret, exec_skip, kp93_0, kp93_1, t93_4, t93_5, c93_13, exec_block, t93_12 S88 S110 h88 h110, blockK_normal, blockK_ret, blockK_eq, kp93_5, t93_14]
  rfl
theorem rk93_0 (y0 y1) : retK d93 .ret (e52 y0 y1) = some [.v U4 y0, .v U1 y1] := by kernel_rfl
theorem rk93_1 (y0 y1) : retK d93 .ret (e58 y0 y1) = some [.v U4 y0, .v U1 y1] := by kernel_rfl
def g93 (N : Nat) (S88 : V0 → V0 → Option V1) (S110 : V0 → V0 → Option V6) (x0 x1 : Int) (k : V3 → Int → Option R) : Option R :=
(g93_15 N S88 S110 k k x0 x1)
theorem gen93 {N : Nat} {cl : Cal} (S88 : V0 → V0 → Option V1) (S110 : V0 → V0 → Option V6) (h88 : (ctr88 S88).holds cl) (h110 : (ctr110 S110).holds cl) (x0 : Int) (x1 : Int) {R : Type} (k : List E → Option R) : exec cl N c93 (params 0 [.v U1 x0, .v U1 x1]) (fun e env => (retK d93 e env).bind k) = g93 N S88 S110 x0 x1 (fun (r0 : V3) (r1 : Int) => k [.v U4 r0, .v U1 r1]) := by
  have e0 : params 0 [.v U1 x0, .v U1 x1] = (e48 x0 x1) := by kernel_rfl
  simp only [c93, e0, t93_15 S88 S110 h88 h110, rk93_0, rk93_1, Option.bind_some]
  rfl
def ctr93 (S : Int → Int → Option V7) : Ctr := { A := Int × Int × Unit, B := V3 × Int, f := 93, enc := fun a => [.v U1 a.1, .v U1 a.2.1], dec := (decC (decV U1) (decC (decV U1) dec0)), S := fun a => S a.1 a.2.1, ent := fun b => [.v U4 b.1, .v U1 b.2], ok := (decV_cons (T := U1) (decV_cons (T := U1) (fun es b h => dec0_some h))) }
def S93 (N : Nat) (x0 : Int) (x1 : Int) : Option V7 := g93 N (S88 N) (S110 N) x0 x1 (fun (r0 : V3) (r1 : Int) => some (r0, r1))
def g86_17 (k0 : V3 → Int → Option R) (x0 : V3) : Option R :=
k0 x0 (x0.1.length : Int)
theorem t86_17 (x0) : exec cl N c86_17 [(0, .v U4 x0)] K = (g86_17 (fun y0 y1 => exec cl N (.seq (.seq c86_2 c86_4) (.seq (.seq c86_5 c86_15) (.seq c86_16 .ret))) [(1, .loc U4 .no y0), (3, .v U1 y1)] K) x0) := by
  kernel_rfl
def g86_2 (k0 : V3 → Int → Bool → Option R) (x0 : V3) (x1 : Int) : Option R :=
brB (decide (x1 > (200 : Int))) (k0 x0 x1 true) (brB (decide (x1 > (0 : Int))) (let v608 : Int := (IntKind.i64.wrap (x1 - (1 : Int)))
if 0 ≤ v608 ∧ v608 < (x0.1.length : Int) then
k0 x0 x1 ((x0.1.getD v608.toNat (0 : Int)) == (0 : Int))
else none) (k0 x0 x1 false))
theorem t86_2 (x0 x1) : exec cl N c86_2 [(1, .loc U4 .no x0), (3, .v U1 x1)] K = (g86_2 (fun y0 y1 y2 => K .normal (e110 y0 y1 y2)) x0 x1) := by
  kernel_rfl
def g86_3 (k0 : Bool → Option R) (x0 : V3) (x1 : Int) (x2 : Bool) : Option R :=
k0 false
theorem t86_3 (x0 x1 x2) : exec cl N c86_3 (e110 x0 x1 x2) K = (g86_3 (fun y0 => K .normal [(2, .v .bool y0)]) x0 x1 x2) := by
  kernel_rfl
theorem kp86_0 (x0) : keep [1, 2, 3] [(2, .v .bool x0)] = (e111 x0) := by kernel_rfl
theorem kp86_1 (x0 x1 x2) : keep [1, 2, 3] (e110 x0 x1 x2) = [(1, .loc U4 .no x0), (2, .dead), (3, .v U1 x1)] := by kernel_rfl
theorem hb86_0 (x0 x1 x2) : boolOf? (ent (e110 x0 x1 x2) (.t 22)) = some x2 := by kernel_rfl
def g86_5 (k0 : V3 → Int → Int → Option R) (x0 : V3) (x1 : Int) : Option R :=
k0 x0 x1 (0 : Int)
theorem t86_5 (x0 x1) : exec cl N c86_5 [(1, .loc U4 .no x0), (2, .dead), (3, .v U1 x1)] K = (g86_5 (fun y0 y1 y2 => K .normal (e112 y0 y1 y2)) x0 x1) := by
  kernel_rfl
theorem kp86_2 (x0 x1 x2) : keep [1, 3, 4] (e112 x0 x1 x2) = (e112 x0 x1 x2) := by kernel_rfl
def g86_6 (k0 : V3 → Int → Int → Bool → Option R) (x0 : V3) (x1 x2 : Int) : Option R :=
k0 x0 x1 x2 (decide (x2 < x1))
theorem t86_6 (x0 x1 x2) : exec cl N c86_6 (e112 x0 x1 x2) K = (g86_6 (fun y0 y1 y2 y3 => K .normal (e113 y0 y1 y2 y3)) x0 x1 x2) := by
  kernel_rfl
theorem kp86_3 (x0 x1 x2 x3) : keep [1, 3, 4] (e113 x0 x1 x2 x3) = (e112 x0 x1 x2) := by kernel_rfl
theorem hb86_1 (x0 x1 x2 x3) : boolOf? (ent (e113 x0 x1 x2 x3) (.t 25)) = some x3 := by kernel_rfl
def g86_8 (k0 : V3 → Int → Int → Bool → Option R) (x0 : V3) (x1 x2 : Int) : Option R :=
if 0 ≤ x2 ∧ x2 < (x0.1.length : Int) then
brB (decide ((x0.1.getD x2.toNat (0 : Int)) < (0 : Int))) (k0 x0 x1 x2 true) (if 0 ≤ x2 ∧ x2 < (x0.1.length : Int) then
k0 x0 x1 x2 (decide ((x0.1.getD x2.toNat (0 : Int)) ≥ (10000 : Int)))
else none)
else none
theorem t86_8 (x0 x1 x2) : exec cl N c86_8 (e112 x0 x1 x2) K = (g86_8 (fun y0 y1 y2 y3 => K .normal (e114 y0 y1 y2 y3)) x0 x1 x2) := by
  kernel_rfl
def g86_9 (k0 : Bool → Option R) (x0 : V3) (x1 x2 : Int) (x3 : Bool) : Option R :=
k0 false
theorem t86_9 (x0 x1 x2 x3) : exec cl N c86_9 (e114 x0 x1 x2 x3) K = (g86_9 (fun y0 => K .normal [(2, .v .bool y0)]) x0 x1 x2 x3) := by
  kernel_rfl
theorem kp86_4 (x0) : keep [1, 2, 3, 4] [(2, .v .bool x0)] = (e115 x0) := by kernel_rfl
theorem kp86_5 (x0 x1 x2 x3) : keep [1, 2, 3, 4] (e114 x0 x1 x2 x3) = (e116 x0 x1 x2) := by kernel_rfl
theorem hb86_2 (x0 x1 x2 x3) : boolOf? (ent (e114 x0 x1 x2 x3) (.t 41)) = some x3 := by kernel_rfl
theorem kp86_6 (x0) : keep [1, 2, 3, 4] (e115 x0) = (e115 x0) := by kernel_rfl
theorem kp86_7 (x0 x1 x2) : keep [1, 2, 3, 4] (e116 x0 x1 x2) = (e116 x0 x1 x2) := by kernel_rfl
def g86_12 (k0 : V3 → Int → Int → Option R) (x0 : V3) (x1 x2 : Int) : Option R :=
k0 x0 x1 (IntKind.i64.wrap (x2 + (1 : Int)))
theorem t86_12 (x0 x1 x2) : exec cl N c86_12 (e116 x0 x1 x2) K = (g86_12 (fun y0 y1 y2 => K .normal (e112 y0 y1 y2)) x0 x1 x2) := by
  kernel_rfl
def g86_13 (k0 : Bool → Option R) (k1 : V3 → Int → Int → Option R) (k2 : V3 → Int → Int → Option R) (x0 : V3) (x1 x2 : Int) : Option R :=
(g86_6 (fun y0 y1 y2 y3 => brB y3 ((g86_8 (fun y0 y1 y2 y3 => brB y3 (g86_9 k0 y0 y1 y2 y3) (((g86_12 k1)) y0 y1 y2))) y0 y1 y2) (k2 y0 y1 y2)) x0 x1 x2)
theorem t86_13 (x0 x1 x2) : exec cl N c86_13 (e112 x0 x1 x2) K = (g86_13 (fun y0 => K .ret (e115 y0)) (fun y0 y1 y2 => K .normal (e112 y0 y1 y2)) (fun y0 y1 y2 => K (.exit 0) (e112 y0 y1 y2)) x0 x1 x2) := by
  simp only [c86_13, exec_seq, seqK_normal, seqK_exit, seqK_ret, t86_6, c86_7, exec_out, exec_cond', hb86_1, Option.bind_some, brB_true, brB_false, exec_skip, exec_exit, kp86_3, c86_11, exec_block, t86_8, c86_10, hb86_2, t86_9, exec_ret, kp86_4, kp86_5, blockK_normal, blockK_ret, blockK_eq, kp86_6, kp86_7, t86_12]
  rfl
def l86_14 {R : Type} (k0 : Bool → Option R) (k1 : V3 → Int → Int → Option R) : Nat → V3 → Int → Int → Option R
  | 0, _, _, _ => none
  | m + 1, x0, x1, x2 => (g86_13 k0 (l86_14 k0 k1 m) k1 x0 x1 x2)
theorem lt86_14 : ∀ (m) (x0 x1 x2), iter [1, 3, 4] (fun env K => exec cl N c86_13 env K) K m (e112 x0 x1 x2) = l86_14 (fun y0 => K .ret (e115 y0)) (fun y0 y1 y2 => K (.exit 0) (e112 y0 y1 y2)) m x0 x1 x2 := by
  intro m
  induction m with
  | zero => intros; rfl
  | succ m ih =>
    intro x0 x1 x2
    simp only [iter_succ, t86_13, loopK_normal, loopK_exit, loopK_ret, kp86_2, ih]
    rfl
theorem kp86_8 (x0) : keep [2] (e115 x0) = [(2, .v .bool x0)] := by kernel_rfl
theorem kp86_9 (x0 x1 x2) : keep [2] (e112 x0 x1 x2) = [(2, .dead)] := by kernel_rfl
def g86_14 (N : Nat) (k0 : Bool → Option R) (k1 : Option R) (x0 : V3) (x1 x2 : Int) : Option R :=
l86_14 k0 (fun y0 y1 y2 => k1) N x0 x1 x2
theorem t86_14 (x0 x1 x2) : exec cl N c86_14 (e112 x0 x1 x2) K = (g86_14 N (fun y0 => K .ret [(2, .v .bool y0)]) (K (.exit 0) [(2, .dead)]) x0 x1 x2) := by
  simp only [c86_14, exec_out, exec_loop, kp86_2, lt86_14, kp86_8, kp86_9]
  rfl
theorem kp86_10 (x0) : keep [2] [(2, .v .bool x0)] = [(2, .v .bool x0)] := by kernel_rfl
theorem kp86_11 : keep [2] [(2, .dead)] = [(2, .dead)] := by kernel_rfl
def g86_16 (k0 : Bool → Option R) : Option R :=
k0 true
theorem t86_16 : exec cl N c86_16 [(2, .dead)] K = (g86_16 (fun y0 => K .normal [(2, .v .bool y0)])) := by
  kernel_rfl
def g86_17b (N : Nat) (k0 : Bool → Option R) (k1 : Bool → Option R) (x0 : V3) : Option R :=
(g86_17 (g86_2 (fun y0 y1 y2 => brB y2 (g86_3 k0 y0 y1 y2) ((g86_5 (g86_14 N k1 (g86_16 k1))) y0 y1))) x0)
theorem t86_17b (x0) : exec cl N c86_17 [(0, .v U4 x0)] K = (g86_17b N (fun y0 => K .ret (e111 y0)) (fun y0 => K .ret [(2, .v .bool y0)]) x0) := by
  simp only [exec_seq, seqK_normal, seqK_exit, seqK_ret, t86_17, t86_2, c86_4, exec_out, exec_cond', hb86_0, Option.bind_some, brB_true, brB_false, t86_3, exec_ret, exec_skip, kp86_0, kp86_1, t86_5, c86_15, exec_block, t86_14, blockK_normal, blockK_ret, blockK_eq, kp86_10, kp86_11, t86_16]
  rfl
theorem rk86_0 (y0) : retK d86 .ret (e111 y0) = some [.v .bool y0] := by kernel_rfl
theorem rk86_1 (y0) : retK d86 .ret [(2, .v .bool y0)] = some [.v .bool y0] := by kernel_rfl
def g86 (N : Nat) (x0 : V3) (k : Bool → Option R) : Option R :=
(g86_17b N k k x0)
theorem gen86 {N : Nat} {cl : Cal} (x0 : V3) {R : Type} (k : List E → Option R) : exec cl N c86 (params 0 [.v U4 x0]) (fun e env => (retK d86 e env).bind k) = g86 N x0 (fun (r0 : Bool) => k [.v .bool r0]) := by
  have e0 : params 0 [.v U4 x0] = [(0, .v U4 x0)] := by kernel_rfl
  simp only [c86, e0, t86_17b, rk86_0, rk86_1, Option.bind_some]
  rfl
def ctr86 (S : V3 → Option (Bool)) : Ctr := { A := V3 × Unit, B := Bool, f := 86, enc := fun a => [.v U4 a.1], dec := (decC (decV U4) dec0), S := fun a => S a.1, ent := fun b => [.v .bool b], ok := (decV_cons (T := U4) (fun es b h => dec0_some h)) }
def S86 (N : Nat) (x0 : V3) : Option (Bool) := g86 N x0 (fun (r0 : Bool) => some (r0))
def g87_0 (k0 : V0 → V3 → Option R) (x0 : V0) : Option R :=
k0 x0 ([], ())
theorem t87_0 (x0) : exec cl N c87_0 [(0, .v U2 x0)] K = (g87_0 (fun y0 y1 => K .normal (e2 y0 y1)) x0) := by
  kernel_rfl
def g87_1 (k0 : V0 → V3 → Bool → Option R) (x0 : V0) (x1 : V3) : Option R :=
k0 x0 x1 (decide ((x0.length : Int) > (200 : Int)))
theorem t87_1 (x0 x1) : exec cl N c87_1 (e2 x0 x1) K = (g87_1 (fun y0 y1 y2 => K .normal (e46 y0 y1 y2)) x0 x1) := by
  kernel_rfl
def g87_2 (k0 : V3 → Int → Option R) (x0 : V0) (x1 : V3) (x2 : Bool) : Option R :=
k0 ([], ()) (3 : Int)
theorem t87_2 (x0 x1 x2) : exec cl N c87_2 (e46 x0 x1 x2) K = (g87_2 (fun y0 y1 => K .normal (e7 y0 y1)) x0 x1 x2) := by
  kernel_rfl
theorem kp87_0 (x0 x1) : keep [0, 2, 3] (e7 x0 x1) = (e8 x0 x1) := by kernel_rfl
theorem kp87_1 (x0 x1 x2) : keep [0, 2, 3] (e46 x0 x1 x2) = (e47 x0 x1) := by kernel_rfl
theorem hb87_0 (x0 x1 x2) : boolOf? (ent (e46 x0 x1 x2) (.t 6)) = some x2 := by kernel_rfl
def g87_4 (k0 : V3 → Int → Option R) (x0 : V0) (x1 : V3) : Option R :=
k0 (x0, ()) (0 : Int)
theorem t87_4 (x0 x1) : exec cl N c87_4 (e47 x0 x1) K = (g87_4 (fun y0 y1 => K .normal (e13 y0 y1)) x0 x1) := by
  kernel_rfl
def g87_5 (k0 : V3 → Int → Option R) (k1 : V3 → Int → Option R) (x0 : V0) : Option R :=
(g87_0 (g87_1 (fun y0 y1 y2 => brB y2 (g87_2 k0 y0 y1 y2) ((g87_4 k1) y0 y1))) x0)
theorem t87_5 (x0) : exec cl N c87_5 [(0, .v U2 x0)] K = (g87_5 (fun y0 y1 => K .ret (e8 y0 y1)) (fun y0 y1 => K .ret (e13 y0 y1)) x0) := by
  simp only [c87_5, exec_seq, seqK_normal, seqK_exit, seqK_ret, t87_0, t87_1, c87_3, exec_out, exec_cond', hb87_0, Option.bind_some, brB_true, brB_false, t87_2, exec_ret, exec_skip, kp87_0, kp87_1, t87_4]
  rfl
theorem rk87_0 (y0 y1) : retK d87 .ret (e8 y0 y1) = some [.v U4 y0, .v U1 y1] := by kernel_rfl
theorem rk87_1 (y0 y1) : retK d87 .ret (e13 y0 y1) = some [.v U4 y0, .v U1 y1] := by kernel_rfl
def g87 (x0 : V0) (k : V3 → Int → Option R) : Option R :=
(g87_5 k k x0)
theorem gen87 {N : Nat} {cl : Cal} (x0 : V0) {R : Type} (k : List E → Option R) : exec cl N c87 (params 0 [.v U2 x0]) (fun e env => (retK d87 e env).bind k) = g87 x0 (fun (r0 : V3) (r1 : Int) => k [.v U4 r0, .v U1 r1]) := by
  have e0 : params 0 [.v U2 x0] = [(0, .v U2 x0)] := by kernel_rfl
  simp only [c87, e0, t87_5, rk87_0, rk87_1, Option.bind_some]
  rfl
def ctr87 (S : V0 → Option V7) : Ctr := { A := V0 × Unit, B := V3 × Int, f := 87, enc := fun a => [.v U2 a.1], dec := (decC (decV U2) dec0), S := fun a => S a.1, ent := fun b => [.v U4 b.1, .v U1 b.2], ok := (decV_cons (T := U2) (fun es b h => dec0_some h)) }
def S87 (N : Nat) (x0 : V0) : Option V7 := g87 x0 (fun (r0 : V3) (r1 : Int) => some (r0, r1))
def g58_0 (k0 : V3 → V3 → V3 → Option R) (x0 x1 : V3) : Option R :=
k0 x0 x1 ([], ())
theorem t58_0 (x0 x1) : exec cl N c58_0 (e68 x0 x1) K = (g58_0 (fun y0 y1 y2 => K .normal (e69 y0 y1 y2)) x0 x1) := by
  kernel_rfl
def g58_1 (S86 : V3 → Option (Bool)) (k0 : V3 → V3 → V3 → Bool → Option R) (x0 x1 x2 : V3) : Option R :=
(S86 x0).bind fun r620 =>
brB (!r620) (k0 x0 x1 x2 true) ((S86 x1).bind fun r621 =>
k0 x0 x1 x2 (!r621))
theorem t58_1 (S86) (h86 : (ctr86 S86).holds cl) (x0 x1 x2) : exec cl N c58_1 (e69 x0 x1 x2) K = (g58_1 S86 (fun y0 y1 y2 y3 => K .normal (e70 y0 y1 y2 y3)) x0 x1 x2) := by
  rw [← put_eq h86]
  kernel_rfl
def g58_2 (k0 : V3 → Int → Option R) (x0 x1 x2 : V3) (x3 : Bool) : Option R :=
k0 ([], ()) (1 : Int)
theorem t58_2 (x0 x1 x2 x3) : exec cl N c58_2 (e70 x0 x1 x2 x3) K = (g58_2 (fun y0 y1 => K .normal (e51 y0 y1)) x0 x1 x2 x3) := by
  kernel_rfl
theorem kp58_0 (x0 x1) : keep [2, 3, 4, 5] (e51 x0 x1) = (e71 x0 x1) := by kernel_rfl
theorem kp58_1 (x0 x1 x2 x3) : keep [2, 3, 4, 5] (e70 x0 x1 x2 x3) = (e72 x0 x1 x2) := by kernel_rfl
theorem hb58_0 (x0 x1 x2 x3) : boolOf? (ent (e70 x0 x1 x2 x3) (.t 13)) = some x3 := by kernel_rfl
def g58_4 (S87 : V0 → Option V7) (S88 : V0 → V0 → Option V1) (k0 : V3 → Int → Option R) (x0 x1 x2 : V3) : Option R :=
(S88 x0.1 x1.1).bind fun r622 =>
(S87 r622).bind fun r623 =>
k0 r623.1 r623.2
theorem t58_4 (S87) (S88) (h87 : (ctr87 S87).holds cl) (h88 : (ctr88 S88).holds cl) (x0 x1 x2) : exec cl N c58_4 (e72 x0 x1 x2) K = (g58_4 S87 S88 (fun y0 y1 => K .normal (e58 y0 y1)) x0 x1 x2) := by
  rw [← put_eq h87]
  rw [← put_eq h88]
  kernel_rfl
def g58_5 (S86 : V3 → Option (Bool)) (S87 : V0 → Option V7) (S88 : V0 → V0 → Option V1) (k0 : V3 → Int → Option R) (k1 : V3 → Int → Option R) (x0 x1 : V3) : Option R :=
(g58_0 (g58_1 S86 (fun y0 y1 y2 y3 => brB y3 (g58_2 k0 y0 y1 y2 y3) ((g58_4 S87 S88 k1) y0 y1 y2))) x0 x1)
theorem t58_5 (S86) (S87) (S88) (h86 : (ctr86 S86).holds cl) (h87 : (ctr87 S87).holds cl) (h88 : (ctr88 S88).holds cl) (x0 x1) : exec cl N c58_5 (e68 x0 x1) K = (g58_5 S86 S87 S88 (fun y0 y1 => K .ret (e71 y0 y1)) (fun y0 y1 => K .ret (e58 y0 y1)) x0 x1) := by
  simp only [c58_5, exec_seq, seqK_normal, seqK_exit, seqK_ret, t58_0, t58_1 S86 h86, c58_3, exec_out, exec_cond', hb58_0, Option.bind_some, brB_true, brB_false, t58_2, exec_ret, exec_skip, kp58_0, kp58_1, t58_4 S87 S88 h87 h88]
  rfl
theorem rk58_0 (y0 y1) : retK d58 .ret (e71 y0 y1) = some [.v U4 y0, .v U1 y1] := by kernel_rfl
theorem rk58_1 (y0 y1) : retK d58 .ret (e58 y0 y1) = some [.v U4 y0, .v U1 y1] := by kernel_rfl
def g58 (S86 : V3 → Option (Bool)) (S87 : V0 → Option V7) (S88 : V0 → V0 → Option V1) (x0 x1 : V3) (k : V3 → Int → Option R) : Option R :=
(g58_5 S86 S87 S88 k k x0 x1)
theorem gen58 {N : Nat} {cl : Cal} (S86 : V3 → Option (Bool)) (S87 : V0 → Option V7) (S88 : V0 → V0 → Option V1) (h86 : (ctr86 S86).holds cl) (h87 : (ctr87 S87).holds cl) (h88 : (ctr88 S88).holds cl) (x0 : V3) (x1 : V3) {R : Type} (k : List E → Option R) : exec cl N c58 (params 0 [.v U4 x0, .v U4 x1]) (fun e env => (retK d58 e env).bind k) = g58 S86 S87 S88 x0 x1 (fun (r0 : V3) (r1 : Int) => k [.v U4 r0, .v U1 r1]) := by
  have e0 : params 0 [.v U4 x0, .v U4 x1] = (e68 x0 x1) := by kernel_rfl
  simp only [c58, e0, t58_5 S86 S87 S88 h86 h87 h88, rk58_0, rk58_1, Option.bind_some]
  rfl
def ctr58 (S : V3 → V3 → Option V7) : Ctr := { A := V3 × V3 × Unit, B := V3 × Int, f := 58, enc := fun a => [.v U4 a.1, .v U4 a.2.1], dec := (decC (decV U4) (decC (decV U4) dec0)), S := fun a => S a.1 a.2.1, ent := fun b => [.v U4 b.1, .v U1 b.2], ok := (decV_cons (T := U4) (decV_cons (T := U4) (fun es b h => dec0_some h))) }
def S58 (N : Nat) (x0 : V3) (x1 : V3) : Option V7 := g58 (S86 N) (S87 N) (S88 N) x0 x1 (fun (r0 : V3) (r1 : Int) => some (r0, r1))
def g89_16 (k0 : V0 → V0 → V0 → Int → Option R) (x0 x1 : V0) : Option R :=
k0 x0 x1 [] (0 : Int)
theorem t89_16 (x0 x1) : exec cl N c89_16 (e14 x0 x1) K = (g89_16 (fun y0 y1 y2 y3 => exec cl N (.seq (.seq c89_3 c89_14) (.seq c89_15 .ret)) (e97 y0 y1 y2 y3) K) x0 x1) := by
  kernel_rfl
def g89_3 (k0 : V0 → V0 → V0 → Int → Int → Option R) (x0 x1 x2 : V0) (x3 : Int) : Option R :=
k0 x0 x1 x2 x3 (0 : Int)
theorem t89_3 (x0 x1 x2 x3) : exec cl N c89_3 (e97 x0 x1 x2 x3) K = (g89_3 (fun y0 y1 y2 y3 y4 => K .normal (e103 y0 y1 y2 y3 y4)) x0 x1 x2 x3) := by
  kernel_rfl
theorem kp89_0 (x0 x1 x2 x3 x4) : keep [0, 1, 5, 6, 7] (e103 x0 x1 x2 x3 x4) = (e103 x0 x1 x2 x3 x4) := by kernel_rfl
def g89_4 (k0 : V0 → V0 → V0 → Int → Int → Bool → Option R) (x0 x1 x2 : V0) (x3 x4 : Int) : Option R :=
brB (decide (x4 < (x0.length : Int))) (k0 x0 x1 x2 x3 x4 true) (k0 x0 x1 x2 x3 x4 (decide (x4 < (x1.length : Int))))
theorem t89_4 (x0 x1 x2 x3 x4) : exec cl N c89_4 (e103 x0 x1 x2 x3 x4) K = (g89_4 (fun y0 y1 y2 y3 y4 y5 => K .normal (e117 y0 y1 y2 y3 y4 y5)) x0 x1 x2 x3 x4) := by
  kernel_rfl
theorem kp89_1 (x0 x1 x2 x3 x4 x5) : keep [0, 1, 5, 6, 7] (e117 x0 x1 x2 x3 x4 x5) = (e103 x0 x1 x2 x3 x4) := by kernel_rfl
theorem hb89_0 (x0 x1 x2 x3 x4 x5) : boolOf? (ent (e117 x0 x1 x2 x3 x4 x5) (.t 18)) = some x5 := by kernel_rfl
def g89_9 (S112 : V0 → Int → Option (Int)) (k0 : V0 → V0 → V0 → Int → Int → Option R) (x0 x1 x2 : V0) (x3 x4 : Int) : Option R :=
(S112 x0 x4).bind fun r658 =>
(S112 x1 x4).bind fun r659 =>
let v661 : Int := (IntKind.i64.wrap ((IntKind.i64.wrap (r658 + r659)) + x3))
let v662 : Int := (Int.tmod v661 (10000 : Int))
if x2.length + [v662].length ≤ 17592186044416 then
k0 x0 x1 (x2 ++ [v662]) (IntKind.i64.wrap (Int.tdiv v661 (10000 : Int))) x4
else none
theorem t89_9 (S112) (h112 : (ctr112 S112).holds cl) (x0 x1 x2 x3 x4) : exec cl N c89_9 (e103 x0 x1 x2 x3 x4) K = (g89_9 S112 (fun y0 y1 y2 y3 y4 => K .normal (e103 y0 y1 y2 y3 y4)) x0 x1 x2 x3 x4) := by
  rw [← put_eq h112]
  kernel_rfl
def g89_11 (k0 : V0 → V0 → V0 → Int → Int → Option R) (x0 x1 x2 : V0) (x3 x4 : Int) : Option R :=
k0 x0 x1 x2 x3 (IntKind.i64.wrap (x4 + (1 : Int)))
theorem t89_11 (x0 x1 x2 x3 x4) : exec cl N c89_11 (e103 x0 x1 x2 x3 x4) K = (g89_11 (fun y0 y1 y2 y3 y4 => K .normal (e103 y0 y1 y2 y3 y4)) x0 x1 x2 x3 x4) := by
  kernel_rfl
def g89_12 (S112 : V0 → Int → Option (Int)) (k0 : V0 → V0 → V0 → Int → Int → Option R) (k1 : V0 → V0 → V0 → Int → Int → Option R) (x0 x1 x2 : V0) (x3 x4 : Int) : Option R :=
(g89_4 (fun y0 y1 y2 y3 y4 y5 => brB y5 ((g89_9 S112 ((g89_11 k0))) y0 y1 y2 y3 y4) (k1 y0 y1 y2 y3 y4)) x0 x1 x2 x3 x4)
theorem t89_12 (S112) (h112 : (ctr112 S112).holds cl) (x0 x1 x2 x3 x4) : exec cl N c89_12 (e103 x0 x1 x2 x3 x4) K = (g89_12 S112 (fun y0 y1 y2 y3 y4 => K .normal (e103 y0 y1 y2 y3 y4)) (fun y0 y1 y2 y3 y4 => K (.exit 0) (e103 y0 y1 y2 y3 y4)) x0 x1 x2 x3 x4) := by
  simp only [c89_12, exec_seq, seqK_normal, seqK_exit, seqK_ret, t89_4, c89_5, exec_out, exec_cond', hb89_0, Option.bind_some, brB_true, brB_false, exec_skip, exec_exit, kp89_1, c89_10, exec_block, t89_9 S112 h112, blockK_normal, blockK_ret, blockK_eq, kp89_0, t89_11]
  rfl
def l89_13 {R : Type} (S112 : V0 → Int → Option (Int)) (k0 : V0 → V0 → V0 → Int → Int → Option R) : Nat → V0 → V0 → V0 → Int → Int → Option R
  | 0, _, _, _, _, _ => none
  | m + 1, x0, x1, x2, x3, x4 => (g89_12 S112 (l89_13 S112 k0 m) k0 x0 x1 x2 x3 x4)
theorem lt89_13 (S112) (h112 : (ctr112 S112).holds cl) : ∀ (m) (x0 x1 x2 x3 x4), iter [0, 1, 5, 6, 7] (fun env K => exec cl N c89_12 env K) K m (e103 x0 x1 x2 x3 x4) = l89_13 S112 (fun y0 y1 y2 y3 y4 => K (.exit 0) (e103 y0 y1 y2 y3 y4)) m x0 x1 x2 x3 x4 := by
  intro m
  induction m with
  | zero => intros; rfl
  | succ m ih =>
    intro x0 x1 x2 x3 x4
    simp only [iter_succ, t89_12 S112 h112, loopK_normal, loopK_exit, loopK_ret, kp89_0, ih]
    rfl
theorem kp89_2 (x0 x1 x2 x3 x4) : keep [5, 6] (e103 x0 x1 x2 x3 x4) = (e118 x2 x3) := by kernel_rfl
def g89_13 (N : Nat) (S112 : V0 → Int → Option (Int)) (k0 : V0 → Int → Option R) (x0 x1 x2 : V0) (x3 x4 : Int) : Option R :=
l89_13 S112 (fun y0 y1 y2 y3 y4 => k0 y2 y3) N x0 x1 x2 x3 x4
theorem t89_13 (S112) (h112 : (ctr112 S112).holds cl) (x0 x1 x2 x3 x4) : exec cl N c89_13 (e103 x0 x1 x2 x3 x4) K = (g89_13 N S112 (fun y0 y1 => K (.exit 0) (e118 y0 y1)) x0 x1 x2 x3 x4) := by
  simp only [c89_13, exec_out, exec_loop, kp89_0, lt89_13 S112 h112, kp89_2]
  rfl
theorem kp89_3 (x0 x1) : keep [5, 6] (e118 x0 x1) = (e118 x0 x1) := by kernel_rfl
def g89_15 (S113 : V0 → Option V1) (k0 : V0 → Option R) (x0 : V0) (x1 : Int) : Option R :=
if x0.length + [x1].length ≤ 17592186044416 then
(S113 (x0 ++ [x1])).bind fun r665 =>
k0 r665
else none
theorem t89_15 (S113) (h113 : (ctr113 S113).holds cl) (x0 x1) : exec cl N c89_15 (e118 x0 x1) K = (g89_15 S113 (fun y0 => K .normal [(4, .v U2 y0)]) x0 x1) := by
  rw [← put_eq h113]
  kernel_rfl
def g89_16b (N : Nat) (S112 : V0 → Int → Option (Int)) (S113 : V0 → Option V1) (k0 : V0 → Option R) (x0 x1 : V0) : Option R :=
(g89_16 (g89_3 (g89_13 N S112 ((g89_15 S113 k0)))) x0 x1)
theorem t89_16b (S112) (S113) (h112 : (ctr112 S112).holds cl) (h113 : (ctr113 S113).holds cl) (x0 x1) : exec cl N c89_16 (e14 x0 x1) K = (g89_16b N S112 S113 (fun y0 => K .ret [(4, .v U2 y0)]) x0 x1) := by
  simp only [exec_seq, seqK_normal, seqK_exit, seqK_ret, t89_16, t89_3, c89_14, exec_out, exec_block, t89_13 S112 h112, blockK_normal, blockK_ret, blockK_eq, kp89_3, t89_15 S113 h113, exec_ret]
  rfl
theorem rk89_0 (y0) : retK d89 .ret [(4, .v U2 y0)] = some [.v U2 y0] := by kernel_rfl
def g89 (N : Nat) (S112 : V0 → Int → Option (Int)) (S113 : V0 → Option V1) (x0 x1 : V0) (k : V0 → Option R) : Option R :=
(g89_16b N S112 S113 k x0 x1)
theorem gen89 {N : Nat} {cl : Cal} (S112 : V0 → Int → Option (Int)) (S113 : V0 → Option V1) (h112 : (ctr112 S112).holds cl) (h113 : (ctr113 S113).holds cl) (x0 : V0) (x1 : V0) {R : Type} (k : List E → Option R) : exec cl N c89 (params 0 [.v U2 x0, .v U2 x1]) (fun e env => (retK d89 e env).bind k) = g89 N S112 S113 x0 x1 (fun (r0 : V0) => k [.v U2 r0]) := by
  have e0 : params 0 [.v U2 x0, .v U2 x1] = (e14 x0 x1) := by kernel_rfl
  simp only [c89, e0, t89_16b S112 S113 h112 h113, rk89_0, Option.bind_some]
  rfl
def ctr89 (S : V0 → V0 → Option V1) : Ctr := { A := V0 × V0 × Unit, B := V0, f := 89, enc := fun a => [.v U2 a.1, .v U2 a.2.1], dec := (decC (decV U2) (decC (decV U2) dec0)), S := fun a => S a.1 a.2.1, ent := fun b => [.v U2 b], ok := (decV_cons (T := U2) (decV_cons (T := U2) (fun es b h => dec0_some h))) }
def S89 (N : Nat) (x0 : V0) (x1 : V0) : Option V1 := g89 N (S112 N) (S113 N) x0 x1 (fun (r0 : V0) => some (r0))
def g59_0 (k0 : V3 → V3 → V3 → Option R) (x0 x1 : V3) : Option R :=
k0 x0 x1 ([], ())
theorem t59_0 (x0 x1) : exec cl N c59_0 (e68 x0 x1) K = (g59_0 (fun y0 y1 y2 => K .normal (e69 y0 y1 y2)) x0 x1) := by
  kernel_rfl
def g59_1 (S86 : V3 → Option (Bool)) (k0 : V3 → V3 → V3 → Bool → Option R) (x0 x1 x2 : V3) : Option R :=
(S86 x0).bind fun r668 =>
brB (!r668) (k0 x0 x1 x2 true) ((S86 x1).bind fun r669 =>
k0 x0 x1 x2 (!r669))
theorem t59_1 (S86) (h86 : (ctr86 S86).holds cl) (x0 x1 x2) : exec cl N c59_1 (e69 x0 x1 x2) K = (g59_1 S86 (fun y0 y1 y2 y3 => K .normal (e70 y0 y1 y2 y3)) x0 x1 x2) := by
  rw [← put_eq h86]
  kernel_rfl
def g59_2 (k0 : V3 → Int → Option R) (x0 x1 x2 : V3) (x3 : Bool) : Option R :=
k0 ([], ()) (1 : Int)
theorem t59_2 (x0 x1 x2 x3) : exec cl N c59_2 (e70 x0 x1 x2 x3) K = (g59_2 (fun y0 y1 => K .normal (e51 y0 y1)) x0 x1 x2 x3) := by
  kernel_rfl
theorem kp59_0 (x0 x1) : keep [2, 3, 4, 5] (e51 x0 x1) = (e71 x0 x1) := by kernel_rfl
theorem kp59_1 (x0 x1 x2 x3) : keep [2, 3, 4, 5] (e70 x0 x1 x2 x3) = (e72 x0 x1 x2) := by kernel_rfl
theorem hb59_0 (x0 x1 x2 x3) : boolOf? (ent (e70 x0 x1 x2 x3) (.t 13)) = some x3 := by kernel_rfl
def g59_4 (S87 : V0 → Option V7) (S89 : V0 → V0 → Option V1) (k0 : V3 → Int → Option R) (x0 x1 x2 : V3) : Option R :=
(S89 x0.1 x1.1).bind fun r670 =>
(S87 r670).bind fun r671 =>
k0 r671.1 r671.2
theorem t59_4 (S87) (S89) (h87 : (ctr87 S87).holds cl) (h89 : (ctr89 S89).holds cl) (x0 x1 x2) : exec cl N c59_4 (e72 x0 x1 x2) K = (g59_4 S87 S89 (fun y0 y1 => K .normal (e58 y0 y1)) x0 x1 x2) := by
  rw [← put_eq h87]
  rw [← put_eq h89]
  kernel_rfl
def g59_5 (S86 : V3 → Option (Bool)) (S87 : V0 → Option V7) (S89 : V0 → V0 → Option V1) (k0 : V3 → Int → Option R) (k1 : V3 → Int → Option R) (x0 x1 : V3) : Option R :=
(g59_0 (g59_1 S86 (fun y0 y1 y2 y3 => brB y3 (g59_2 k0 y0 y1 y2 y3) ((g59_4 S87 S89 k1) y0 y1 y2))) x0 x1)
theorem t59_5 (S86) (S87) (S89) (h86 : (ctr86 S86).holds cl) (h87 : (ctr87 S87).holds cl) (h89 : (ctr89 S89).holds cl) (x0 x1) : exec cl N c59_5 (e68 x0 x1) K = (g59_5 S86 S87 S89 (fun y0 y1 => K .ret (e71 y0 y1)) (fun y0 y1 => K .ret (e58 y0 y1)) x0 x1) := by
  simp only [c59_5, exec_seq, seqK_normal, seqK_exit, seqK_ret, t59_0, t59_1 S86 h86, c59_3, exec_out, exec_cond', hb59_0, Option.bind_some, brB_true, brB_false, t59_2, exec_ret, exec_skip, kp59_0, kp59_1, t59_4 S87 S89 h87 h89]
  rfl
theorem rk59_0 (y0 y1) : retK d59 .ret (e71 y0 y1) = some [.v U4 y0, .v U1 y1] := by kernel_rfl
theorem rk59_1 (y0 y1) : retK d59 .ret (e58 y0 y1) = some [.v U4 y0, .v U1 y1] := by kernel_rfl
def g59 (S86 : V3 → Option (Bool)) (S87 : V0 → Option V7) (S89 : V0 → V0 → Option V1) (x0 x1 : V3) (k : V3 → Int → Option R) : Option R :=
(g59_5 S86 S87 S89 k k x0 x1)
theorem gen59 {N : Nat} {cl : Cal} (S86 : V3 → Option (Bool)) (S87 : V0 → Option V7) (S89 : V0 → V0 → Option V1) (h86 : (ctr86 S86).holds cl) (h87 : (ctr87 S87).holds cl) (h89 : (ctr89 S89).holds cl) (x0 : V3) (x1 : V3) {R : Type} (k : List E → Option R) : exec cl N c59 (params 0 [.v U4 x0, .v U4 x1]) (fun e env => (retK d59 e env).bind k) = g59 S86 S87 S89 x0 x1 (fun (r0 : V3) (r1 : Int) => k [.v U4 r0, .v U1 r1]) := by
  have e0 : params 0 [.v U4 x0, .v U4 x1] = (e68 x0 x1) := by kernel_rfl
  simp only [c59, e0, t59_5 S86 S87 S89 h86 h87 h89, rk59_0, rk59_1, Option.bind_some]
  rfl
def ctr59 (S : V3 → V3 → Option V7) : Ctr := { A := V3 × V3 × Unit, B := V3 × Int, f := 59, enc := fun a => [.v U4 a.1, .v U4 a.2.1], dec := (decC (decV U4) (decC (decV U4) dec0)), S := fun a => S a.1 a.2.1, ent := fun b => [.v U4 b.1, .v U1 b.2], ok := (decV_cons (T := U4) (decV_cons (T := U4) (fun es b h => dec0_some h))) }
def S59 (N : Nat) (x0 : V3) (x1 : V3) : Option V7 := g59 (S86 N) (S87 N) (S89 N) x0 x1 (fun (r0 : V3) (r1 : Int) => some (r0, r1))
def g56_2 (k0 : Bool → Option R) (x0 : V3) : Option R :=
k0 ((x0.1.length : Int) == (0 : Int))
theorem t56_2 (x0) : exec cl N c56_2 [(0, .v U4 x0)] K = (g56_2 (fun y0 => exec cl N .ret [(2, .v .bool y0)] K) x0) := by
  kernel_rfl
def g56_2b (k0 : Bool → Option R) (x0 : V3) : Option R :=
(g56_2 k0 x0)
theorem t56_2b (x0) : exec cl N c56_2 [(0, .v U4 x0)] K = (g56_2b (fun y0 => K .ret [(2, .v .bool y0)]) x0) := by
  simp only [exec_seq, seqK_normal, seqK_exit, seqK_ret, t56_2, exec_ret]
  rfl
theorem rk56_0 (y0) : retK d56 .ret [(2, .v .bool y0)] = some [.v .bool y0] := by kernel_rfl
def g56 (x0 : V3) (k : Bool → Option R) : Option R :=
(g56_2b k x0)
theorem gen56 {N : Nat} {cl : Cal} (x0 : V3) {R : Type} (k : List E → Option R) : exec cl N c56 (params 0 [.v U4 x0]) (fun e env => (retK d56 e env).bind k) = g56 x0 (fun (r0 : Bool) => k [.v .bool r0]) := by
  have e0 : params 0 [.v U4 x0] = [(0, .v U4 x0)] := by kernel_rfl
  simp only [c56, e0, t56_2b, rk56_0, Option.bind_some]
  rfl
def ctr56 (S : V3 → Option (Bool)) : Ctr := { A := V3 × Unit, B := Bool, f := 56, enc := fun a => [.v U4 a.1], dec := (decC (decV U4) dec0), S := fun a => S a.1, ent := fun b => [.v .bool b], ok := (decV_cons (T := U4) (fun es b h => dec0_some h)) }
def S56 (N : Nat) (x0 : V3) : Option (Bool) := g56 x0 (fun (r0 : Bool) => some (r0))
def g108_2 (k0 : Bool → Option R) (x0 : V0) : Option R :=
brB ((x0.length : Int) == (0 : Int)) (k0 true) (if 0 ≤ (0 : Int) ∧ (0 : Int) < (x0.length : Int) then
k0 ((Int.tmod (x0.getD (0 : Int).toNat (0 : Int)) (2 : Int)) == (0 : Int))
else none)
theorem t108_2 (x0) : exec cl N c108_2 [(0, .v U2 x0)] K = (g108_2 (fun y0 => exec cl N .ret [(2, .v .bool y0)] K) x0) := by
  kernel_rfl
def g108_2b (k0 : Bool → Option R) (x0 : V0) : Option R :=
(g108_2 k0 x0)
theorem t108_2b (x0) : exec cl N c108_2 [(0, .v U2 x0)] K = (g108_2b (fun y0 => K .ret [(2, .v .bool y0)]) x0) := by
  simp only [exec_seq, seqK_normal, seqK_exit, seqK_ret, t108_2, exec_ret]
  rfl
theorem rk108_0 (y0) : retK d108 .ret [(2, .v .bool y0)] = some [.v .bool y0] := by kernel_rfl
def g108 (x0 : V0) (k : Bool → Option R) : Option R :=
(g108_2b k x0)
theorem gen108 {N : Nat} {cl : Cal} (x0 : V0) {R : Type} (k : List E → Option R) : exec cl N c108 (params 0 [.v U2 x0]) (fun e env => (retK d108 e env).bind k) = g108 x0 (fun (r0 : Bool) => k [.v .bool r0]) := by
  have e0 : params 0 [.v U2 x0] = [(0, .v U2 x0)] := by kernel_rfl
  simp only [c108, e0, t108_2b, rk108_0, Option.bind_some]
  rfl
def ctr108 (S : V0 → Option (Bool)) : Ctr := { A := V0 × Unit, B := Bool, f := 108, enc := fun a => [.v U2 a.1], dec := (decC (decV U2) dec0), S := fun a => S a.1, ent := fun b => [.v .bool b], ok := (decV_cons (T := U2) (fun es b h => dec0_some h)) }
def S108 (N : Nat) (x0 : V0) : Option (Bool) := g108 x0 (fun (r0 : Bool) => some (r0))
def g109_16 (k0 : V0 → V0 → Int → Option R) (x0 : V0) : Option R :=
if 0 ≤ (x0.length : Int) ∧ (x0.length : Int) ≤ (x0.length : Int) ∧ (x0.length : Int) ≤ ((17592186044416 : Nat) : Int) then
k0 x0 (List.replicate (x0.length : Int).toNat (0 : Int)) (0 : Int)
else none
theorem t109_16 (x0) : exec cl N c109_16 [(0, .v U2 x0)] K = (g109_16 (fun y0 y1 y2 => exec cl N (.seq (.seq c109_3 c109_14) (.seq c109_15 .ret)) [(0, .v U2 y0), (3, .own true 3 U1 .no y1), (4, .v U1 y2)] K) x0) := by
  kernel_rfl
def g109_3 (k0 : V0 → V0 → Int → Int → Option R) (x0 x1 : V0) (x2 : Int) : Option R :=
k0 x0 x1 x2 (IntKind.i64.wrap ((x0.length : Int) - (1 : Int)))
theorem t109_3 (x0 x1 x2) : exec cl N c109_3 [(0, .v U2 x0), (3, .own true 3 U1 .no x1), (4, .v U1 x2)] K = (g109_3 (fun y0 y1 y2 y3 => K .normal (e119 y0 y1 y2 y3)) x0 x1 x2) := by
  kernel_rfl
theorem kp109_0 (x0 x1 x2 x3) : keep [0, 3, 4, 5] (e119 x0 x1 x2 x3) = (e119 x0 x1 x2 x3) := by kernel_rfl
def g109_4 (k0 : V0 → V0 → Int → Int → Bool → Option R) (x0 x1 : V0) (x2 x3 : Int) : Option R :=
k0 x0 x1 x2 x3 (decide (x3 ≥ (0 : Int)))
theorem t109_4 (x0 x1 x2 x3) : exec cl N c109_4 (e119 x0 x1 x2 x3) K = (g109_4 (fun y0 y1 y2 y3 y4 => K .normal (e120 y0 y1 y2 y3 y4)) x0 x1 x2 x3) := by
  kernel_rfl
theorem kp109_1 (x0 x1 x2 x3 x4) : keep [0, 3, 4, 5] (e120 x0 x1 x2 x3 x4) = (e119 x0 x1 x2 x3) := by kernel_rfl
theorem hb109_0 (x0 x1 x2 x3 x4) : boolOf? (ent (e120 x0 x1 x2 x3 x4) (.t 14)) = some x4 := by kernel_rfl
def g109_9 (k0 : V0 → V0 → Int → Int → Option R) (x0 x1 : V0) (x2 x3 : Int) : Option R :=
if 0 ≤ x3 ∧ x3 < (x0.length : Int) then
let v717 : Int := (IntKind.i64.wrap ((IntKind.i64.wrap (x2 * (10000 : Int))) + (x0.getD x3.toNat (0 : Int))))
if 0 ≤ x3 ∧ x3 < (x1.length : Int) then
if x3.toNat < x1.length then
k0 x0 (x1.set x3.toNat (IntKind.i64.wrap (Int.tdiv v717 (2 : Int)))) (Int.tmod v717 (2 : Int)) x3
else none
else none
else none
theorem t109_9 (x0 x1 x2 x3) : exec cl N c109_9 (e119 x0 x1 x2 x3) K = (g109_9 (fun y0 y1 y2 y3 => K .normal (e119 y0 y1 y2 y3)) x0 x1 x2 x3) := by
  kernel_rfl
def g109_11 (k0 : V0 → V0 → Int → Int → Option R) (x0 x1 : V0) (x2 x3 : Int) : Option R :=
k0 x0 x1 x2 (IntKind.i64.wrap (x3 - (1 : Int)))
theorem t109_11 (x0 x1 x2 x3) : exec cl N c109_11 (e119 x0 x1 x2 x3) K = (g109_11 (fun y0 y1 y2 y3 => K .normal (e119 y0 y1 y2 y3)) x0 x1 x2 x3) := by
  kernel_rfl
def g109_12 (k0 : V0 → V0 → Int → Int → Option R) (k1 : V0 → V0 → Int → Int → Option R) (x0 x1 : V0) (x2 x3 : Int) : Option R :=
(g109_4 (fun y0 y1 y2 y3 y4 => brB y4 ((g109_9 ((g109_11 k0))) y0 y1 y2 y3) (k1 y0 y1 y2 y3)) x0 x1 x2 x3)
theorem t109_12 (x0 x1 x2 x3) : exec cl N c109_12 (e119 x0 x1 x2 x3) K = (g109_12 (fun y0 y1 y2 y3 => K .normal (e119 y0 y1 y2 y3)) (fun y0 y1 y2 y3 => K (.exit 0) (e119 y0 y1 y2 y3)) x0 x1 x2 x3) := by
  simp only [c109_12, exec_seq, seqK_normal, seqK_exit, seqK_ret, t109_4, c109_5, exec_out, exec_cond', hb109_0, Option.bind_some, brB_true, brB_false, exec_skip, exec_exit, kp109_1, c109_10, exec_block, t109_9, blockK_normal, blockK_ret, blockK_eq, kp109_0, t109_11]
  rfl
def l109_13 {R : Type} (k0 : V0 → V0 → Int → Int → Option R) : Nat → V0 → V0 → Int → Int → Option R
  | 0, _, _, _, _ => none
  | m + 1, x0, x1, x2, x3 => (g109_12 (l109_13 k0 m) k0 x0 x1 x2 x3)
theorem lt109_13 : ∀ (m) (x0 x1 x2 x3), iter [0, 3, 4, 5] (fun env K => exec cl N c109_12 env K) K m (e119 x0 x1 x2 x3) = l109_13 (fun y0 y1 y2 y3 => K (.exit 0) (e119 y0 y1 y2 y3)) m x0 x1 x2 x3 := by
  intro m
  induction m with
  | zero => intros; rfl
  | succ m ih =>
    intro x0 x1 x2 x3
    simp only [iter_succ, t109_12, loopK_normal, loopK_exit, loopK_ret, kp109_0, ih]
    rfl
theorem kp109_2 (x0 x1 x2 x3) : keep [3] (e119 x0 x1 x2 x3) = (e121 x1) := by kernel_rfl
def g109_13 (N : Nat) (k0 : V0 → Option R) (x0 x1 : V0) (x2 x3 : Int) : Option R :=
l109_13 (fun y0 y1 y2 y3 => k0 y1) N x0 x1 x2 x3
theorem t109_13 (x0 x1 x2 x3) : exec cl N c109_13 (e119 x0 x1 x2 x3) K = (g109_13 N (fun y0 => K (.exit 0) (e121 y0)) x0 x1 x2 x3) := by
  simp only [c109_13, exec_out, exec_loop, kp109_0, lt109_13, kp109_2]
  rfl
theorem kp109_3 (x0) : keep [3] (e121 x0) = (e121 x0) := by kernel_rfl
def g109_15 (S113 : V0 → Option V1) (k0 : V0 → Option R) (x0 : V0) : Option R :=
(S113 x0).bind fun r721 =>
k0 r721
theorem t109_15 (S113) (h113 : (ctr113 S113).holds cl) (x0) : exec cl N c109_15 (e121 x0) K = (g109_15 S113 (fun y0 => K .normal [(2, .v U2 y0)]) x0) := by
  rw [← put_eq h113]
  kernel_rfl
def g109_16b (N : Nat) (S113 : V0 → Option V1) (k0 : V0 → Option R) (x0 : V0) : Option R :=
(g109_16 (g109_3 (g109_13 N ((g109_15 S113 k0)))) x0)
theorem t109_16b (S113) (h113 : (ctr113 S113).holds cl) (x0) : exec cl N c109_16 [(0, .v U2 x0)] K = (g109_16b N S113 (fun y0 => K .ret [(2, .v U2 y0)]) x0) := by
  simp only [exec_seq, seqK_normal, seqK_exit, seqK_ret, t109_16, t109_3, c109_14, exec_out, exec_block, t109_13, blockK_normal, blockK_ret, blockK_eq, kp109_3, t109_15 S113 h113, exec_ret]
  rfl
theorem rk109_0 (y0) : retK d109 .ret [(2, .v U2 y0)] = some [.v U2 y0] := by kernel_rfl
def g109 (N : Nat) (S113 : V0 → Option V1) (x0 : V0) (k : V0 → Option R) : Option R :=
(g109_16b N S113 k x0)
theorem gen109 {N : Nat} {cl : Cal} (S113 : V0 → Option V1) (h113 : (ctr113 S113).holds cl) (x0 : V0) {R : Type} (k : List E → Option R) : exec cl N c109 (params 0 [.v U2 x0]) (fun e env => (retK d109 e env).bind k) = g109 N S113 x0 (fun (r0 : V0) => k [.v U2 r0]) := by
  have e0 : params 0 [.v U2 x0] = [(0, .v U2 x0)] := by kernel_rfl
  simp only [c109, e0, t109_16b S113 h113, rk109_0, Option.bind_some]
  rfl
def ctr109 (S : V0 → Option V1) : Ctr := { A := V0 × Unit, B := V0, f := 109, enc := fun a => [.v U2 a.1], dec := (decC (decV U2) dec0), S := fun a => S a.1, ent := fun b => [.v U2 b], ok := (decV_cons (T := U2) (fun es b h => dec0_some h)) }
def S109 (N : Nat) (x0 : V0) : Option V1 := g109 N (S113 N) x0 (fun (r0 : V0) => some (r0))
def g83_0 (k0 : V3 → V3 → V3 → Option R) (x0 x1 : V3) : Option R :=
k0 x0 x1 ([], ())
theorem t83_0 (x0 x1) : exec cl N c83_0 (e68 x0 x1) K = (g83_0 (fun y0 y1 y2 => K .normal (e69 y0 y1 y2)) x0 x1) := by
  kernel_rfl
def g83_1 (S86 : V3 → Option (Bool)) (k0 : V3 → V3 → V3 → Bool → Option R) (x0 x1 x2 : V3) : Option R :=
(S86 x0).bind fun r738 =>
brB (!r738) (k0 x0 x1 x2 true) ((S86 x1).bind fun r739 =>
k0 x0 x1 x2 (!r739))
theorem t83_1 (S86) (h86 : (ctr86 S86).holds cl) (x0 x1 x2) : exec cl N c83_1 (e69 x0 x1 x2) K = (g83_1 S86 (fun y0 y1 y2 y3 => K .normal (e122 y0 y1 y2 y3)) x0 x1 x2) := by
  rw [← put_eq h86]
  kernel_rfl
def g83_2 (k0 : V3 → Int → Option R) (x0 x1 x2 : V3) (x3 : Bool) : Option R :=
k0 ([], ()) (1 : Int)
theorem t83_2 (x0 x1 x2 x3) : exec cl N c83_2 (e122 x0 x1 x2 x3) K = (g83_2 (fun y0 y1 => K .normal (e51 y0 y1)) x0 x1 x2 x3) := by
  kernel_rfl
theorem kp83_0 (x0 x1) : keep [2, 3, 4, 5] (e51 x0 x1) = (e71 x0 x1) := by kernel_rfl
theorem kp83_1 (x0 x1 x2 x3) : keep [2, 3, 4, 5] (e122 x0 x1 x2 x3) = (e72 x0 x1 x2) := by kernel_rfl
theorem hb83_0 (x0 x1 x2 x3) : boolOf? (ent (e122 x0 x1 x2 x3) (.t 18)) = some x3 := by kernel_rfl
def g83_4 (k0 : V3 → V0 → V0 → Option R) (x0 x1 x2 : V3) : Option R :=
k0 x2 x0.1 x1.1
theorem t83_4 (x0 x1 x2) : exec cl N c83_4 (e72 x0 x1 x2) K = (g83_4 (fun y0 y1 y2 => K .normal (e74 y0 y1 y2)) x0 x1 x2) := by
  kernel_rfl
def g83_5 (k0 : V3 → V0 → V0 → Bool → Option R) (x0 : V3) (x1 x2 : V0) : Option R :=
k0 x0 x1 x2 ((x1.length : Int) == (0 : Int))
theorem t83_5 (x0 x1 x2) : exec cl N c83_5 (e74 x0 x1 x2) K = (g83_5 (fun y0 y1 y2 y3 => K .normal (e123 y0 y1 y2 y3)) x0 x1 x2) := by
  kernel_rfl
def g83_6 (k0 : V3 → Int → Option R) (x0 : V3) (x1 x2 : V0) (x3 : Bool) : Option R :=
if ([] : List Int).length + x2.length ≤ 17592186044416 then
k0 ((([] : List Int) ++ x2), ()) (0 : Int)
else none
theorem t83_6 (x0 x1 x2 x3) : exec cl N c83_6 (e123 x0 x1 x2 x3) K = (g83_6 (fun y0 y1 => K .normal (e58 y0 y1)) x0 x1 x2 x3) := by
  kernel_rfl
theorem kp83_2 (x0 x1) : keep [4, 5, 6, 7] (e58 x0 x1) = (e124 x0 x1) := by kernel_rfl
theorem kp83_3 (x0 x1 x2 x3) : keep [4, 5, 6, 7] (e123 x0 x1 x2 x3) = (e125 x0 x1 x2) := by kernel_rfl
theorem hb83_1 (x0 x1 x2 x3) : boolOf? (ent (e123 x0 x1 x2 x3) (.t 26)) = some x3 := by kernel_rfl
def g83_8 (k0 : V3 → V0 → V0 → Int → Option R) (x0 : V3) (x1 x2 : V0) : Option R :=
k0 x0 x1 x2 (0 : Int)
theorem t83_8 (x0 x1 x2) : exec cl N c83_8 (e125 x0 x1 x2) K = (g83_8 (fun y0 y1 y2 y3 => K .normal (e126 y0 y1 y2 y3)) x0 x1 x2) := by
  kernel_rfl
theorem kp83_4 (x0 x1 x2 x3) : keep [4, 6, 7, 8] (e126 x0 x1 x2 x3) = (e126 x0 x1 x2 x3) := by kernel_rfl
def g83_9 (k0 : V3 → V0 → V0 → Int → Bool → Option R) (x0 : V3) (x1 x2 : V0) (x3 : Int) : Option R :=
k0 x0 x1 x2 x3 (decide ((x2.length : Int) > (0 : Int)))
theorem t83_9 (x0 x1 x2 x3) : exec cl N c83_9 (e126 x0 x1 x2 x3) K = (g83_9 (fun y0 y1 y2 y3 y4 => K .normal (e127 y0 y1 y2 y3 y4)) x0 x1 x2 x3) := by
  kernel_rfl
theorem kp83_5 (x0 x1 x2 x3 x4) : keep [4, 6, 7, 8] (e127 x0 x1 x2 x3 x4) = (e126 x0 x1 x2 x3) := by kernel_rfl
theorem hb83_2 (x0 x1 x2 x3 x4) : boolOf? (ent (e127 x0 x1 x2 x3 x4) (.t 33)) = some x4 := by kernel_rfl
def g83_11 (S108 : V0 → Option (Bool)) (k0 : V3 → V0 → V0 → Int → Bool → Option R) (x0 : V3) (x1 x2 : V0) (x3 : Int) : Option R :=
(S108 x1).bind fun r743 =>
brB r743 ((S108 x2).bind fun r744 =>
k0 x0 x1 x2 x3 r744) (k0 x0 x1 x2 x3 false)
theorem t83_11 (S108) (h108 : (ctr108 S108).holds cl) (x0 x1 x2 x3) : exec cl N c83_11 (e126 x0 x1 x2 x3) K = (g83_11 S108 (fun y0 y1 y2 y3 y4 => K .normal (e128 y0 y1 y2 y3 y4)) x0 x1 x2 x3) := by
  rw [← put_eq h108]
  kernel_rfl
def g83_14 (S109 : V0 → Option V1) (k0 : V3 → V0 → V0 → Int → Option R) (x0 : V3) (x1 x2 : V0) (x3 : Int) (x4 : Bool) : Option R :=
(S109 x1).bind fun r747 =>
(S109 x2).bind fun r748 =>
k0 x0 r747 r748 (IntKind.i64.wrap (x3 + (1 : Int)))
theorem t83_14 (S109) (h109 : (ctr109 S109).holds cl) (x0 x1 x2 x3 x4) : exec cl N c83_14 (e128 x0 x1 x2 x3 x4) K = (g83_14 S109 (fun y0 y1 y2 y3 => K .normal (e126 y0 y1 y2 y3)) x0 x1 x2 x3 x4) := by
  rw [← put_eq h109]
  kernel_rfl
def g83_15 (S108 : V0 → Option (Bool)) (k0 : V3 → V0 → V0 → Int → Bool → Option R) (x0 : V3) (x1 x2 : V0) (x3 : Int) (x4 : Bool) : Option R :=
(S108 x1).bind fun r750 =>
k0 x0 x1 x2 x3 r750
theorem t83_15 (S108) (h108 : (ctr108 S108).holds cl) (x0 x1 x2 x3 x4) : exec cl N c83_15 (e128 x0 x1 x2 x3 x4) K = (g83_15 S108 (fun y0 y1 y2 y3 y4 => K .normal (e129 y0 y1 y2 y3 y4)) x0 x1 x2 x3 x4) := by
  rw [← put_eq h108]
  kernel_rfl
def g83_16 (S109 : V0 → Option V1) (k0 : V3 → V0 → V0 → Int → Option R) (x0 : V3) (x1 x2 : V0) (x3 : Int) (x4 : Bool) : Option R :=
(S109 x1).bind fun r751 =>
k0 x0 r751 x2 x3
theorem t83_16 (S109) (h109 : (ctr109 S109).holds cl) (x0 x1 x2 x3 x4) : exec cl N c83_16 (e129 x0 x1 x2 x3 x4) K = (g83_16 S109 (fun y0 y1 y2 y3 => K .normal (e126 y0 y1 y2 y3)) x0 x1 x2 x3 x4) := by
  rw [← put_eq h109]
  kernel_rfl
def g83_17 (S108 : V0 → Option (Bool)) (k0 : V3 → V0 → V0 → Int → Bool → Option R) (x0 : V3) (x1 x2 : V0) (x3 : Int) (x4 : Bool) : Option R :=
(S108 x2).bind fun r752 =>
k0 x0 x1 x2 x3 r752
theorem t83_17 (S108) (h108 : (ctr108 S108).holds cl) (x0 x1 x2 x3 x4) : exec cl N c83_17 (e129 x0 x1 x2 x3 x4) K = (g83_17 S108 (fun y0 y1 y2 y3 y4 => K .normal (e130 y0 y1 y2 y3 y4)) x0 x1 x2 x3 x4) := by
  rw [← put_eq h108]
  kernel_rfl
def g83_18 (S109 : V0 → Option V1) (k0 : V3 → V0 → V0 → Int → Option R) (x0 : V3) (x1 x2 : V0) (x3 : Int) (x4 : Bool) : Option R :=
(S109 x2).bind fun r753 =>
k0 x0 x1 r753 x3
theorem t83_18 (S109) (h109 : (ctr109 S109).holds cl) (x0 x1 x2 x3 x4) : exec cl N c83_18 (e130 x0 x1 x2 x3 x4) K = (g83_18 S109 (fun y0 y1 y2 y3 => K .normal (e126 y0 y1 y2 y3)) x0 x1 x2 x3 x4) := by
  rw [← put_eq h109]
  kernel_rfl
def g83_19 (S90 : V0 → V0 → Option (Int)) (k0 : V3 → V0 → V0 → Int → Bool → Option R) (x0 : V3) (x1 x2 : V0) (x3 : Int) (x4 : Bool) : Option R :=
(S90 x1 x2).bind fun r754 =>
k0 x0 x1 x2 x3 (decide (r754 > (0 : Int)))
theorem t83_19 (S90) (h90 : (ctr90 S90).holds cl) (x0 x1 x2 x3 x4) : exec cl N c83_19 (e130 x0 x1 x2 x3 x4) K = (g83_19 S90 (fun y0 y1 y2 y3 y4 => K .normal (e131 y0 y1 y2 y3 y4)) x0 x1 x2 x3 x4) := by
  rw [← put_eq h90]
  kernel_rfl
def g83_20 (S91 : V0 → V0 → Option V1) (k0 : V3 → V0 → V0 → Int → Option R) (x0 : V3) (x1 x2 : V0) (x3 : Int) (x4 : Bool) : Option R :=
(S91 x1 x2).bind fun r756 =>
k0 x0 x2 r756 x3
theorem t83_20 (S91) (h91 : (ctr91 S91).holds cl) (x0 x1 x2 x3 x4) : exec cl N c83_20 (e131 x0 x1 x2 x3 x4) K = (g83_20 S91 (fun y0 y1 y2 y3 => K .normal (e126 y0 y1 y2 y3)) x0 x1 x2 x3 x4) := by
  rw [← put_eq h91]
  kernel_rfl
def g83_21 (S91 : V0 → V0 → Option V1) (k0 : V3 → V0 → V0 → Int → Option R) (x0 : V3) (x1 x2 : V0) (x3 : Int) (x4 : Bool) : Option R :=
(S91 x2 x1).bind fun r757 =>
k0 x0 x1 r757 x3
theorem t83_21 (S91) (h91 : (ctr91 S91).holds cl) (x0 x1 x2 x3 x4) : exec cl N c83_21 (e131 x0 x1 x2 x3 x4) K = (g83_21 S91 (fun y0 y1 y2 y3 => K .normal (e126 y0 y1 y2 y3)) x0 x1 x2 x3 x4) := by
  rw [← put_eq h91]
  kernel_rfl
theorem hb83_3 (x0 x1 x2 x3 x4) : boolOf? (ent (e131 x0 x1 x2 x3 x4) (.t 60)) = some x4 := by kernel_rfl
theorem hb83_4 (x0 x1 x2 x3 x4) : boolOf? (ent (e130 x0 x1 x2 x3 x4) (.t 55)) = some x4 := by kernel_rfl
theorem hb83_5 (x0 x1 x2 x3 x4) : boolOf? (ent (e129 x0 x1 x2 x3 x4) (.t 50)) = some x4 := by kernel_rfl
theorem hb83_6 (x0 x1 x2 x3 x4) : boolOf? (ent (e128 x0 x1 x2 x3 x4) (.t 37)) = some x4 := by kernel_rfl
def g83_28 (S90 : V0 → V0 → Option (Int)) (S91 : V0 → V0 → Option V1) (S108 : V0 → Option (Bool)) (S109 : V0 → Option V1) (k0 : V3 → V0 → V0 → Int → Option R) (k1 : V3 → V0 → V0 → Int → Option R) (x0 : V3) (x1 x2 : V0) (x3 : Int) : Option R :=
(g83_9 (fun y0 y1 y2 y3 y4 => brB y4 ((g83_11 S108 (fun y0 y1 y2 y3 y4 => brB y4 (g83_14 S109 k0 y0 y1 y2 y3 y4) (g83_15 S108 (fun y0 y1 y2 y3 y4 => brB y4 (g83_16 S109 k0 y0 y1 y2 y3 y4) (g83_17 S108 (fun y0 y1 y2 y3 y4 => brB y4 (g83_18 S109 k0 y0 y1 y2 y3 y4) (g83_19 S90 (fun y0 y1 y2 y3 y4 => brB y4 (g83_20 S91 k0 y0 y1 y2 y3 y4) (g83_21 S91 k0 y0 y1 y2 y3 y4)) y0 y1 y2 y3 y4)) y0 y1 y2 y3 y4)) y0 y1 y2 y3 y4))) y0 y1 y2 y3) (k1 y0 y1 y2 y3)) x0 x1 x2 x3)
theorem t83_28 (S90) (S91) (S108) (S109) (h90 : (ctr90 S90).holds cl) (h91 : (ctr91 S91).holds cl) (h108 : (ctr108 S108).holds cl) (h109 : (ctr109 S109).holds cl) (x0 x1 x2 x3) : exec cl N c83_28 (e126 x0 x1 x2 x3) K = (g83_28 S90 S91 S108 S109 (fun y0 y1 y2 y3 => K .normal (e126 y0 y1 y2 y3)) (fun y0 y1 y2 y3 => K (.exit 0) (e126 y0 y1 y2 y3)) x0 x1 x2 x3) := by
  simp only [c83_28, exec_seq, seqK_normal, seqK_exit, seqK_ret, t83_9, c83_10, exec_out, exec_cond', hb83_2, Option.bind_some, brB_true, brB_false, exec_skip, exec_exit, kp83_5, c83_27, exec_block, c83_26, t83_11 S108 h108, c83_25, hb83_6, t83_14 S109 h109, t83_15 S108 h108, c83_24, hb83_5, t83_16 S109 h109, t83_17 S108 h108, c83_23, hb83_4, t83_18 S109 h109, t83_19 S90 h90, c83_22, hb83_3, t83_20 S91 h91, t83_21 S91 h91, kp83_4, blockK_normal, blockK_ret, blockK_eq]
  rfl
def l83_29 {R : Type} (S90 : V0 → V0 → Option (Int)) (S91 : V0 → V0 → Option V1) (S108 : V0 → Option (Bool)) (S109 : V0 → Option V1) (k0 : V3 → V0 → V0 → Int → Option R) : Nat → V3 → V0 → V0 → Int → Option R
  | 0, _, _, _, _ => none
  | m + 1, x0, x1, x2, x3 => (g83_28 S90 S91 S108 S109 (l83_29 S90 S91 S108 S109 k0 m) k0 x0 x1 x2 x3)
theorem lt83_29 (S90) (S91) (S108) (S109) (h90 : (ctr90 S90).holds cl) (h91 : (ctr91 S91).holds cl) (h108 : (ctr108 S108).holds cl) (h109 : (ctr109 S109).holds cl) : ∀ (m) (x0 x1 x2 x3), iter [4, 6, 7, 8] (fun env K => exec cl N c83_28 env K) K m (e126 x0 x1 x2 x3) = l83_29 S90 S91 S108 S109 (fun y0 y1 y2 y3 => K (.exit 0) (e126 y0 y1 y2 y3)) m x0 x1 x2 x3 := by
  intro m
  induction m with
  | zero => intros; rfl
  | succ m ih =>
    intro x0 x1 x2 x3
    simp only [iter_succ, t83_28 S90 S91 S108 S109 h90 h91 h108 h109, loopK_normal, loopK_exit, loopK_ret, kp83_4, ih]
    rfl
theorem kp83_6 (x0 x1 x2 x3) : keep [4, 6, 8] (e126 x0 x1 x2 x3) = (e132 x0 x1 x3) := by kernel_rfl
def g83_29 (N : Nat) (S90 : V0 → V0 → Option (Int)) (S91 : V0 → V0 → Option V1) (S108 : V0 → Option (Bool)) (S109 : V0 → Option V1) (k0 : V3 → V0 → Int → Option R) (x0 : V3) (x1 x2 : V0) (x3 : Int) : Option R :=
l83_29 S90 S91 S108 S109 (fun y0 y1 y2 y3 => k0 y0 y1 y3) N x0 x1 x2 x3
theorem t83_29 (S90) (S91) (S108) (S109) (h90 : (ctr90 S90).holds cl) (h91 : (ctr91 S91).holds cl) (h108 : (ctr108 S108).holds cl) (h109 : (ctr109 S109).holds cl) (x0 x1 x2 x3) : exec cl N c83_29 (e126 x0 x1 x2 x3) K = (g83_29 N S90 S91 S108 S109 (fun y0 y1 y2 => K (.exit 0) (e132 y0 y1 y2)) x0 x1 x2 x3) := by
  simp only [c83_29, exec_out, exec_loop, kp83_4, lt83_29 S90 S91 S108 S109 h90 h91 h108 h109, kp83_6]
  rfl
theorem kp83_7 (x0 x1 x2) : keep [4, 6, 8] (e132 x0 x1 x2) = (e132 x0 x1 x2) := by kernel_rfl
def g83_31 (k0 : V3 → Int → V0 → Option R) (x0 : V3) (x1 : V0) (x2 : Int) : Option R :=
if ([] : List Int).length + x1.length ≤ 17592186044416 then
k0 x0 x2 (([] : List Int) ++ x1)
else none
theorem t83_31 (x0 x1 x2) : exec cl N c83_31 (e132 x0 x1 x2) K = (g83_31 (fun y0 y1 y2 => K .normal (e133 y0 y1 y2)) x0 x1 x2) := by
  kernel_rfl
def g83_32 (k0 : V3 → Int → V0 → Int → Option R) (x0 : V3) (x1 : Int) (x2 : V0) : Option R :=
k0 x0 x1 x2 (0 : Int)
theorem t83_32 (x0 x1 x2) : exec cl N c83_32 (e133 x0 x1 x2) K = (g83_32 (fun y0 y1 y2 y3 => K .normal (e134 y0 y1 y2 y3)) x0 x1 x2) := by
  kernel_rfl
theorem kp83_8 (x0 x1 x2 x3) : keep [4, 8, 9, 10] (e134 x0 x1 x2 x3) = (e134 x0 x1 x2 x3) := by kernel_rfl
def g83_33 (k0 : V3 → Int → V0 → Int → Bool → Option R) (x0 : V3) (x1 : Int) (x2 : V0) (x3 : Int) : Option R :=
k0 x0 x1 x2 x3 (decide (x3 < x1))
theorem t83_33 (x0 x1 x2 x3) : exec cl N c83_33 (e134 x0 x1 x2 x3) K = (g83_33 (fun y0 y1 y2 y3 y4 => K .normal (e135 y0 y1 y2 y3 y4)) x0 x1 x2 x3) := by
  kernel_rfl
theorem kp83_9 (x0 x1 x2 x3 x4) : keep [4, 8, 9, 10] (e135 x0 x1 x2 x3 x4) = (e134 x0 x1 x2 x3) := by kernel_rfl
theorem hb83_7 (x0 x1 x2 x3 x4) : boolOf? (ent (e135 x0 x1 x2 x3 x4) (.t 74)) = some x4 := by kernel_rfl
def g83_35 (S89 : V0 → V0 → Option V1) (k0 : V3 → Int → V0 → Int → Option R) (x0 : V3) (x1 : Int) (x2 : V0) (x3 : Int) : Option R :=
(S89 x2 x2).bind fun r759 =>
k0 x0 x1 r759 x3
theorem t83_35 (S89) (h89 : (ctr89 S89).holds cl) (x0 x1 x2 x3) : exec cl N c83_35 (e134 x0 x1 x2 x3) K = (g83_35 S89 (fun y0 y1 y2 y3 => K .normal (e134 y0 y1 y2 y3)) x0 x1 x2 x3) := by
  rw [← put_eq h89]
  kernel_rfl
def g83_37 (k0 : V3 → Int → V0 → Int → Option R) (x0 : V3) (x1 : Int) (x2 : V0) (x3 : Int) : Option R :=
k0 x0 x1 x2 (IntKind.i64.wrap (x3 + (1 : Int)))
theorem t83_37 (x0 x1 x2 x3) : exec cl N c83_37 (e134 x0 x1 x2 x3) K = (g83_37 (fun y0 y1 y2 y3 => K .normal (e134 y0 y1 y2 y3)) x0 x1 x2 x3) := by
  kernel_rfl
def g83_38 (S89 : V0 → V0 → Option V1) (k0 : V3 → Int → V0 → Int → Option R) (k1 : V3 → Int → V0 → Int → Option R) (x0 : V3) (x1 : Int) (x2 : V0) (x3 : Int) : Option R :=
(g83_33 (fun y0 y1 y2 y3 y4 => brB y4 ((g83_35 S89 ((g83_37 k0))) y0 y1 y2 y3) (k1 y0 y1 y2 y3)) x0 x1 x2 x3)
theorem t83_38 (S89) (h89 : (ctr89 S89).holds cl) (x0 x1 x2 x3) : exec cl N c83_38 (e134 x0 x1 x2 x3) K = (g83_38 S89 (fun y0 y1 y2 y3 => K .normal (e134 y0 y1 y2 y3)) (fun y0 y1 y2 y3 => K (.exit 3) (e134 y0 y1 y2 y3)) x0 x1 x2 x3) := by
  simp only [c83_38, exec_seq, seqK_normal, seqK_exit, seqK_ret, t83_33, c83_34, exec_out, exec_cond', hb83_7, Option.bind_some, brB_true, brB_false, exec_skip, exec_exit, kp83_9, c83_36, exec_block, t83_35 S89 h89, blockK_normal, blockK_ret, blockK_eq, kp83_8, t83_37]
  rfl
def l83_39 {R : Type} (S89 : V0 → V0 → Option V1) (k0 : V3 → Int → V0 → Int → Option R) : Nat → V3 → Int → V0 → Int → Option R
  | 0, _, _, _, _ => none
  | m + 1, x0, x1, x2, x3 => (g83_38 S89 (l83_39 S89 k0 m) k0 x0 x1 x2 x3)
theorem lt83_39 (S89) (h89 : (ctr89 S89).holds cl) : ∀ (m) (x0 x1 x2 x3), iter [4, 8, 9, 10] (fun env K => exec cl N c83_38 env K) K m (e134 x0 x1 x2 x3) = l83_39 S89 (fun y0 y1 y2 y3 => K (.exit 3) (e134 y0 y1 y2 y3)) m x0 x1 x2 x3 := by
  intro m
  induction m with
  | zero => intros; rfl
  | succ m ih =>
    intro x0 x1 x2 x3
    simp only [iter_succ, t83_38 S89 h89, loopK_normal, loopK_exit, loopK_ret, kp83_8, ih]
    rfl
theorem kp83_10 (x0 x1 x2 x3) : keep [4, 9] (e134 x0 x1 x2 x3) = (e136 x0 x2) := by kernel_rfl
def g83_39 (N : Nat) (S89 : V0 → V0 → Option V1) (k0 : V3 → V0 → Option R) (x0 : V3) (x1 : Int) (x2 : V0) (x3 : Int) : Option R :=
l83_39 S89 (fun y0 y1 y2 y3 => k0 y0 y2) N x0 x1 x2 x3
theorem t83_39 (S89) (h89 : (ctr89 S89).holds cl) (x0 x1 x2 x3) : exec cl N c83_39 (e134 x0 x1 x2 x3) K = (g83_39 N S89 (fun y0 y1 => K (.exit 3) (e136 y0 y1)) x0 x1 x2 x3) := by
  simp only [c83_39, exec_out, exec_loop, kp83_8, lt83_39 S89 h89, kp83_10]
  rfl
theorem kp83_11 (x0 x1) : keep [4, 9] (e136 x0 x1) = (e136 x0 x1) := by kernel_rfl
def g83_41 (k0 : V3 → Int → Option R) (x0 : V3) (x1 : V0) : Option R :=
k0 (x1, ()) (0 : Int)
theorem t83_41 (x0 x1) : exec cl N c83_41 (e136 x0 x1) K = (g83_41 (fun y0 y1 => K .normal (e58 y0 y1)) x0 x1) := by
  kernel_rfl
def g83_42 (N : Nat) (S86 : V3 → Option (Bool)) (S89 : V0 → V0 → Option V1) (S90 : V0 → V0 → Option (Int)) (S91 : V0 → V0 → Option V1) (S108 : V0 → Option (Bool)) (S109 : V0 → Option V1) (k0 : V3 → Int → Option R) (k1 : V3 → Int → Option R) (k2 : V3 → Int → Option R) (x0 x1 : V3) : Option R :=
(g83_0 (g83_1 S86 (fun y0 y1 y2 y3 => brB y3 (g83_2 k0 y0 y1 y2 y3) ((g83_4 (g83_5 (fun y0 y1 y2 y3 => brB y3 (g83_6 k1 y0 y1 y2 y3) ((g83_8 (g83_29 N S90 S91 S108 S109 ((g83_31 (g83_32 (g83_39 N S89 ((g83_41 k2)))))))) y0 y1 y2)))) y0 y1 y2))) x0 x1)
theorem t83_42 (S86) (S89) (S90) (S91) (S108) (S109) (h86 : (ctr86 S86).holds cl) (h89 : (ctr89 S89).holds cl) (h90 : (ctr90 S90).holds cl) (h91 : (ctr91 S91).holds cl) (h108 : (ctr108 S108).holds cl) (h109 : (ctr109 S109).holds cl) (x0 x1) : exec cl N c83_42 (e68 x0 x1) K = (g83_42 N S86 S89 S90 S91 S108 S109 (fun y0 y1 => K .ret (e71 y0 y1)) (fun y0 y1 => K .ret (e124 y0 y1)) (fun y0 y1 => K .ret (e58 y0 y1)) x0 x1) := by
  simp only [c83_42, exec_seq, seqK_normal, seqK_exit, seqK_ret, t83_0, t83_1 S86 h86, c83_3, exec_out, exec_cond', hb83_0, Option.bind_some, brB_true, brB_false, t83_2, exec_ret, exec_skip, kp83_0, kp83_1, t83_4, t83_5, c83_7, hb83_1, t83_6, kp83_2, kp83_3, t83_8, c83_30, exec_block, t83_29 S90 S91 S108 S109 h90 h91 h108 h109, blockK_normal, blockK_ret, blockK_eq, kp83_7, t83_31, t83_32, c83_40, t83_39 S89 h89, kp83_11, t83_41]
  rfl
theorem rk83_0 (y0 y1) : retK d83 .ret (e71 y0 y1) = some [.v U4 y0, .v U1 y1] := by kernel_rfl
theorem rk83_1 (y0 y1) : retK d83 .ret (e124 y0 y1) = some [.v U4 y0, .v U1 y1] := by kernel_rfl
theorem rk83_2 (y0 y1) : retK d83 .ret (e58 y0 y1) = some [.v U4 y0, .v U1 y1] := by kernel_rfl
def g83 (N : Nat) (S86 : V3 → Option (Bool)) (S89 : V0 → V0 → Option V1) (S90 : V0 → V0 → Option (Int)) (S91 : V0 → V0 → Option V1) (S108 : V0 → Option (Bool)) (S109 : V0 → Option V1) (x0 x1 : V3) (k : V3 → Int → Option R) : Option R :=
(g83_42 N S86 S89 S90 S91 S108 S109 k k k x0 x1)
theorem gen83 {N : Nat} {cl : Cal} (S86 : V3 → Option (Bool)) (S89 : V0 → V0 → Option V1) (S90 : V0 → V0 → Option (Int)) (S91 : V0 → V0 → Option V1) (S108 : V0 → Option (Bool)) (S109 : V0 → Option V1) (h86 : (ctr86 S86).holds cl) (h89 : (ctr89 S89).holds cl) (h90 : (ctr90 S90).holds cl) (h91 : (ctr91 S91).holds cl) (h108 : (ctr108 S108).holds cl) (h109 : (ctr109 S109).holds cl) (x0 : V3) (x1 : V3) {R : Type} (k : List E → Option R) : exec cl N c83 (params 0 [.v U4 x0, .v U4 x1]) (fun e env => (retK d83 e env).bind k) = g83 N S86 S89 S90 S91 S108 S109 x0 x1 (fun (r0 : V3) (r1 : Int) => k [.v U4 r0, .v U1 r1]) := by
  have e0 : params 0 [.v U4 x0, .v U4 x1] = (e68 x0 x1) := by kernel_rfl
  simp only [c83, e0, t83_42 S86 S89 S90 S91 S108 S109 h86 h89 h90 h91 h108 h109, rk83_0, rk83_1, rk83_2, Option.bind_some]
  rfl
def ctr83 (S : V3 → V3 → Option V7) : Ctr := { A := V3 × V3 × Unit, B := V3 × Int, f := 83, enc := fun a => [.v U4 a.1, .v U4 a.2.1], dec := (decC (decV U4) (decC (decV U4) dec0)), S := fun a => S a.1 a.2.1, ent := fun b => [.v U4 b.1, .v U1 b.2], ok := (decV_cons (T := U4) (decV_cons (T := U4) (fun es b h => dec0_some h))) }
def S83 (N : Nat) (x0 : V3) (x1 : V3) : Option V7 := g83 N (S86 N) (S89 N) (S90 N) (S91 N) (S108 N) (S109 N) x0 x1 (fun (r0 : V3) (r1 : Int) => some (r0, r1))
def g84_0 (k0 : V3 → V3 → V3 → V3 → Option R) (x0 x1 : V3) : Option R :=
k0 x0 x1 ([], ()) ([], ())
theorem t84_0 (x0 x1) : exec cl N c84_0 (e68 x0 x1) K = (g84_0 (fun y0 y1 y2 y3 => K .normal (e76 y0 y1 y2 y3)) x0 x1) := by
  kernel_rfl
def g84_1 (S86 : V3 → Option (Bool)) (k0 : V3 → V3 → V3 → V3 → Bool → Option R) (x0 x1 x2 x3 : V3) : Option R :=
(S86 x0).bind fun r768 =>
brB (!r768) (k0 x0 x1 x2 x3 true) ((S86 x1).bind fun r769 =>
k0 x0 x1 x2 x3 (!r769))
theorem t84_1 (S86) (h86 : (ctr86 S86).holds cl) (x0 x1 x2 x3) : exec cl N c84_1 (e76 x0 x1 x2 x3) K = (g84_1 S86 (fun y0 y1 y2 y3 y4 => K .normal (e137 y0 y1 y2 y3 y4)) x0 x1 x2 x3) := by
  rw [← put_eq h86]
  kernel_rfl
def g84_2 (k0 : V3 → V3 → Int → Option R) (x0 x1 x2 x3 : V3) (x4 : Bool) : Option R :=
k0 ([], ()) ([], ()) (1 : Int)
theorem t84_2 (x0 x1 x2 x3 x4) : exec cl N c84_2 (e137 x0 x1 x2 x3 x4) K = (g84_2 (fun y0 y1 y2 => K .normal (e78 y0 y1 y2)) x0 x1 x2 x3 x4) := by
  kernel_rfl
theorem kp84_0 (x0 x1 x2) : keep [2, 3, 4, 5, 6] (e78 x0 x1 x2) = (e79 x0 x1 x2) := by kernel_rfl
theorem kp84_1 (x0 x1 x2 x3 x4) : keep [2, 3, 4, 5, 6] (e137 x0 x1 x2 x3 x4) = (e81 x0 x1 x2 x3) := by kernel_rfl
theorem hb84_0 (x0 x1 x2 x3 x4) : boolOf? (ent (e137 x0 x1 x2 x3 x4) (.t 16)) = some x4 := by kernel_rfl
def g84_4 (k0 : V3 → V3 → V3 → V3 → Bool → Option R) (x0 x1 x2 x3 : V3) : Option R :=
k0 x0 x1 x2 x3 ((x1.1.length : Int) == (0 : Int))
theorem t84_4 (x0 x1 x2 x3) : exec cl N c84_4 (e81 x0 x1 x2 x3) K = (g84_4 (fun y0 y1 y2 y3 y4 => K .normal (e138 y0 y1 y2 y3 y4)) x0 x1 x2 x3) := by
  kernel_rfl
def g84_5 (k0 : V3 → V3 → Int → Option R) (x0 x1 x2 x3 : V3) (x4 : Bool) : Option R :=
k0 ([], ()) ([], ()) (6 : Int)
theorem t84_5 (x0 x1 x2 x3 x4) : exec cl N c84_5 (e138 x0 x1 x2 x3 x4) K = (g84_5 (fun y0 y1 y2 => K .normal (e78 y0 y1 y2)) x0 x1 x2 x3 x4) := by
  kernel_rfl
theorem kp84_2 (x0 x1 x2 x3 x4) : keep [2, 3, 4, 5, 6] (e138 x0 x1 x2 x3 x4) = (e81 x0 x1 x2 x3) := by kernel_rfl
theorem hb84_1 (x0 x1 x2 x3 x4) : boolOf? (ent (e138 x0 x1 x2 x3 x4) (.t 22)) = some x4 := by kernel_rfl
def g84_9 (S110 : V0 → V0 → Option V6) (k0 : V3 → V3 → Int → Option R) (x0 x1 x2 x3 : V3) : Option R :=
(S110 x0.1 x1.1).bind fun r772 =>
k0 (r772.1, ()) (r772.2, ()) (0 : Int)
theorem t84_9 (S110) (h110 : (ctr110 S110).holds cl) (x0 x1 x2 x3) : exec cl N c84_9 (e81 x0 x1 x2 x3) K = (g84_9 S110 (fun y0 y1 y2 => exec cl N .ret (e82 y0 y1 y2) K) x0 x1 x2 x3) := by
  rw [← put_eq h110]
  kernel_rfl
def g84_10 (S86 : V3 → Option (Bool)) (S110 : V0 → V0 → Option V6) (k0 : V3 → V3 → Int → Option R) (k1 : V3 → V3 → Int → Option R) (x0 x1 : V3) : Option R :=
(g84_0 (g84_1 S86 (fun y0 y1 y2 y3 y4 => brB y4 (g84_2 k0 y0 y1 y2 y3 y4) ((g84_4 (fun y0 y1 y2 y3 y4 => brB y4 (g84_5 k0 y0 y1 y2 y3 y4) ((g84_9 S110 k1) y0 y1 y2 y3))) y0 y1 y2 y3))) x0 x1)
theorem t84_10 (S86) (S110) (h86 : (ctr86 S86).holds cl) (h110 : (ctr110 S110).holds cl) (x0 x1) : exec cl N c84_10 (e68 x0 x1) K = (g84_10 S86 S110 (fun y0 y1 y2 => K .ret (e79 y0 y1 y2)) (fun y0 y1 y2 => K .ret (e82 y0 y1 y2)) x0 x1) := by
  simp only [c84_10, exec_seq, seqK_normal, seqK_exit, seqK_ret, t84_0, t84_1 S86 h86, c84_3, exec_out, exec_cond', hb84_0, Option.bind_some, brB_true, brB_false, t84_2, exec_ret, exec_skip, kp84_0, kp84_1, t84_4, c84_6, hb84_1, t84_5, kp84_2, t84_9 S110 h110]
  rfl
theorem rk84_0 (y0 y1 y2) : retK d84 .ret (e79 y0 y1 y2) = some [.v U4 y0, .v U4 y1, .v U1 y2] := by kernel_rfl
theorem rk84_1 (y0 y1 y2) : retK d84 .ret (e82 y0 y1 y2) = some [.v U4 y0, .v U4 y1, .v U1 y2] := by kernel_rfl
def g84 (S86 : V3 → Option (Bool)) (S110 : V0 → V0 → Option V6) (x0 x1 : V3) (k : V3 → V3 → Int → Option R) : Option R :=
(g84_10 S86 S110 k k x0 x1)
theorem gen84 {N : Nat} {cl : Cal} (S86 : V3 → Option (Bool)) (S110 : V0 → V0 → Option V6) (h86 : (ctr86 S86).holds cl) (h110 : (ctr110 S110).holds cl) (x0 : V3) (x1 : V3) {R : Type} (k : List E → Option R) : exec cl N c84 (params 0 [.v U4 x0, .v U4 x1]) (fun e env => (retK d84 e env).bind k) = g84 S86 S110 x0 x1 (fun (r0 : V3) (r1 : V3) (r2 : Int) => k [.v U4 r0, .v U4 r1, .v U1 r2]) := by
  have e0 : params 0 [.v U4 x0, .v U4 x1] = (e68 x0 x1) := by kernel_rfl
  simp only [c84, e0, t84_10 S86 S110 h86 h110, rk84_0, rk84_1, Option.bind_some]
  rfl
def ctr84 (S : V3 → V3 → Option V12) : Ctr := { A := V3 × V3 × Unit, B := V3 × V3 × Int, f := 84, enc := fun a => [.v U4 a.1, .v U4 a.2.1], dec := (decC (decV U4) (decC (decV U4) dec0)), S := fun a => S a.1 a.2.1, ent := fun b => [.v U4 b.1, .v U4 b.2.1, .v U1 b.2.2], ok := (decV_cons (T := U4) (decV_cons (T := U4) (fun es b h => dec0_some h))) }
def S84 (N : Nat) (x0 : V3) (x1 : V3) : Option V12 := g84 (S86 N) (S110 N) x0 x1 (fun (r0 : V3) (r1 : V3) (r2 : Int) => some (r0, r1, r2))
def g52_5 (S56 : V3 → Option (Bool)) (S83 : V3 → V3 → Option V7) (S84 : V3 → V3 → Option V12) (k0 : V14 → Option R) (x0 : Bool) (x1 x2 : V3) : Option R :=
(S83 x1 x2).bind fun r789 =>
(S84 x1 r789.1).bind fun r790 =>
(S84 x2 r789.1).bind fun r791 =>
brB x0 ((S56 r790.1).bind fun r792 =>
k0 ((!r792), r790.1, r791.1, ())) (k0 (false, r790.1, r791.1, ()))
theorem t52_5 (S56) (S83) (S84) (h56 : (ctr56 S56).holds cl) (h83 : (ctr83 S83).holds cl) (h84 : (ctr84 S84).holds cl) (x0 x1 x2) : exec cl N c52_5 (e83 x0 x1 x2) K = (g52_5 S56 S83 S84 (fun y0 => exec cl N .ret [(6, .loc U11 .no y0)] K) x0 x1 x2) := by
  rw [← put_eq h56]
  rw [← put_eq h83]
  rw [← put_eq h84]
  kernel_rfl
def g52_5b (S56 : V3 → Option (Bool)) (S83 : V3 → V3 → Option V7) (S84 : V3 → V3 → Option V12) (k0 : V14 → Option R) (x0 : Bool) (x1 x2 : V3) : Option R :=
(g52_5 S56 S83 S84 k0 x0 x1 x2)
theorem t52_5b (S56) (S83) (S84) (h56 : (ctr56 S56).holds cl) (h83 : (ctr83 S83).holds cl) (h84 : (ctr84 S84).holds cl) (x0 x1 x2) : exec cl N c52_5 (e83 x0 x1 x2) K = (g52_5b S56 S83 S84 (fun y0 => K .ret [(6, .loc U11 .no y0)]) x0 x1 x2) := by
  simp only [exec_seq, seqK_normal, seqK_exit, seqK_ret, t52_5 S56 S83 S84 h56 h83 h84, exec_ret]
  rfl
theorem rk52_0 (y0) : retK d52 .ret [(6, .loc U11 .no y0)] = some [.v U11 y0] := by kernel_rfl
def g52 (S56 : V3 → Option (Bool)) (S83 : V3 → V3 → Option V7) (S84 : V3 → V3 → Option V12) (x0 : Bool) (x1 x2 : V3) (k : V14 → Option R) : Option R :=
(g52_5b S56 S83 S84 k x0 x1 x2)
theorem gen52 {N : Nat} {cl : Cal} (S56 : V3 → Option (Bool)) (S83 : V3 → V3 → Option V7) (S84 : V3 → V3 → Option V12) (h56 : (ctr56 S56).holds cl) (h83 : (ctr83 S83).holds cl) (h84 : (ctr84 S84).holds cl) (x0 : Bool) (x1 : V3) (x2 : V3) {R : Type} (k : List E → Option R) : exec cl N c52 (params 0 [.v .bool x0, .v U4 x1, .v U4 x2]) (fun e env => (retK d52 e env).bind k) = g52 S56 S83 S84 x0 x1 x2 (fun (r0 : V14) => k [.v U11 r0]) := by
  have e0 : params 0 [.v .bool x0, .v U4 x1, .v U4 x2] = (e83 x0 x1 x2) := by kernel_rfl
  simp only [c52, e0, t52_5b S56 S83 S84 h56 h83 h84, rk52_0, Option.bind_some]
  rfl
def ctr52 (S : Bool → V3 → V3 → Option V15) : Ctr := { A := Bool × V3 × V3 × Unit, B := V14, f := 52, enc := fun a => [.v .bool a.1, .v U4 a.2.1, .v U4 a.2.2.1], dec := (decC (decV .bool) (decC (decV U4) (decC (decV U4) dec0))), S := fun a => S a.1 a.2.1 a.2.2.1, ent := fun b => [.v U11 b], ok := (decV_cons (T := .bool) (decV_cons (T := U4) (decV_cons (T := U4) (fun es b h => dec0_some h)))) }
def S52 (N : Nat) (x0 : Bool) (x1 : V3) (x2 : V3) : Option V15 := g52 (S56 N) (S83 N) (S84 N) x0 x1 x2 (fun (r0 : V14) => some (r0))
def g72_0 (k0 : V3 → V3 → V14 → Option R) (x0 x1 : V3) : Option R :=
k0 x0 x1 (false, (([], ()), (([], ()), ())))
theorem t72_0 (x0 x1) : exec cl N c72_0 (e68 x0 x1) K = (g72_0 (fun y0 y1 y2 => K .normal (e84 y0 y1 y2)) x0 x1) := by
  kernel_rfl
def g72_1 (S86 : V3 → Option (Bool)) (k0 : V3 → V3 → V14 → Bool → Option R) (x0 x1 : V3) (x2 : V14) : Option R :=
(S86 x0).bind fun r796 =>
brB (!r796) (k0 x0 x1 x2 true) ((S86 x1).bind fun r797 =>
k0 x0 x1 x2 (!r797))
theorem t72_1 (S86) (h86 : (ctr86 S86).holds cl) (x0 x1 x2) : exec cl N c72_1 (e84 x0 x1 x2) K = (g72_1 S86 (fun y0 y1 y2 y3 => K .normal (e85 y0 y1 y2 y3)) x0 x1 x2) := by
  rw [← put_eq h86]
  kernel_rfl
def g72_2 (k0 : V14 → Int → Option R) (x0 x1 : V3) (x2 : V14) (x3 : Bool) : Option R :=
k0 (false, ([], ()), ([], ()), ()) (1 : Int)
theorem t72_2 (x0 x1 x2 x3) : exec cl N c72_2 (e85 x0 x1 x2 x3) K = (g72_2 (fun y0 y1 => K .normal (e86 y0 y1)) x0 x1 x2 x3) := by
  kernel_rfl
theorem kp72_0 (x0 x1) : keep [2, 3, 4, 5] (e86 x0 x1) = (e87 x0 x1) := by kernel_rfl
theorem kp72_1 (x0 x1 x2 x3) : keep [2, 3, 4, 5] (e85 x0 x1 x2 x3) = (e88 x0 x1 x2) := by kernel_rfl
theorem hb72_0 (x0 x1 x2 x3) : boolOf? (ent (e85 x0 x1 x2 x3) (.t 13)) = some x3 := by kernel_rfl
def g72_4 (S56 : V3 → Option (Bool)) (k0 : V3 → V3 → V14 → Bool → Option R) (x0 x1 : V3) (x2 : V14) : Option R :=
(S56 x1).bind fun r799 =>
k0 x0 x1 x2 r799
theorem t72_4 (S56) (h56 : (ctr56 S56).holds cl) (x0 x1 x2) : exec cl N c72_4 (e88 x0 x1 x2) K = (g72_4 S56 (fun y0 y1 y2 y3 => K .normal (e89 y0 y1 y2 y3)) x0 x1 x2) := by
  rw [← put_eq h56]
  kernel_rfl
def g72_5 (k0 : V14 → Int → Option R) (x0 x1 : V3) (x2 : V14) (x3 : Bool) : Option R :=
k0 (false, ([], ()), ([], ()), ()) (6 : Int)
theorem t72_5 (x0 x1 x2 x3) : exec cl N c72_5 (e89 x0 x1 x2 x3) K = (g72_5 (fun y0 y1 => K .normal (e86 y0 y1)) x0 x1 x2 x3) := by
  kernel_rfl
theorem kp72_2 (x0 x1 x2 x3) : keep [2, 3, 4, 5] (e89 x0 x1 x2 x3) = (e88 x0 x1 x2) := by kernel_rfl
theorem hb72_1 (x0 x1 x2 x3) : boolOf? (ent (e89 x0 x1 x2 x3) (.t 16)) = some x3 := by kernel_rfl
def g72_7 (S52 : Bool → V3 → V3 → Option V15) (k0 : V14 → Int → Option R) (x0 x1 : V3) (x2 : V14) : Option R :=
(S52 false x0 x1).bind fun r801 =>
k0 r801 (0 : Int)
theorem t72_7 (S52) (h52 : (ctr52 S52).holds cl) (x0 x1 x2) : exec cl N c72_7 (e88 x0 x1 x2) K = (g72_7 S52 (fun y0 y1 => K .normal (e86 y0 y1)) x0 x1 x2) := by
  rw [← put_eq h52]
  kernel_rfl
def g72_8 (S52 : Bool → V3 → V3 → Option V15) (S56 : V3 → Option (Bool)) (S86 : V3 → Option (Bool)) (k0 : V14 → Int → Option R) (k1 : V14 → Int → Option R) (x0 x1 : V3) : Option R :=
(g72_0 (g72_1 S86 (fun y0 y1 y2 y3 => brB y3 (g72_2 k0 y0 y1 y2 y3) ((g72_4 S56 (fun y0 y1 y2 y3 => brB y3 (g72_5 k0 y0 y1 y2 y3) ((g72_7 S52 k1) y0 y1 y2))) y0 y1 y2))) x0 x1)
theorem t72_8 (S52) (S56) (S86) (h52 : (ctr52 S52).holds cl) (h56 : (ctr56 S56).holds cl) (h86 : (ctr86 S86).holds cl) (x0 x1) : exec cl N c72_8 (e68 x0 x1) K = (g72_8 S52 S56 S86 (fun y0 y1 => K .ret (e87 y0 y1)) (fun y0 y1 => K .ret (e86 y0 y1)) x0 x1) := by
  simp only [c72_8, exec_seq, seqK_normal, seqK_exit, seqK_ret, t72_0, t72_1 S86 h86, c72_3, exec_out, exec_cond', hb72_0, Option.bind_some, brB_true, brB_false, t72_2, exec_ret, exec_skip, kp72_0, kp72_1, t72_4 S56 h56, c72_6, hb72_1, t72_5, kp72_2, t72_7 S52 h52]
  rfl
theorem rk72_0 (y0 y1) : retK d72 .ret (e87 y0 y1) = some [.v U11 y0, .v U1 y1] := by kernel_rfl
theorem rk72_1 (y0 y1) : retK d72 .ret (e86 y0 y1) = some [.v U11 y0, .v U1 y1] := by kernel_rfl
def g72 (S52 : Bool → V3 → V3 → Option V15) (S56 : V3 → Option (Bool)) (S86 : V3 → Option (Bool)) (x0 x1 : V3) (k : V14 → Int → Option R) : Option R :=
(g72_8 S52 S56 S86 k k x0 x1)
theorem gen72 {N : Nat} {cl : Cal} (S52 : Bool → V3 → V3 → Option V15) (S56 : V3 → Option (Bool)) (S86 : V3 → Option (Bool)) (h52 : (ctr52 S52).holds cl) (h56 : (ctr56 S56).holds cl) (h86 : (ctr86 S86).holds cl) (x0 : V3) (x1 : V3) {R : Type} (k : List E → Option R) : exec cl N c72 (params 0 [.v U4 x0, .v U4 x1]) (fun e env => (retK d72 e env).bind k) = g72 S52 S56 S86 x0 x1 (fun (r0 : V14) (r1 : Int) => k [.v U11 r0, .v U1 r1]) := by
  have e0 : params 0 [.v U4 x0, .v U4 x1] = (e68 x0 x1) := by kernel_rfl
  simp only [c72, e0, t72_8 S52 S56 S86 h52 h56 h86, rk72_0, rk72_1, Option.bind_some]
  rfl
def ctr72 (S : V3 → V3 → Option V16) : Ctr := { A := V3 × V3 × Unit, B := V14 × Int, f := 72, enc := fun a => [.v U4 a.1, .v U4 a.2.1], dec := (decC (decV U4) (decC (decV U4) dec0)), S := fun a => S a.1 a.2.1, ent := fun b => [.v U11 b.1, .v U1 b.2], ok := (decV_cons (T := U4) (decV_cons (T := U4) (fun es b h => dec0_some h))) }
def S72 (N : Nat) (x0 : V3) (x1 : V3) : Option V16 := g72 (S52 N) (S56 N) (S86 N) x0 x1 (fun (r0 : V14) (r1 : Int) => some (r0, r1))
def g66_22 (S53 : Int → Option V5) (k0 : Int → Int → Int → Int → Int → V14 → V3 → Option R) (x0 x1 x2 x3 x4 : Int) : Option R :=
(S53 (0 : Int)).bind fun r805 =>
k0 x0 x1 x2 x3 x4 (false, (([], ()), (([], ()), ()))) r805
theorem t66_22 (S53) (h53 : (ctr53 S53).holds cl) (x0 x1 x2 x3 x4) : exec cl N c66_22 (e139 x0 x1 x2 x3 x4) K = (g66_22 S53 (fun y0 y1 y2 y3 y4 y5 y6 => exec cl N (.seq (.seq c66_2 c66_17) c66_21) (e140 y0 y1 y2 y3 y4 y5 y6) K) x0 x1 x2 x3 x4) := by
  rw [← put_eq h53]
  kernel_rfl
def g66_2 (k0 : Int → Int → Int → Int → V14 → V3 → Int → Option R) (x0 x1 x2 x3 x4 : Int) (x5 : V14) (x6 : V3) : Option R :=
k0 x0 x1 x2 x4 x5 x6 x3
theorem t66_2 (x0 x1 x2 x3 x4 x5 x6) : exec cl N c66_2 (e140 x0 x1 x2 x3 x4 x5 x6) K = (g66_2 (fun y0 y1 y2 y3 y4 y5 y6 => K .normal (e141 y0 y1 y2 y3 y4 y5 y6)) x0 x1 x2 x3 x4 x5 x6) := by
  kernel_rfl
theorem kp66_0 (x0 x1 x2 x3 x4 x5 x6) : keep [0, 1, 2, 4, 10, 11, 12] (e141 x0 x1 x2 x3 x4 x5 x6) = (e141 x0 x1 x2 x3 x4 x5 x6) := by kernel_rfl
def g66_3 (k0 : Int → Int → Int → Int → V14 → V3 → Int → Bool → Option R) (x0 x1 x2 x3 : Int) (x4 : V14) (x5 : V3) (x6 : Int) : Option R :=
k0 x0 x1 x2 x3 x4 x5 x6 (decide (x6 ≤ x3))
theorem t66_3 (x0 x1 x2 x3 x4 x5 x6) : exec cl N c66_3 (e141 x0 x1 x2 x3 x4 x5 x6) K = (g66_3 (fun y0 y1 y2 y3 y4 y5 y6 y7 => K .normal (e142 y0 y1 y2 y3 y4 y5 y6 y7)) x0 x1 x2 x3 x4 x5 x6) := by
  kernel_rfl
theorem kp66_1 (x0 x1 x2 x3 x4 x5 x6 x7) : keep [0, 1, 2, 4, 10, 11, 12] (e142 x0 x1 x2 x3 x4 x5 x6 x7) = (e141 x0 x1 x2 x3 x4 x5 x6) := by kernel_rfl
theorem hb66_0 (x0 x1 x2 x3 x4 x5 x6 x7) : boolOf? (ent (e142 x0 x1 x2 x3 x4 x5 x6 x7) (.t 27)) = some x7 := by kernel_rfl
def g66_12 (S93 : Int → Int → Option V7) (k0 : Int → Int → Int → Int → V14 → V3 → Int → V3 → V3 → Bool → Option R) (x0 x1 x2 x3 : Int) (x4 : V14) (x5 : V3) (x6 : Int) : Option R :=
(S93 x1 x6).bind fun r812 =>
(S93 (IntKind.i64.wrap (x0 - x1)) (IntKind.i64.wrap (x2 - x6))).bind fun r815 =>
brB (r812.2 == (0 : Int)) (k0 x0 x1 x2 x3 x4 x5 x6 r812.1 r815.1 (r815.2 == (0 : Int))) (k0 x0 x1 x2 x3 x4 x5 x6 r812.1 r815.1 false)
theorem t66_12 (S93) (h93 : (ctr93 S93).holds cl) (x0 x1 x2 x3 x4 x5 x6) : exec cl N c66_12 (e141 x0 x1 x2 x3 x4 x5 x6) K = (g66_12 S93 (fun y0 y1 y2 y3 y4 y5 y6 y7 y8 y9 => exec cl N c66_11 (e143 y0 y1 y2 y3 y4 y5 y6 y7 y8 y9) K) x0 x1 x2 x3 x4 x5 x6) := by
  rw [← put_eq h93]
  kernel_rfl
def g66_10 (S58 : V3 → V3 → Option V7) (S59 : V3 → V3 → Option V7) (k0 : Int → Int → Int → Int → V14 → V3 → Int → Option R) (x0 x1 x2 x3 : Int) (x4 : V14) (x5 : V3) (x6 : Int) (x7 x8 : V3) (x9 : Bool) : Option R :=
(S58 x7 x8).bind fun r819 =>
(S59 x5 r819.1).bind fun r820 =>
k0 x0 x1 x2 x3 x4 r820.1 x6
theorem t66_10 (S58) (S59) (h58 : (ctr58 S58).holds cl) (h59 : (ctr59 S59).holds cl) (x0 x1 x2 x3 x4 x5 x6 x7 x8 x9) : exec cl N c66_10 (e143 x0 x1 x2 x3 x4 x5 x6 x7 x8 x9) K = (g66_10 S58 S59 (fun y0 y1 y2 y3 y4 y5 y6 => K .normal (e141 y0 y1 y2 y3 y4 y5 y6)) x0 x1 x2 x3 x4 x5 x6 x7 x8 x9) := by
  rw [← put_eq h58]
  rw [← put_eq h59]
  kernel_rfl
theorem kp66_2 (x0 x1 x2 x3 x4 x5 x6 x7 x8 x9) : keep [0, 1, 2, 4, 10, 11, 12] (e143 x0 x1 x2 x3 x4 x5 x6 x7 x8 x9) = (e141 x0 x1 x2 x3 x4 x5 x6) := by kernel_rfl
theorem hb66_1 (x0 x1 x2 x3 x4 x5 x6 x7 x8 x9) : boolOf? (ent (e143 x0 x1 x2 x3 x4 x5 x6 x7 x8 x9) (.t 51)) = some x9 := by kernel_rfl
def g66_13 (S58 : V3 → V3 → Option V7) (S59 : V3 → V3 → Option V7) (S93 : Int → Int → Option V7) (k0 : Int → Int → Int → Int → V14 → V3 → Int → Option R) (x0 x1 x2 x3 : Int) (x4 : V14) (x5 : V3) (x6 : Int) : Option R :=
(g66_12 S93 (fun y0 y1 y2 y3 y4 y5 y6 y7 y8 y9 => brB y9 (g66_10 S58 S59 k0 y0 y1 y2 y3 y4 y5 y6 y7 y8 y9) (k0 y0 y1 y2 y3 y4 y5 y6)) x0 x1 x2 x3 x4 x5 x6)
theorem t66_13 (S58) (S59) (S93) (h58 : (ctr58 S58).holds cl) (h59 : (ctr59 S59).holds cl) (h93 : (ctr93 S93).holds cl) (x0 x1 x2 x3 x4 x5 x6) : exec cl N c66_13 (e141 x0 x1 x2 x3 x4 x5 x6) K = (g66_13 S58 S59 S93 (fun y0 y1 y2 y3 y4 y5 y6 => K .normal (e141 y0 y1 y2 y3 y4 y5 y6)) x0 x1 x2 x3 x4 x5 x6) := by
  simp only [c66_13, exec_out, exec_block, exec_seq, seqK_normal, seqK_exit, seqK_ret, t66_12 S93 h93, c66_11, exec_cond', hb66_1, Option.bind_some, brB_true, brB_false, t66_10 S58 S59 h58 h59, exec_skip, kp66_0, kp66_2, blockK_normal, blockK_ret, blockK_eq]
  rfl
def g66_14 (k0 : Int → Int → Int → Int → V14 → V3 → Int → Option R) (x0 x1 x2 x3 : Int) (x4 : V14) (x5 : V3) (x6 : Int) : Option R :=
k0 x0 x1 x2 x3 x4 x5 (IntKind.i64.wrap (x6 + (1 : Int)))
theorem t66_14 (x0 x1 x2 x3 x4 x5 x6) : exec cl N c66_14 (e141 x0 x1 x2 x3 x4 x5 x6) K = (g66_14 (fun y0 y1 y2 y3 y4 y5 y6 => K .normal (e141 y0 y1 y2 y3 y4 y5 y6)) x0 x1 x2 x3 x4 x5 x6) := by
  kernel_rfl
def g66_15 (S58 : V3 → V3 → Option V7) (S59 : V3 → V3 → Option V7) (S93 : Int → Int → Option V7) (k0 : Int → Int → Int → Int → V14 → V3 → Int → Option R) (k1 : Int → Int → Int → Int → V14 → V3 → Int → Option R) (x0 x1 x2 x3 : Int) (x4 : V14) (x5 : V3) (x6 : Int) : Option R :=
(g66_3 (fun y0 y1 y2 y3 y4 y5 y6 y7 => brB y7 ((g66_13 S58 S59 S93 (g66_14 k0)) y0 y1 y2 y3 y4 y5 y6) (k1 y0 y1 y2 y3 y4 y5 y6)) x0 x1 x2 x3 x4 x5 x6)
theorem t66_15 (S58) (S59) (S93) (h58 : (ctr58 S58).holds cl) (h59 : (ctr59 S59).holds cl) (h93 : (ctr93 S93).holds cl) (x0 x1 x2 x3 x4 x5 x6) : exec cl N c66_15 (e141 x0 x1 x2 x3 x4 x5 x6) K = (g66_15 S58 S59 S93 (fun y0 y1 y2 y3 y4 y5 y6 => K .normal (e141 y0 y1 y2 y3 y4 y5 y6)) (fun y0 y1 y2 y3 y4 y5 y6 => K (.exit 0) (e141 y0 y1 y2 y3 y4 y5 y6)) x0 x1 x2 x3 x4 x5 x6) := by
  simp only [c66_15, exec_seq, seqK_normal, seqK_exit, seqK_ret, t66_3, c66_4, exec_out, exec_cond', hb66_0, Option.bind_some, brB_true, brB_false, exec_skip, exec_exit, kp66_1, t66_13 S58 S59 S93 h58 h59 h93, t66_14]
  rfl
def l66_16 {R : Type} (S58 : V3 → V3 → Option V7) (S59 : V3 → V3 → Option V7) (S93 : Int → Int → Option V7) (k0 : Int → Int → Int → Int → V14 → V3 → Int → Option R) : Nat → Int → Int → Int → Int → V14 → V3 → Int → Option R
  | 0, _, _, _, _, _, _, _ => none
  | m + 1, x0, x1, x2, x3, x4, x5, x6 => (g66_15 S58 S59 S93 (l66_16 S58 S59 S93 k0 m) k0 x0 x1 x2 x3 x4 x5 x6)
theorem lt66_16 (S58) (S59) (S93) (h58 : (ctr58 S58).holds cl) (h59 : (ctr59 S59).holds cl) (h93 : (ctr93 S93).holds cl) : ∀ (m) (x0 x1 x2 x3 x4 x5 x6), iter [0, 1, 2, 4, 10, 11, 12] (fun env K => exec cl N c66_15 env K) K m (e141 x0 x1 x2 x3 x4 x5 x6) = l66_16 S58 S59 S93 (fun y0 y1 y2 y3 y4 y5 y6 => K (.exit 0) (e141 y0 y1 y2 y3 y4 y5 y6)) m x0 x1 x2 x3 x4 x5 x6 := by
  intro m
  induction m with
  | zero => intros; rfl
  | succ m ih =>
    intro x0 x1 x2 x3 x4 x5 x6
    simp only [iter_succ, t66_15 S58 S59 S93 h58 h59 h93, loopK_normal, loopK_exit, loopK_ret, kp66_0, ih]
    rfl
theorem kp66_3 (x0 x1 x2 x3 x4 x5 x6) : keep [0, 2, 10, 11] (e141 x0 x1 x2 x3 x4 x5 x6) = (e144 x0 x2 x4 x5) := by kernel_rfl
def g66_16 (N : Nat) (S58 : V3 → V3 → Option V7) (S59 : V3 → V3 → Option V7) (S93 : Int → Int → Option V7) (k0 : Int → Int → V14 → V3 → Option R) (x0 x1 x2 x3 : Int) (x4 : V14) (x5 : V3) (x6 : Int) : Option R :=
l66_16 S58 S59 S93 (fun y0 y1 y2 y3 y4 y5 y6 => k0 y0 y2 y4 y5) N x0 x1 x2 x3 x4 x5 x6
theorem t66_16 (S58) (S59) (S93) (h58 : (ctr58 S58).holds cl) (h59 : (ctr59 S59).holds cl) (h93 : (ctr93 S93).holds cl) (x0 x1 x2 x3 x4 x5 x6) : exec cl N c66_16 (e141 x0 x1 x2 x3 x4 x5 x6) K = (g66_16 N S58 S59 S93 (fun y0 y1 y2 y3 => K (.exit 0) (e144 y0 y1 y2 y3)) x0 x1 x2 x3 x4 x5 x6) := by
  simp only [c66_16, exec_out, exec_loop, kp66_0, lt66_16 S58 S59 S93 h58 h59 h93, kp66_3]
  rfl
theorem kp66_4 (x0 x1 x2 x3) : keep [0, 2, 10, 11] (e144 x0 x1 x2 x3) = (e144 x0 x1 x2 x3) := by kernel_rfl
def g66_21 (S72 : V3 → V3 → Option V16) (S93 : Int → Int → Option V7) (k0 : V14 → Option R) (x0 x1 : Int) (x2 : V14) (x3 : V3) : Option R :=
(S93 x0 x1).bind fun r825 =>
(S72 x3 r825.1).bind fun r826 =>
k0 r826.1
theorem t66_21 (S72) (S93) (h72 : (ctr72 S72).holds cl) (h93 : (ctr93 S93).holds cl) (x0 x1 x2 x3) : exec cl N c66_21 (e144 x0 x1 x2 x3) K = (g66_21 S72 S93 (fun y0 => exec cl N .ret [(10, .loc U11 .no y0)] K) x0 x1 x2 x3) := by
  rw [← put_eq h72]
  rw [← put_eq h93]
  kernel_rfl
def g66_22b (N : Nat) (S53 : Int → Option V5) (S58 : V3 → V3 → Option V7) (S59 : V3 → V3 → Option V7) (S72 : V3 → V3 → Option V16) (S93 : Int → Int → Option V7) (k0 : V14 → Option R) (x0 x1 x2 x3 x4 : Int) : Option R :=
(g66_22 S53 (g66_2 (g66_16 N S58 S59 S93 ((g66_21 S72 S93 k0)))) x0 x1 x2 x3 x4)
theorem t66_22b (S53) (S58) (S59) (S72) (S93) (h53 : (ctr53 S53).holds cl) (h58 : (ctr58 S58).holds cl) (h59 : (ctr59 S59).holds cl) (h72 : (ctr72 S72).holds cl) (h93 : (ctr93 S93).holds cl) (x0 x1 x2 x3 x4) : exec cl N c66_22 (e139 x0 x1 x2 x3 x4) K = (g66_22b N S53 S58 S59 S72 S93 (fun y0 => K .ret [(10, .loc U11 .no y0)]) x0 x1 x2 x3 x4) := by
  simp only [exec_seq, seqK_normal, seqK_exit, seqK_ret, t66_22 S53 h53, t66_2, c66_17, exec_out, exec_block, t66_16 S58 S59 S93 h58 h59 h93, blockK_normal, blockK_ret, blockK_eq, kp66_4, t66_21 S72 S93 h72 h93, exec_ret]
  rfl
theorem rk66_0 (y0) : retK d66 .ret [(10, .loc U11 .no y0)] = some [.v U11 y0] := by kernel_rfl
def g66 (N : Nat) (S53 : Int → Option V5) (S58 : V3 → V3 → Option V7) (S59 : V3 → V3 → Option V7) (S72 : V3 → V3 → Option V16) (S93 : Int → Int → Option V7) (x0 x1 x2 x3 x4 : Int) (k : V14 → Option R) : Option R :=
(g66_22b N S53 S58 S59 S72 S93 k x0 x1 x2 x3 x4)
theorem gen66 {N : Nat} {cl : Cal} (S53 : Int → Option V5) (S58 : V3 → V3 → Option V7) (S59 : V3 → V3 → Option V7) (S72 : V3 → V3 → Option V16) (S93 : Int → Int → Option V7) (h53 : (ctr53 S53).holds cl) (h58 : (ctr58 S58).holds cl) (h59 : (ctr59 S59).holds cl) (h72 : (ctr72 S72).holds cl) (h93 : (ctr93 S93).holds cl) (x0 : Int) (x1 : Int) (x2 : Int) (x3 : Int) (x4 : Int) {R : Type} (k : List E → Option R) : exec cl N c66 (params 0 [.v U1 x0, .v U1 x1, .v U1 x2, .v U1 x3, .v U1 x4]) (fun e env => (retK d66 e env).bind k) = g66 N S53 S58 S59 S72 S93 x0 x1 x2 x3 x4 (fun (r0 : V14) => k [.v U11 r0]) := by
  have e0 : params 0 [.v U1 x0, .v U1 x1, .v U1 x2, .v U1 x3, .v U1 x4] = (e139 x0 x1 x2 x3 x4) := by kernel_rfl
  simp only [c66, e0, t66_22b S53 S58 S59 S72 S93 h53 h58 h59 h72 h93, rk66_0, Option.bind_some]
  rfl
def ctr66 (S : Int → Int → Int → Int → Int → Option V15) : Ctr := { A := Int × Int × Int × Int × Int × Unit, B := V14, f := 66, enc := fun a => [.v U1 a.1, .v U1 a.2.1, .v U1 a.2.2.1, .v U1 a.2.2.2.1, .v U1 a.2.2.2.2.1], dec := (decC (decV U1) (decC (decV U1) (decC (decV U1) (decC (decV U1) (decC (decV U1) dec0))))), S := fun a => S a.1 a.2.1 a.2.2.1 a.2.2.2.1 a.2.2.2.2.1, ent := fun b => [.v U11 b], ok := (decV_cons (T := U1) (decV_cons (T := U1) (decV_cons (T := U1) (decV_cons (T := U1) (decV_cons (T := U1) (fun es b h => dec0_some h)))))) }
def S66 (N : Nat) (x0 : Int) (x1 : Int) (x2 : Int) (x3 : Int) (x4 : Int) : Option V15 := g66 N (S53 N) (S58 N) (S59 N) (S72 N) (S93 N) x0 x1 x2 x3 x4 (fun (r0 : V14) => some (r0))
def g28_0 (k0 : Int → Int → Int → Int → V14 → Option R) (x0 x1 x2 x3 : Int) : Option R :=
k0 x0 x1 x2 x3 (false, (([], ()), (([], ()), ())))
theorem t28_0 (x0 x1 x2 x3) : exec cl N c28_0 (e0 x0 x1 x2 x3) K = (g28_0 (fun y0 y1 y2 y3 y4 => K .normal (e90 y0 y1 y2 y3 y4)) x0 x1 x2 x3) := by
  kernel_rfl
def g28_5 (S65 : Int → Int → Int → Int → Option (Int)) (k0 : Int → Int → Int → Int → V14 → Int → Bool → Option R) (x0 x1 x2 x3 : Int) (x4 : V14) : Option R :=
(S65 x0 x1 x2 x3).bind fun r829 =>
k0 x0 x1 x2 x3 x4 r829 (r829 != (0 : Int))
theorem t28_5 (S65) (h65 : (ctr65 S65).holds cl) (x0 x1 x2 x3 x4) : exec cl N c28_5 (e90 x0 x1 x2 x3 x4) K = (g28_5 S65 (fun y0 y1 y2 y3 y4 y5 y6 => exec cl N c28_4 (e91 y0 y1 y2 y3 y4 y5 y6) K) x0 x1 x2 x3 x4) := by
  rw [← put_eq h65]
  kernel_rfl
def g28_3 (k0 : V14 → Int → Option R) (x0 x1 x2 x3 : Int) (x4 : V14) (x5 : Int) (x6 : Bool) : Option R :=
k0 (false, ([], ()), ([], ()), ()) x5
theorem t28_3 (x0 x1 x2 x3 x4 x5 x6) : exec cl N c28_3 (e91 x0 x1 x2 x3 x4 x5 x6) K = (g28_3 (fun y0 y1 => K .normal (e92 y0 y1)) x0 x1 x2 x3 x4 x5 x6) := by
  kernel_rfl
theorem kp28_0 (x0 x1) : keep [0, 1, 2, 3, 8, 9] (e92 x0 x1) = (e93 x0 x1) := by kernel_rfl
theorem kp28_1 (x0 x1 x2 x3 x4 x5 x6) : keep [0, 1, 2, 3, 8, 9] (e91 x0 x1 x2 x3 x4 x5 x6) = (e94 x0 x1 x2 x3 x4) := by kernel_rfl
theorem hb28_0 (x0 x1 x2 x3 x4 x5 x6) : boolOf? (ent (e91 x0 x1 x2 x3 x4 x5 x6) (.t 17)) = some x6 := by kernel_rfl
def g28_6 (S66 : Int → Int → Int → Int → Int → Option V15) (k0 : V14 → Int → Option R) (x0 x1 x2 x3 : Int) (x4 : V14) : Option R :=
(S66 x0 x1 x2 x3 x3).bind fun r832 =>
k0 r832 (0 : Int)
theorem t28_6 (S66) (h66 : (ctr66 S66).holds cl) (x0 x1 x2 x3 x4) : exec cl N c28_6 (e94 x0 x1 x2 x3 x4) K = (g28_6 S66 (fun y0 y1 => K .normal (e92 y0 y1)) x0 x1 x2 x3 x4) := by
  rw [← put_eq h66]
  kernel_rfl
def g28_7 (S65 : Int → Int → Int → Int → Option (Int)) (S66 : Int → Int → Int → Int → Int → Option V15) (k0 : V14 → Int → Option R) (k1 : V14 → Int → Option R) (x0 x1 x2 x3 : Int) : Option R :=
(g28_0 (g28_5 S65 (fun y0 y1 y2 y3 y4 y5 y6 => brB y6 (g28_3 k0 y0 y1 y2 y3 y4 y5 y6) ((g28_6 S66 k1) y0 y1 y2 y3 y4))) x0 x1 x2 x3)
theorem t28_7 (S65) (S66) (h65 : (ctr65 S65).holds cl) (h66 : (ctr66 S66).holds cl) (x0 x1 x2 x3) : exec cl N c28_7 (e0 x0 x1 x2 x3) K = (g28_7 S65 S66 (fun y0 y1 => K .ret (e93 y0 y1)) (fun y0 y1 => K .ret (e92 y0 y1)) x0 x1 x2 x3) := by
  simp only [c28_7, exec_seq, seqK_normal, seqK_exit, seqK_ret, t28_0, t28_5 S65 h65, c28_4, exec_out, exec_cond', hb28_0, Option.bind_some, brB_true, brB_false, t28_3, exec_ret, exec_skip, kp28_0, kp28_1, t28_6 S66 h66]
  rfl
theorem rk28_0 (y0 y1) : retK d28 .ret (e93 y0 y1) = some [.v U11 y0, .v U1 y1] := by kernel_rfl
theorem rk28_1 (y0 y1) : retK d28 .ret (e92 y0 y1) = some [.v U11 y0, .v U1 y1] := by kernel_rfl
def g28 (S65 : Int → Int → Int → Int → Option (Int)) (S66 : Int → Int → Int → Int → Int → Option V15) (x0 x1 x2 x3 : Int) (k : V14 → Int → Option R) : Option R :=
(g28_7 S65 S66 k k x0 x1 x2 x3)
theorem gen28 {N : Nat} {cl : Cal} (S65 : Int → Int → Int → Int → Option (Int)) (S66 : Int → Int → Int → Int → Int → Option V15) (h65 : (ctr65 S65).holds cl) (h66 : (ctr66 S66).holds cl) (x0 : Int) (x1 : Int) (x2 : Int) (x3 : Int) {R : Type} (k : List E → Option R) : exec cl N c28 (params 0 [.v U1 x0, .v U1 x1, .v U1 x2, .v U1 x3]) (fun e env => (retK d28 e env).bind k) = g28 S65 S66 x0 x1 x2 x3 (fun (r0 : V14) (r1 : Int) => k [.v U11 r0, .v U1 r1]) := by
  have e0 : params 0 [.v U1 x0, .v U1 x1, .v U1 x2, .v U1 x3] = (e0 x0 x1 x2 x3) := by kernel_rfl
  simp only [c28, e0, t28_7 S65 S66 h65 h66, rk28_0, rk28_1, Option.bind_some]
  rfl
def ctr28 (S : Int → Int → Int → Int → Option V16) : Ctr := { A := Int × Int × Int × Int × Unit, B := V14 × Int, f := 28, enc := fun a => [.v U1 a.1, .v U1 a.2.1, .v U1 a.2.2.1, .v U1 a.2.2.2.1], dec := (decC (decV U1) (decC (decV U1) (decC (decV U1) (decC (decV U1) dec0)))), S := fun a => S a.1 a.2.1 a.2.2.1 a.2.2.2.1, ent := fun b => [.v U11 b.1, .v U1 b.2], ok := (decV_cons (T := U1) (decV_cons (T := U1) (decV_cons (T := U1) (decV_cons (T := U1) (fun es b h => dec0_some h))))) }
def S28 (N : Nat) (x0 : Int) (x1 : Int) (x2 : Int) (x3 : Int) : Option V16 := g28 (S65 N) (S66 N) x0 x1 x2 x3 (fun (r0 : V14) (r1 : Int) => some (r0, r1))
def g107_0 (k0 : V0 → V0 → Option R) (x0 x1 : V0) : Option R :=
k0 x0 x1
theorem t107_0 (x0 x1) : exec cl N c107_0 (e14 x0 x1) K = (g107_0 (fun y0 y1 => K .normal (e14 y0 y1)) x0 x1) := by
  kernel_rfl
def g107_1 (k0 : V0 → V0 → Bool → Option R) (x0 x1 : V0) : Option R :=
k0 x0 x1 (decide ((x0.length : Int) < (x1.length : Int)))
theorem t107_1 (x0 x1) : exec cl N c107_1 (e14 x0 x1) K = (g107_1 (fun y0 y1 y2 => K .normal (e145 y0 y1 y2)) x0 x1) := by
  kernel_rfl
def g107_2 (k0 : V0 → V0 → Option R) (x0 x1 : V0) (x2 : Bool) : Option R :=
k0 x1 x0
theorem t107_2 (x0 x1 x2) : exec cl N c107_2 (e145 x0 x1 x2) K = (g107_2 (fun y0 y1 => K .normal (e14 y0 y1)) x0 x1 x2) := by
  kernel_rfl
theorem kp107_0 (x0 x1) : keep [0, 1] (e14 x0 x1) = (e14 x0 x1) := by kernel_rfl
theorem kp107_1 (x0 x1 x2) : keep [0, 1] (e145 x0 x1 x2) = (e14 x0 x1) := by kernel_rfl
theorem hb107_0 (x0 x1 x2) : boolOf? (ent (e145 x0 x1 x2) (.t 13)) = some x2 := by kernel_rfl
def g107_4 (k0 : V0 → V0 → Option R) (x0 x1 : V0) : Option R :=
(g107_1 (fun y0 y1 y2 => brB y2 (g107_2 k0 y0 y1 y2) (k0 y0 y1)) x0 x1)
theorem t107_4 (x0 x1) : exec cl N c107_4 (e14 x0 x1) K = (g107_4 (fun y0 y1 => K .normal (e14 y0 y1)) x0 x1) := by
  simp only [c107_4, exec_seq, seqK_normal, seqK_exit, seqK_ret, t107_1, c107_3, exec_out, exec_cond', hb107_0, Option.bind_some, brB_true, brB_false, t107_2, exec_skip, kp107_0, kp107_1]
  rfl
def g107_30 (k0 : V0 → V0 → V0 → Int → Option R) (x0 x1 : V0) : Option R :=
let v859 : Int := (IntKind.i64.wrap ((x0.length : Int) + (1 : Int)))
if 0 ≤ (0 : Int) ∧ (0 : Int) ≤ v859 ∧ v859 ≤ ((17592186044416 : Nat) : Int) then
k0 x0 x1 (List.replicate (0 : Int).toNat (0 : Int)) (0 : Int)
else none
theorem t107_30 (x0 x1) : exec cl N c107_30 (e14 x0 x1) K = (g107_30 (fun y0 y1 y2 y3 => exec cl N (.seq (.seq c107_7 c107_24) (.seq c107_28 (.seq c107_29 .ret))) (e97 y0 y1 y2 y3) K) x0 x1) := by
  kernel_rfl
def g107_7 (k0 : V0 → V0 → Int → V0 → Int → Int → Option R) (x0 x1 x2 : V0) (x3 : Int) : Option R :=
k0 x1 x2 x3 x0 (x0.length : Int) (0 : Int)
theorem t107_7 (x0 x1 x2 x3) : exec cl N c107_7 (e97 x0 x1 x2 x3) K = (g107_7 (fun y0 y1 y2 y3 y4 y5 => K .normal (e146 y0 y1 y2 y3 y4 y5)) x0 x1 x2 x3) := by
  kernel_rfl
theorem kp107_2 (x0 x1 x2 x3 x4 x5) : keep [1, 5, 6, 20, 21, 22] (e146 x0 x1 x2 x3 x4 x5) = (e146 x0 x1 x2 x3 x4 x5) := by kernel_rfl
def g107_8 (k0 : V0 → V0 → Int → V0 → Int → Int → Bool → Option R) (x0 x1 : V0) (x2 : Int) (x3 : V0) (x4 x5 : Int) : Option R :=
k0 x0 x1 x2 x3 x4 x5 (decide (x5 < x4))
theorem t107_8 (x0 x1 x2 x3 x4 x5) : exec cl N c107_8 (e146 x0 x1 x2 x3 x4 x5) K = (g107_8 (fun y0 y1 y2 y3 y4 y5 y6 => K .normal (e147 y0 y1 y2 y3 y4 y5 y6)) x0 x1 x2 x3 x4 x5) := by
  kernel_rfl
theorem kp107_3 (x0 x1 x2 x3 x4 x5 x6) : keep [1, 5, 6, 20, 21, 22] (e147 x0 x1 x2 x3 x4 x5 x6) = (e146 x0 x1 x2 x3 x4 x5) := by kernel_rfl
theorem hb107_1 (x0 x1 x2 x3 x4 x5 x6) : boolOf? (ent (e147 x0 x1 x2 x3 x4 x5 x6) (.t 23)) = some x6 := by kernel_rfl
def g107_19 (k0 : V0 → V0 → Int → Int → V0 → Int → Int → Option R) (x0 x1 : V0) (x2 : Int) (x3 : V0) (x4 x5 : Int) : Option R :=
if 0 ≤ x5 ∧ x5 < (x3.length : Int) then
k0 x0 x1 (IntKind.i64.wrap (x2 + (x3.getD x5.toNat (0 : Int)))) x5 x3 x4 x5
else none
theorem t107_19 (x0 x1 x2 x3 x4 x5) : exec cl N c107_19 (e146 x0 x1 x2 x3 x4 x5) K = (g107_19 (fun y0 y1 y2 y3 y4 y5 y6 => exec cl N (.seq c107_15 c107_18) (e148 y0 y1 y2 y3 y4 y5 y6) K) x0 x1 x2 x3 x4 x5) := by
  kernel_rfl
def g107_12 (k0 : V0 → V0 → Int → Int → V0 → Int → Int → Bool → Option R) (x0 x1 : V0) (x2 x3 : Int) (x4 : V0) (x5 x6 : Int) : Option R :=
k0 x0 x1 x2 x3 x4 x5 x6 (decide (x3 < (x0.length : Int)))
theorem t107_12 (x0 x1 x2 x3 x4 x5 x6) : exec cl N c107_12 (e148 x0 x1 x2 x3 x4 x5 x6) K = (g107_12 (fun y0 y1 y2 y3 y4 y5 y6 y7 => K .normal (e149 y0 y1 y2 y3 y4 y5 y6 y7)) x0 x1 x2 x3 x4 x5 x6) := by
  kernel_rfl
def g107_13 (k0 : V0 → V0 → Int → V0 → Int → Int → Option R) (x0 x1 : V0) (x2 x3 : Int) (x4 : V0) (x5 x6 : Int) (x7 : Bool) : Option R :=
if 0 ≤ x3 ∧ x3 < (x0.length : Int) then
k0 x0 x1 (IntKind.i64.wrap (x2 + (x0.getD x3.toNat (0 : Int)))) x4 x5 x6
else none
theorem t107_13 (x0 x1 x2 x3 x4 x5 x6 x7) : exec cl N c107_13 (e149 x0 x1 x2 x3 x4 x5 x6 x7) K = (g107_13 (fun y0 y1 y2 y3 y4 y5 => K .normal (e146 y0 y1 y2 y3 y4 y5)) x0 x1 x2 x3 x4 x5 x6 x7) := by
  kernel_rfl
theorem kp107_4 (x0 x1 x2 x3 x4 x5 x6 x7) : keep [1, 5, 6, 20, 21, 22] (e149 x0 x1 x2 x3 x4 x5 x6 x7) = (e146 x0 x1 x2 x4 x5 x6) := by kernel_rfl
theorem hb107_2 (x0 x1 x2 x3 x4 x5 x6 x7) : boolOf? (ent (e149 x0 x1 x2 x3 x4 x5 x6 x7) (.t 33)) = some x7 := by kernel_rfl
def g107_15 (k0 : V0 → V0 → Int → V0 → Int → Int → Option R) (x0 x1 : V0) (x2 x3 : Int) (x4 : V0) (x5 x6 : Int) : Option R :=
(g107_12 (fun y0 y1 y2 y3 y4 y5 y6 y7 => brB y7 (g107_13 k0 y0 y1 y2 y3 y4 y5 y6 y7) (k0 y0 y1 y2 y4 y5 y6)) x0 x1 x2 x3 x4 x5 x6)
theorem t107_15 (x0 x1 x2 x3 x4 x5 x6) : exec cl N c107_15 (e148 x0 x1 x2 x3 x4 x5 x6) K = (g107_15 (fun y0 y1 y2 y3 y4 y5 => K .normal (e146 y0 y1 y2 y3 y4 y5)) x0 x1 x2 x3 x4 x5 x6) := by
  simp only [c107_15, exec_seq, seqK_normal, seqK_exit, seqK_ret, t107_12, c107_14, exec_out, exec_cond', hb107_2, Option.bind_some, brB_true, brB_false, t107_13, exec_skip, kp107_2, kp107_4]
  rfl
def g107_18 (k0 : V0 → V0 → Int → V0 → Int → Int → Option R) (x0 x1 : V0) (x2 : Int) (x3 : V0) (x4 x5 : Int) : Option R :=
let v865 : Int := (Int.tmod x2 (10000 : Int))
if x1.length + [v865].length ≤ 17592186044416 then
k0 x0 (x1 ++ [v865]) (IntKind.i64.wrap (Int.tdiv x2 (10000 : Int))) x3 x4 x5
else none
theorem t107_18 (x0 x1 x2 x3 x4 x5) : exec cl N c107_18 (e146 x0 x1 x2 x3 x4 x5) K = (g107_18 (fun y0 y1 y2 y3 y4 y5 => K .normal (e146 y0 y1 y2 y3 y4 y5)) x0 x1 x2 x3 x4 x5) := by
  kernel_rfl
def g107_21 (k0 : V0 → V0 → Int → V0 → Int → Int → Option R) (x0 x1 : V0) (x2 : Int) (x3 : V0) (x4 x5 : Int) : Option R :=
k0 x0 x1 x2 x3 x4 (IntKind.i64.wrap (x5 + (1 : Int)))
theorem t107_21 (x0 x1 x2 x3 x4 x5) : exec cl N c107_21 (e146 x0 x1 x2 x3 x4 x5) K = (g107_21 (fun y0 y1 y2 y3 y4 y5 => K .normal (e146 y0 y1 y2 y3 y4 y5)) x0 x1 x2 x3 x4 x5) := by
  kernel_rfl
def g107_22 (k0 : V0 → V0 → Int → V0 → Int → Int → Option R) (k1 : V0 → V0 → Int → V0 → Int → Int → Option R) (x0 x1 : V0) (x2 : Int) (x3 : V0) (x4 x5 : Int) : Option R :=
(g107_8 (fun y0 y1 y2 y3 y4 y5 y6 => brB y6 ((g107_19 (g107_15 (g107_18 ((g107_21 k0))))) y0 y1 y2 y3 y4 y5) (k1 y0 y1 y2 y3 y4 y5)) x0 x1 x2 x3 x4 x5)
theorem t107_22 (x0 x1 x2 x3 x4 x5) : exec cl N c107_22 (e146 x0 x1 x2 x3 x4 x5) K = (g107_22 (fun y0 y1 y2 y3 y4 y5 => K .normal (e146 y0 y1 y2 y3 y4 y5)) (fun y0 y1 y2 y3 y4 y5 => K (.exit 0) (e146 y0 y1 y2 y3 y4 y5)) x0 x1 x2 x3 x4 x5) := by
  simp only [c107_22, exec_seq, seqK_normal, seqK_exit, seqK_ret, t107_8, c107_9, exec_out, exec_cond', hb107_1, Option.bind_some, brB_true, brB_false, exec_skip, exec_exit, kp107_3, c107_20, exec_block, t107_19, t107_15, t107_18, blockK_normal, blockK_ret, blockK_eq, kp107_2, t107_21]
  rfl
def l107_23 {R : Type} (k0 : V0 → V0 → Int → V0 → Int → Int → Option R) : Nat → V0 → V0 → Int → V0 → Int → Int → Option R
  | 0, _, _, _, _, _, _ => none
  | m + 1, x0, x1, x2, x3, x4, x5 => (g107_22 (l107_23 k0 m) k0 x0 x1 x2 x3 x4 x5)
theorem lt107_23 : ∀ (m) (x0 x1 x2 x3 x4 x5), iter [1, 5, 6, 20, 21, 22] (fun env K => exec cl N c107_22 env K) K m (e146 x0 x1 x2 x3 x4 x5) = l107_23 (fun y0 y1 y2 y3 y4 y5 => K (.exit 0) (e146 y0 y1 y2 y3 y4 y5)) m x0 x1 x2 x3 x4 x5 := by
  intro m
  induction m with
  | zero => intros; rfl
  | succ m ih =>
    intro x0 x1 x2 x3 x4 x5
    simp only [iter_succ, t107_22, loopK_normal, loopK_exit, loopK_ret, kp107_2, ih]
    rfl
theorem kp107_5 (x0 x1 x2 x3 x4 x5) : keep [5, 6] (e146 x0 x1 x2 x3 x4 x5) = (e118 x1 x2) := by kernel_rfl
def g107_23 (N : Nat) (k0 : V0 → Int → Option R) (x0 x1 : V0) (x2 : Int) (x3 : V0) (x4 x5 : Int) : Option R :=
l107_23 (fun y0 y1 y2 y3 y4 y5 => k0 y1 y2) N x0 x1 x2 x3 x4 x5
theorem t107_23 (x0 x1 x2 x3 x4 x5) : exec cl N c107_23 (e146 x0 x1 x2 x3 x4 x5) K = (g107_23 N (fun y0 y1 => K (.exit 0) (e118 y0 y1)) x0 x1 x2 x3 x4 x5) := by
  simp only [c107_23, exec_out, exec_loop, kp107_2, lt107_23, kp107_5]
  rfl
theorem kp107_6 (x0 x1) : keep [5, 6] (e118 x0 x1) = (e118 x0 x1) := by kernel_rfl
def g107_25 (k0 : V0 → Int → Bool → Option R) (x0 : V0) (x1 : Int) : Option R :=
k0 x0 x1 (decide (x1 > (0 : Int)))
theorem t107_25 (x0 x1) : exec cl N c107_25 (e118 x0 x1) K = (g107_25 (fun y0 y1 y2 => K .normal (e150 y0 y1 y2)) x0 x1) := by
  kernel_rfl
def g107_26 (k0 : V0 → Option R) (x0 : V0) (x1 : Int) (x2 : Bool) : Option R :=
if x0.length + [x1].length ≤ 17592186044416 then
k0 (x0 ++ [x1])
else none
theorem t107_26 (x0 x1 x2) : exec cl N c107_26 (e150 x0 x1 x2) K = (g107_26 (fun y0 => K .normal (e22 y0)) x0 x1 x2) := by
  kernel_rfl
theorem kp107_7 (x0) : keep [5] (e22 x0) = (e22 x0) := by kernel_rfl
theorem kp107_8 (x0 x1 x2) : keep [5] (e150 x0 x1 x2) = (e22 x0) := by kernel_rfl
theorem hb107_3 (x0 x1 x2) : boolOf? (ent (e150 x0 x1 x2) (.t 49)) = some x2 := by kernel_rfl
def g107_28 (k0 : V0 → Option R) (x0 : V0) (x1 : Int) : Option R :=
(g107_25 (fun y0 y1 y2 => brB y2 (g107_26 k0 y0 y1 y2) (k0 y0)) x0 x1)
theorem t107_28 (x0 x1) : exec cl N c107_28 (e118 x0 x1) K = (g107_28 (fun y0 => K .normal (e22 y0)) x0 x1) := by
  simp only [c107_28, exec_seq, seqK_normal, seqK_exit, seqK_ret, t107_25, c107_27, exec_out, exec_cond', hb107_3, Option.bind_some, brB_true, brB_false, t107_26, exec_skip, kp107_7, kp107_8]
  rfl
def g107_29 (k0 : V0 → Option R) (x0 : V0) : Option R :=
k0 x0
theorem t107_29 (x0) : exec cl N c107_29 (e22 x0) K = (g107_29 (fun y0 => K .normal (e151 y0)) x0) := by
  kernel_rfl
def g107_31 (N : Nat) (k0 : V0 → Option R) (x0 x1 : V0) : Option R :=
(g107_0 (g107_4 (g107_30 (g107_7 (g107_23 N ((g107_28 (g107_29 k0))))))) x0 x1)
theorem t107_31 (x0 x1) : exec cl N c107_31 (e14 x0 x1) K = (g107_31 N (fun y0 => K .ret (e151 y0)) x0 x1) := by
  simp only [c107_31, exec_seq, seqK_normal, seqK_exit, seqK_ret, t107_0, t107_4, t107_30, t107_7, c107_24, exec_out, exec_block, t107_23, blockK_normal, blockK_ret, blockK_eq, kp107_6, t107_28, t107_29, exec_ret]
  rfl
theorem rk107_0 (y0) : retK d107 .ret (e151 y0) = some [.own true 3 U1 .no y0] := by kernel_rfl
def g107 (N : Nat) (x0 x1 : V0) (k : V0 → Option R) : Option R :=
(g107_31 N k x0 x1)
theorem gen107 {N : Nat} {cl : Cal} (x0 : V0) (x1 : V0) {R : Type} (k : List E → Option R) : exec cl N c107 (params 0 [.v U2 x0, .v U2 x1]) (fun e env => (retK d107 e env).bind k) = g107 N x0 x1 (fun (r0 : V0) => k [.own true 3 U1 .no r0]) := by
  have e0 : params 0 [.v U2 x0, .v U2 x1] = (e14 x0 x1) := by kernel_rfl
  simp only [c107, e0, t107_31, rk107_0, Option.bind_some]
  rfl
def ctr107 (S : V0 → V0 → Option V1) : Ctr := { A := V0 × V0 × Unit, B := V0, f := 107, enc := fun a => [.v U2 a.1, .v U2 a.2.1], dec := (decC (decV U2) (decC (decV U2) dec0)), S := fun a => S a.1 a.2.1, ent := fun b => [.own true 3 U1 .no b], ok := (decV_cons (T := U2) (decV_cons (T := U2) (fun es b h => dec0_some h))) }
def S107 (N : Nat) (x0 : V0) (x1 : V0) : Option V1 := g107 N x0 x1 (fun (r0 : V0) => some (r0))
def g82_0 (k0 : V3 → V3 → V3 → Option R) (x0 x1 : V3) : Option R :=
k0 x0 x1 ([], ())
theorem t82_0 (x0 x1) : exec cl N c82_0 (e68 x0 x1) K = (g82_0 (fun y0 y1 y2 => K .normal (e69 y0 y1 y2)) x0 x1) := by
  kernel_rfl
def g82_1 (S75 : V3 → Option (Bool)) (k0 : V3 → V3 → V3 → Bool → Option R) (x0 x1 x2 : V3) : Option R :=
(S75 x0).bind fun r871 =>
brB (!r871) (k0 x0 x1 x2 true) ((S75 x1).bind fun r872 =>
k0 x0 x1 x2 (!r872))
theorem t82_1 (S75) (h75 : (ctr75 S75).holds cl) (x0 x1 x2) : exec cl N c82_1 (e69 x0 x1 x2) K = (g82_1 S75 (fun y0 y1 y2 y3 => K .normal (e70 y0 y1 y2 y3)) x0 x1 x2) := by
  rw [← put_eq h75]
  kernel_rfl
def g82_2 (k0 : V3 → Int → Option R) (x0 x1 x2 : V3) (x3 : Bool) : Option R :=
k0 ([], ()) (1 : Int)
theorem t82_2 (x0 x1 x2 x3) : exec cl N c82_2 (e70 x0 x1 x2 x3) K = (g82_2 (fun y0 y1 => K .normal (e51 y0 y1)) x0 x1 x2 x3) := by
  kernel_rfl
theorem kp82_0 (x0 x1) : keep [2, 3, 4, 5] (e51 x0 x1) = (e71 x0 x1) := by kernel_rfl
theorem kp82_1 (x0 x1 x2 x3) : keep [2, 3, 4, 5] (e70 x0 x1 x2 x3) = (e72 x0 x1 x2) := by kernel_rfl
theorem hb82_0 (x0 x1 x2 x3) : boolOf? (ent (e70 x0 x1 x2 x3) (.t 13)) = some x3 := by kernel_rfl
def g82_4 (S106 : V0 → Option V7) (S107 : V0 → V0 → Option V1) (k0 : V3 → Int → Option R) (x0 x1 x2 : V3) : Option R :=
(S107 x0.1 x1.1).bind fun r873 =>
(S106 r873).bind fun r874 =>
k0 r874.1 r874.2
theorem t82_4 (S106) (S107) (h106 : (ctr106 S106).holds cl) (h107 : (ctr107 S107).holds cl) (x0 x1 x2) : exec cl N c82_4 (e72 x0 x1 x2) K = (g82_4 S106 S107 (fun y0 y1 => K .normal (e58 y0 y1)) x0 x1 x2) := by
  rw [← put_eq h106]
  rw [← put_eq h107]
  kernel_rfl
def g82_5 (S75 : V3 → Option (Bool)) (S106 : V0 → Option V7) (S107 : V0 → V0 → Option V1) (k0 : V3 → Int → Option R) (k1 : V3 → Int → Option R) (x0 x1 : V3) : Option R :=
(g82_0 (g82_1 S75 (fun y0 y1 y2 y3 => brB y3 (g82_2 k0 y0 y1 y2 y3) ((g82_4 S106 S107 k1) y0 y1 y2))) x0 x1)
theorem t82_5 (S75) (S106) (S107) (h75 : (ctr75 S75).holds cl) (h106 : (ctr106 S106).holds cl) (h107 : (ctr107 S107).holds cl) (x0 x1) : exec cl N c82_5 (e68 x0 x1) K = (g82_5 S75 S106 S107 (fun y0 y1 => K .ret (e71 y0 y1)) (fun y0 y1 => K .ret (e58 y0 y1)) x0 x1) := by
  simp only [c82_5, exec_seq, seqK_normal, seqK_exit, seqK_ret, t82_0, t82_1 S75 h75, c82_3, exec_out, exec_cond', hb82_0, Option.bind_some, brB_true, brB_false, t82_2, exec_ret, exec_skip, kp82_0, kp82_1, t82_4 S106 S107 h106 h107]
  rfl
theorem rk82_0 (y0 y1) : retK d82 .ret (e71 y0 y1) = some [.v U4 y0, .v U1 y1] := by kernel_rfl
theorem rk82_1 (y0 y1) : retK d82 .ret (e58 y0 y1) = some [.v U4 y0, .v U1 y1] := by kernel_rfl
def g82 (S75 : V3 → Option (Bool)) (S106 : V0 → Option V7) (S107 : V0 → V0 → Option V1) (x0 x1 : V3) (k : V3 → Int → Option R) : Option R :=
(g82_5 S75 S106 S107 k k x0 x1)
theorem gen82 {N : Nat} {cl : Cal} (S75 : V3 → Option (Bool)) (S106 : V0 → Option V7) (S107 : V0 → V0 → Option V1) (h75 : (ctr75 S75).holds cl) (h106 : (ctr106 S106).holds cl) (h107 : (ctr107 S107).holds cl) (x0 : V3) (x1 : V3) {R : Type} (k : List E → Option R) : exec cl N c82 (params 0 [.v U4 x0, .v U4 x1]) (fun e env => (retK d82 e env).bind k) = g82 S75 S106 S107 x0 x1 (fun (r0 : V3) (r1 : Int) => k [.v U4 r0, .v U1 r1]) := by
  have e0 : params 0 [.v U4 x0, .v U4 x1] = (e68 x0 x1) := by kernel_rfl
  simp only [c82, e0, t82_5 S75 S106 S107 h75 h106 h107, rk82_0, rk82_1, Option.bind_some]
  rfl
def ctr82 (S : V3 → V3 → Option V7) : Ctr := { A := V3 × V3 × Unit, B := V3 × Int, f := 82, enc := fun a => [.v U4 a.1, .v U4 a.2.1], dec := (decC (decV U4) (decC (decV U4) dec0)), S := fun a => S a.1 a.2.1, ent := fun b => [.v U4 b.1, .v U1 b.2], ok := (decV_cons (T := U4) (decV_cons (T := U4) (fun es b h => dec0_some h))) }
def S82 (N : Nat) (x0 : V3) (x1 : V3) : Option V7 := g82 (S75 N) (S106 N) (S107 N) x0 x1 (fun (r0 : V3) (r1 : Int) => some (r0, r1))
def g50_3 (S82 : V3 → V3 → Option V7) (k0 : V3 → Option R) (x0 x1 : V3) : Option R :=
(S82 x0 x1).bind fun r878 =>
k0 r878.1
theorem t50_3 (S82) (h82 : (ctr82 S82).holds cl) (x0 x1) : exec cl N c50_3 (e68 x0 x1) K = (g50_3 S82 (fun y0 => exec cl N .ret [(4, .loc U4 .no y0)] K) x0 x1) := by
  rw [← put_eq h82]
  kernel_rfl
def g50_3b (S82 : V3 → V3 → Option V7) (k0 : V3 → Option R) (x0 x1 : V3) : Option R :=
(g50_3 S82 k0 x0 x1)
theorem t50_3b (S82) (h82 : (ctr82 S82).holds cl) (x0 x1) : exec cl N c50_3 (e68 x0 x1) K = (g50_3b S82 (fun y0 => K .ret [(4, .loc U4 .no y0)]) x0 x1) := by
  simp only [exec_seq, seqK_normal, seqK_exit, seqK_ret, t50_3 S82 h82, exec_ret]
  rfl
theorem rk50_0 (y0) : retK d50 .ret [(4, .loc U4 .no y0)] = some [.v U4 y0] := by kernel_rfl
def g50 (S82 : V3 → V3 → Option V7) (x0 x1 : V3) (k : V3 → Option R) : Option R :=
(g50_3b S82 k x0 x1)
theorem gen50 {N : Nat} {cl : Cal} (S82 : V3 → V3 → Option V7) (h82 : (ctr82 S82).holds cl) (x0 : V3) (x1 : V3) {R : Type} (k : List E → Option R) : exec cl N c50 (params 0 [.v U4 x0, .v U4 x1]) (fun e env => (retK d50 e env).bind k) = g50 S82 x0 x1 (fun (r0 : V3) => k [.v U4 r0]) := by
  have e0 : params 0 [.v U4 x0, .v U4 x1] = (e68 x0 x1) := by kernel_rfl
  simp only [c50, e0, t50_3b S82 h82, rk50_0, Option.bind_some]
  rfl
def ctr50 (S : V3 → V3 → Option V5) : Ctr := { A := V3 × V3 × Unit, B := V3, f := 50, enc := fun a => [.v U4 a.1, .v U4 a.2.1], dec := (decC (decV U4) (decC (decV U4) dec0)), S := fun a => S a.1 a.2.1, ent := fun b => [.v U4 b], ok := (decV_cons (T := U4) (decV_cons (T := U4) (fun es b h => dec0_some h))) }
def S50 (N : Nat) (x0 : V3) (x1 : V3) : Option V5 := g50 (S82 N) x0 x1 (fun (r0 : V3) => some (r0))
def g29_0 (k0 : Int → Int → Int → Int → V14 → Option R) (x0 x1 x2 x3 : Int) : Option R :=
k0 x0 x1 x2 x3 (false, (([], ()), (([], ()), ())))
theorem t29_0 (x0 x1 x2 x3) : exec cl N c29_0 (e0 x0 x1 x2 x3) K = (g29_0 (fun y0 y1 y2 y3 y4 => K .normal (e90 y0 y1 y2 y3 y4)) x0 x1 x2 x3) := by
  kernel_rfl
def g29_5 (S62 : Int → Int → Int → Int → Option (Int)) (k0 : Int → Int → Int → Int → V14 → Int → Bool → Option R) (x0 x1 x2 x3 : Int) (x4 : V14) : Option R :=
(S62 x0 x1 x2 x3).bind fun r884 =>
k0 x0 x1 x2 x3 x4 r884 (r884 != (0 : Int))
theorem t29_5 (S62) (h62 : (ctr62 S62).holds cl) (x0 x1 x2 x3 x4) : exec cl N c29_5 (e90 x0 x1 x2 x3 x4) K = (g29_5 S62 (fun y0 y1 y2 y3 y4 y5 y6 => exec cl N c29_4 (e152 y0 y1 y2 y3 y4 y5 y6) K) x0 x1 x2 x3 x4) := by
  rw [← put_eq h62]
  kernel_rfl
def g29_3 (k0 : V14 → Int → Option R) (x0 x1 x2 x3 : Int) (x4 : V14) (x5 : Int) (x6 : Bool) : Option R :=
k0 (false, ([], ()), ([], ()), ()) x5
theorem t29_3 (x0 x1 x2 x3 x4 x5 x6) : exec cl N c29_3 (e152 x0 x1 x2 x3 x4 x5 x6) K = (g29_3 (fun y0 y1 => K .normal (e92 y0 y1)) x0 x1 x2 x3 x4 x5 x6) := by
  kernel_rfl
theorem kp29_0 (x0 x1) : keep [0, 1, 2, 3, 8, 9] (e92 x0 x1) = (e93 x0 x1) := by kernel_rfl
theorem kp29_1 (x0 x1 x2 x3 x4 x5 x6) : keep [0, 1, 2, 3, 8, 9] (e152 x0 x1 x2 x3 x4 x5 x6) = (e94 x0 x1 x2 x3 x4) := by kernel_rfl
theorem hb29_0 (x0 x1 x2 x3 x4 x5 x6) : boolOf? (ent (e152 x0 x1 x2 x3 x4 x5 x6) (.t 19)) = some x6 := by kernel_rfl
def g29_6 (S49 : Int → Option V5) (k0 : Int → Int → Int → Int → V14 → V3 → Option R) (x0 x1 x2 x3 : Int) (x4 : V14) : Option R :=
(S49 (0 : Int)).bind fun r887 =>
k0 x0 x1 x2 x3 x4 r887
theorem t29_6 (S49) (h49 : (ctr49 S49).holds cl) (x0 x1 x2 x3 x4) : exec cl N c29_6 (e94 x0 x1 x2 x3 x4) K = (g29_6 S49 (fun y0 y1 y2 y3 y4 y5 => K .normal (e153 y0 y1 y2 y3 y4 y5)) x0 x1 x2 x3 x4) := by
  rw [← put_eq h49]
  kernel_rfl
def g29_7 (k0 : Int → Int → Int → V14 → V3 → Int → Option R) (x0 x1 x2 x3 : Int) (x4 : V14) (x5 : V3) : Option R :=
k0 x0 x1 x2 x4 x5 x3
theorem t29_7 (x0 x1 x2 x3 x4 x5) : exec cl N c29_7 (e153 x0 x1 x2 x3 x4 x5) K = (g29_7 (fun y0 y1 y2 y3 y4 y5 => K .normal (e154 y0 y1 y2 y3 y4 y5)) x0 x1 x2 x3 x4 x5) := by
  kernel_rfl
theorem kp29_2 (x0 x1 x2 x3 x4 x5) : keep [0, 1, 2, 8, 11, 12] (e154 x0 x1 x2 x3 x4 x5) = (e154 x0 x1 x2 x3 x4 x5) := by kernel_rfl
def g29_8 (k0 : Int → Int → Int → V14 → V3 → Int → Bool → Option R) (x0 x1 x2 : Int) (x3 : V14) (x4 : V3) (x5 : Int) : Option R :=
k0 x0 x1 x2 x3 x4 x5 (decide (x5 ≤ x2))
theorem t29_8 (x0 x1 x2 x3 x4 x5) : exec cl N c29_8 (e154 x0 x1 x2 x3 x4 x5) K = (g29_8 (fun y0 y1 y2 y3 y4 y5 y6 => K .normal (e155 y0 y1 y2 y3 y4 y5 y6)) x0 x1 x2 x3 x4 x5) := by
  kernel_rfl
theorem kp29_3 (x0 x1 x2 x3 x4 x5 x6) : keep [0, 1, 2, 8, 11, 12] (e155 x0 x1 x2 x3 x4 x5 x6) = (e154 x0 x1 x2 x3 x4 x5) := by kernel_rfl
theorem hb29_1 (x0 x1 x2 x3 x4 x5 x6) : boolOf? (ent (e155 x0 x1 x2 x3 x4 x5 x6) (.t 26)) = some x6 := by kernel_rfl
def g29_10 (S50 : V3 → V3 → Option V5) (S63 : Int → Int → Int → Int → Option V5) (k0 : Int → Int → Int → V14 → V3 → Int → Option R) (x0 x1 x2 : Int) (x3 : V14) (x4 : V3) (x5 : Int) : Option R :=
(S63 x0 x1 x2 x5).bind fun r889 =>
(S50 x4 r889).bind fun r890 =>
k0 x0 x1 x2 x3 r890 x5
theorem t29_10 (S50) (S63) (h50 : (ctr50 S50).holds cl) (h63 : (ctr63 S63).holds cl) (x0 x1 x2 x3 x4 x5) : exec cl N c29_10 (e154 x0 x1 x2 x3 x4 x5) K = (g29_10 S50 S63 (fun y0 y1 y2 y3 y4 y5 => K .normal (e154 y0 y1 y2 y3 y4 y5)) x0 x1 x2 x3 x4 x5) := by
  rw [← put_eq h50]
  rw [← put_eq h63]
  kernel_rfl
def g29_12 (k0 : Int → Int → Int → V14 → V3 → Int → Option R) (x0 x1 x2 : Int) (x3 : V14) (x4 : V3) (x5 : Int) : Option R :=
k0 x0 x1 x2 x3 x4 (IntKind.i64.wrap (x5 + (1 : Int)))
theorem t29_12 (x0 x1 x2 x3 x4 x5) : exec cl N c29_12 (e154 x0 x1 x2 x3 x4 x5) K = (g29_12 (fun y0 y1 y2 y3 y4 y5 => K .normal (e154 y0 y1 y2 y3 y4 y5)) x0 x1 x2 x3 x4 x5) := by
  kernel_rfl
def g29_13 (S50 : V3 → V3 → Option V5) (S63 : Int → Int → Int → Int → Option V5) (k0 : Int → Int → Int → V14 → V3 → Int → Option R) (k1 : Int → Int → Int → V14 → V3 → Int → Option R) (x0 x1 x2 : Int) (x3 : V14) (x4 : V3) (x5 : Int) : Option R :=
(g29_8 (fun y0 y1 y2 y3 y4 y5 y6 => brB y6 ((g29_10 S50 S63 ((g29_12 k0))) y0 y1 y2 y3 y4 y5) (k1 y0 y1 y2 y3 y4 y5)) x0 x1 x2 x3 x4 x5)
theorem t29_13 (S50) (S63) (h50 : (ctr50 S50).holds cl) (h63 : (ctr63 S63).holds cl) (x0 x1 x2 x3 x4 x5) : exec cl N c29_13 (e154 x0 x1 x2 x3 x4 x5) K = (g29_13 S50 S63 (fun y0 y1 y2 y3 y4 y5 => K .normal (e154 y0 y1 y2 y3 y4 y5)) (fun y0 y1 y2 y3 y4 y5 => K (.exit 0) (e154 y0 y1 y2 y3 y4 y5)) x0 x1 x2 x3 x4 x5) := by
  simp only [c29_13, exec_seq, seqK_normal, seqK_exit, seqK_ret, t29_8, c29_9, exec_out, exec_cond', hb29_1, Option.bind_some, brB_true, brB_false, exec_skip, exec_exit, kp29_3, c29_11, exec_block, t29_10 S50 S63 h50 h63, blockK_normal, blockK_ret, blockK_eq, kp29_2, t29_12]
  rfl
def l29_14 {R : Type} (S50 : V3 → V3 → Option V5) (S63 : Int → Int → Int → Int → Option V5) (k0 : Int → Int → Int → V14 → V3 → Int → Option R) : Nat → Int → Int → Int → V14 → V3 → Int → Option R
  | 0, _, _, _, _, _, _ => none
  | m + 1, x0, x1, x2, x3, x4, x5 => (g29_13 S50 S63 (l29_14 S50 S63 k0 m) k0 x0 x1 x2 x3 x4 x5)
theorem lt29_14 (S50) (S63) (h50 : (ctr50 S50).holds cl) (h63 : (ctr63 S63).holds cl) : ∀ (m) (x0 x1 x2 x3 x4 x5), iter [0, 1, 2, 8, 11, 12] (fun env K => exec cl N c29_13 env K) K m (e154 x0 x1 x2 x3 x4 x5) = l29_14 S50 S63 (fun y0 y1 y2 y3 y4 y5 => K (.exit 0) (e154 y0 y1 y2 y3 y4 y5)) m x0 x1 x2 x3 x4 x5 := by
  intro m
  induction m with
  | zero => intros; rfl
  | succ m ih =>
    intro x0 x1 x2 x3 x4 x5
    simp only [iter_succ, t29_13 S50 S63 h50 h63, loopK_normal, loopK_exit, loopK_ret, kp29_2, ih]
    rfl
theorem kp29_4 (x0 x1 x2 x3 x4 x5) : keep [0, 2, 8, 11] (e154 x0 x1 x2 x3 x4 x5) = (e156 x0 x2 x3 x4) := by kernel_rfl
def g29_14 (N : Nat) (S50 : V3 → V3 → Option V5) (S63 : Int → Int → Int → Int → Option V5) (k0 : Int → Int → V14 → V3 → Option R) (x0 x1 x2 : Int) (x3 : V14) (x4 : V3) (x5 : Int) : Option R :=
l29_14 S50 S63 (fun y0 y1 y2 y3 y4 y5 => k0 y0 y2 y3 y4) N x0 x1 x2 x3 x4 x5
theorem t29_14 (S50) (S63) (h50 : (ctr50 S50).holds cl) (h63 : (ctr63 S63).holds cl) (x0 x1 x2 x3 x4 x5) : exec cl N c29_14 (e154 x0 x1 x2 x3 x4 x5) K = (g29_14 N S50 S63 (fun y0 y1 y2 y3 => K (.exit 0) (e156 y0 y1 y2 y3)) x0 x1 x2 x3 x4 x5) := by
  simp only [c29_14, exec_out, exec_loop, kp29_2, lt29_14 S50 S63 h50 h63, kp29_4]
  rfl
theorem kp29_5 (x0 x1 x2 x3) : keep [0, 2, 8, 11] (e156 x0 x1 x2 x3) = (e156 x0 x1 x2 x3) := by kernel_rfl
def g29_16 (S44 : V3 → V3 → Option V16) (S64 : Int → Int → Option V5) (k0 : V14 → Int → Option R) (x0 x1 : Int) (x2 : V14) (x3 : V3) : Option R :=
(S64 x0 x1).bind fun r892 =>
(S44 x3 r892).bind fun r893 =>
k0 r893.1 r893.2
theorem t29_16 (S44) (S64) (h44 : (ctr44 S44).holds cl) (h64 : (ctr64 S64).holds cl) (x0 x1 x2 x3) : exec cl N c29_16 (e156 x0 x1 x2 x3) K = (g29_16 S44 S64 (fun y0 y1 => K .normal (e92 y0 y1)) x0 x1 x2 x3) := by
  rw [← put_eq h44]
  rw [← put_eq h64]
  kernel_rfl
def g29_17 (N : Nat) (S44 : V3 → V3 → Option V16) (S49 : Int → Option V5) (S50 : V3 → V3 → Option V5) (S62 : Int → Int → Int → Int → Option (Int)) (S63 : Int → Int → Int → Int → Option V5) (S64 : Int → Int → Option V5) (k0 : V14 → Int → Option R) (k1 : V14 → Int → Option R) (x0 x1 x2 x3 : Int) : Option R :=
(g29_0 (g29_5 S62 (fun y0 y1 y2 y3 y4 y5 y6 => brB y6 (g29_3 k0 y0 y1 y2 y3 y4 y5 y6) ((g29_6 S49 (g29_7 (g29_14 N S50 S63 ((g29_16 S44 S64 k1))))) y0 y1 y2 y3 y4))) x0 x1 x2 x3)
theorem t29_17 (S44) (S49) (S50) (S62) (S63) (S64) (h44 : (ctr44 S44).holds cl) (h49 : (ctr49 S49).holds cl) (h50 : (ctr50 S50).holds cl) (h62 : (ctr62 S62).holds cl) (h63 : (ctr63 S63).holds cl) (h64 : (ctr64 S64).holds cl) (x0 x1 x2 x3) : exec cl N c29_17 (e0 x0 x1 x2 x3) K = (g29_17 N S44 S49 S50 S62 S63 S64 (fun y0 y1 => K .ret (e93 y0 y1)) (fun y0 y1 => K .ret (e92 y0 y1)) x0 x1 x2 x3) := by
  simp only [c29_17, exec_seq, seqK_normal, seqK_exit, seqK_ret, t29_0, t29_5 S62 h62, c29_4, exec_out, exec_cond', hb29_0, Option.bind_some, brB_true, brB_false, t29_3, exec_ret, exec_skip, kp29_0, kp29_1, t29_6 S49 h49, t29_7, c29_15, exec_block, t29_14 S50 S63 h50 h63, blockK_normal, blockK_ret, blockK_eq, kp29_5, t29_16 S44 S64 h44 h64]
  rfl
theorem rk29_0 (y0 y1) : retK d29 .ret (e93 y0 y1) = some [.v U11 y0, .v U1 y1] := by kernel_rfl
theorem rk29_1 (y0 y1) : retK d29 .ret (e92 y0 y1) = some [.v U11 y0, .v U1 y1] := by kernel_rfl
def g29 (N : Nat) (S44 : V3 → V3 → Option V16) (S49 : Int → Option V5) (S50 : V3 → V3 → Option V5) (S62 : Int → Int → Int → Int → Option (Int)) (S63 : Int → Int → Int → Int → Option V5) (S64 : Int → Int → Option V5) (x0 x1 x2 x3 : Int) (k : V14 → Int → Option R) : Option R :=
(g29_17 N S44 S49 S50 S62 S63 S64 k k x0 x1 x2 x3)
theorem gen29 {N : Nat} {cl : Cal} (S44 : V3 → V3 → Option V16) (S49 : Int → Option V5) (S50 : V3 → V3 → Option V5) (S62 : Int → Int → Int → Int → Option (Int)) (S63 : Int → Int → Int → Int → Option V5) (S64 : Int → Int → Option V5) (h44 : (ctr44 S44).holds cl) (h49 : (ctr49 S49).holds cl) (h50 : (ctr50 S50).holds cl) (h62 : (ctr62 S62).holds cl) (h63 : (ctr63 S63).holds cl) (h64 : (ctr64 S64).holds cl) (x0 : Int) (x1 : Int) (x2 : Int) (x3 : Int) {R : Type} (k : List E → Option R) : exec cl N c29 (params 0 [.v U1 x0, .v U1 x1, .v U1 x2, .v U1 x3]) (fun e env => (retK d29 e env).bind k) = g29 N S44 S49 S50 S62 S63 S64 x0 x1 x2 x3 (fun (r0 : V14) (r1 : Int) => k [.v U11 r0, .v U1 r1]) := by
  have e0 : params 0 [.v U1 x0, .v U1 x1, .v U1 x2, .v U1 x3] = (e0 x0 x1 x2 x3) := by kernel_rfl
  simp only [c29, e0, t29_17 S44 S49 S50 S62 S63 S64 h44 h49 h50 h62 h63 h64, rk29_0, rk29_1, Option.bind_some]
  rfl
def ctr29 (S : Int → Int → Int → Int → Option V16) : Ctr := { A := Int × Int × Int × Int × Unit, B := V14 × Int, f := 29, enc := fun a => [.v U1 a.1, .v U1 a.2.1, .v U1 a.2.2.1, .v U1 a.2.2.2.1], dec := (decC (decV U1) (decC (decV U1) (decC (decV U1) (decC (decV U1) dec0)))), S := fun a => S a.1 a.2.1 a.2.2.1 a.2.2.2.1, ent := fun b => [.v U11 b.1, .v U1 b.2], ok := (decV_cons (T := U1) (decV_cons (T := U1) (decV_cons (T := U1) (decV_cons (T := U1) (fun es b h => dec0_some h))))) }
def S29 (N : Nat) (x0 : Int) (x1 : Int) (x2 : Int) (x3 : Int) : Option V16 := g29 N (S44 N) (S49 N) (S50 N) (S62 N) (S63 N) (S64 N) x0 x1 x2 x3 (fun (r0 : V14) (r1 : Int) => some (r0, r1))
def g30_0 (k0 : Int → Int → Int → Int → V14 → Option R) (x0 x1 x2 x3 : Int) : Option R :=
k0 x0 x1 x2 x3 (false, (([], ()), (([], ()), ())))
theorem t30_0 (x0 x1 x2 x3) : exec cl N c30_0 (e0 x0 x1 x2 x3) K = (g30_0 (fun y0 y1 y2 y3 y4 => K .normal (e90 y0 y1 y2 y3 y4)) x0 x1 x2 x3) := by
  kernel_rfl
def g30_5 (S65 : Int → Int → Int → Int → Option (Int)) (k0 : Int → Int → Int → Int → V14 → Int → Bool → Option R) (x0 x1 x2 x3 : Int) (x4 : V14) : Option R :=
(S65 x0 x1 x2 x3).bind fun r904 =>
k0 x0 x1 x2 x3 x4 r904 (r904 != (0 : Int))
theorem t30_5 (S65) (h65 : (ctr65 S65).holds cl) (x0 x1 x2 x3 x4) : exec cl N c30_5 (e90 x0 x1 x2 x3 x4) K = (g30_5 S65 (fun y0 y1 y2 y3 y4 y5 y6 => exec cl N c30_4 (e91 y0 y1 y2 y3 y4 y5 y6) K) x0 x1 x2 x3 x4) := by
  rw [← put_eq h65]
  kernel_rfl
def g30_3 (k0 : V14 → Int → Option R) (x0 x1 x2 x3 : Int) (x4 : V14) (x5 : Int) (x6 : Bool) : Option R :=
k0 (false, ([], ()), ([], ()), ()) x5
theorem t30_3 (x0 x1 x2 x3 x4 x5 x6) : exec cl N c30_3 (e91 x0 x1 x2 x3 x4 x5 x6) K = (g30_3 (fun y0 y1 => K .normal (e92 y0 y1)) x0 x1 x2 x3 x4 x5 x6) := by
  kernel_rfl
theorem kp30_0 (x0 x1) : keep [0, 1, 2, 3, 8, 9] (e92 x0 x1) = (e93 x0 x1) := by kernel_rfl
theorem kp30_1 (x0 x1 x2 x3 x4 x5 x6) : keep [0, 1, 2, 3, 8, 9] (e91 x0 x1 x2 x3 x4 x5 x6) = (e94 x0 x1 x2 x3 x4) := by kernel_rfl
theorem hb30_0 (x0 x1 x2 x3 x4 x5 x6) : boolOf? (ent (e91 x0 x1 x2 x3 x4 x5 x6) (.t 17)) = some x6 := by kernel_rfl
def g30_6 (S66 : Int → Int → Int → Int → Int → Option V15) (k0 : V14 → Int → Option R) (x0 x1 x2 x3 : Int) (x4 : V14) : Option R :=
(S66 x0 x1 x2 x3 x2).bind fun r907 =>
k0 r907 (0 : Int)
theorem t30_6 (S66) (h66 : (ctr66 S66).holds cl) (x0 x1 x2 x3 x4) : exec cl N c30_6 (e94 x0 x1 x2 x3 x4) K = (g30_6 S66 (fun y0 y1 => K .normal (e92 y0 y1)) x0 x1 x2 x3 x4) := by
  rw [← put_eq h66]
  kernel_rfl
def g30_7 (S65 : Int → Int → Int → Int → Option (Int)) (S66 : Int → Int → Int → Int → Int → Option V15) (k0 : V14 → Int → Option R) (k1 : V14 → Int → Option R) (x0 x1 x2 x3 : Int) : Option R :=
(g30_0 (g30_5 S65 (fun y0 y1 y2 y3 y4 y5 y6 => brB y6 (g30_3 k0 y0 y1 y2 y3 y4 y5 y6) ((g30_6 S66 k1) y0 y1 y2 y3 y4))) x0 x1 x2 x3)
theorem t30_7 (S65) (S66) (h65 : (ctr65 S65).holds cl) (h66 : (ctr66 S66).holds cl) (x0 x1 x2 x3) : exec cl N c30_7 (e0 x0 x1 x2 x3) K = (g30_7 S65 S66 (fun y0 y1 => K .ret (e93 y0 y1)) (fun y0 y1 => K .ret (e92 y0 y1)) x0 x1 x2 x3) := by
  simp only [c30_7, exec_seq, seqK_normal, seqK_exit, seqK_ret, t30_0, t30_5 S65 h65, c30_4, exec_out, exec_cond', hb30_0, Option.bind_some, brB_true, brB_false, t30_3, exec_ret, exec_skip, kp30_0, kp30_1, t30_6 S66 h66]
  rfl
theorem rk30_0 (y0 y1) : retK d30 .ret (e93 y0 y1) = some [.v U11 y0, .v U1 y1] := by kernel_rfl
theorem rk30_1 (y0 y1) : retK d30 .ret (e92 y0 y1) = some [.v U11 y0, .v U1 y1] := by kernel_rfl
def g30 (S65 : Int → Int → Int → Int → Option (Int)) (S66 : Int → Int → Int → Int → Int → Option V15) (x0 x1 x2 x3 : Int) (k : V14 → Int → Option R) : Option R :=
(g30_7 S65 S66 k k x0 x1 x2 x3)
theorem gen30 {N : Nat} {cl : Cal} (S65 : Int → Int → Int → Int → Option (Int)) (S66 : Int → Int → Int → Int → Int → Option V15) (h65 : (ctr65 S65).holds cl) (h66 : (ctr66 S66).holds cl) (x0 : Int) (x1 : Int) (x2 : Int) (x3 : Int) {R : Type} (k : List E → Option R) : exec cl N c30 (params 0 [.v U1 x0, .v U1 x1, .v U1 x2, .v U1 x3]) (fun e env => (retK d30 e env).bind k) = g30 S65 S66 x0 x1 x2 x3 (fun (r0 : V14) (r1 : Int) => k [.v U11 r0, .v U1 r1]) := by
  have e0 : params 0 [.v U1 x0, .v U1 x1, .v U1 x2, .v U1 x3] = (e0 x0 x1 x2 x3) := by kernel_rfl
  simp only [c30, e0, t30_7 S65 S66 h65 h66, rk30_0, rk30_1, Option.bind_some]
  rfl
def ctr30 (S : Int → Int → Int → Int → Option V16) : Ctr := { A := Int × Int × Int × Int × Unit, B := V14 × Int, f := 30, enc := fun a => [.v U1 a.1, .v U1 a.2.1, .v U1 a.2.2.1, .v U1 a.2.2.2.1], dec := (decC (decV U1) (decC (decV U1) (decC (decV U1) (decC (decV U1) dec0)))), S := fun a => S a.1 a.2.1 a.2.2.1 a.2.2.2.1, ent := fun b => [.v U11 b.1, .v U1 b.2], ok := (decV_cons (T := U1) (decV_cons (T := U1) (decV_cons (T := U1) (decV_cons (T := U1) (fun es b h => dec0_some h))))) }
def S30 (N : Nat) (x0 : Int) (x1 : Int) (x2 : Int) (x3 : Int) : Option V16 := g30 (S65 N) (S66 N) x0 x1 x2 x3 (fun (r0 : V14) (r1 : Int) => some (r0, r1))
def g60_2 (S90 : V0 → V0 → Option (Int)) (k0 : Int → Option R) (x0 x1 : V3) : Option R :=
(S90 x0.1 x1.1).bind fun r916 =>
k0 r916
theorem t60_2 (S90) (h90 : (ctr90 S90).holds cl) (x0 x1) : exec cl N c60_2 (e68 x0 x1) K = (g60_2 S90 (fun y0 => exec cl N .ret [(4, .v U1 y0)] K) x0 x1) := by
  rw [← put_eq h90]
  kernel_rfl
def g60_2b (S90 : V0 → V0 → Option (Int)) (k0 : Int → Option R) (x0 x1 : V3) : Option R :=
(g60_2 S90 k0 x0 x1)
theorem t60_2b (S90) (h90 : (ctr90 S90).holds cl) (x0 x1) : exec cl N c60_2 (e68 x0 x1) K = (g60_2b S90 (fun y0 => K .ret [(4, .v U1 y0)]) x0 x1) := by
  simp only [exec_seq, seqK_normal, seqK_exit, seqK_ret, t60_2 S90 h90, exec_ret]
  rfl
theorem rk60_0 (y0) : retK d60 .ret [(4, .v U1 y0)] = some [.v U1 y0] := by kernel_rfl
def g60 (S90 : V0 → V0 → Option (Int)) (x0 x1 : V3) (k : Int → Option R) : Option R :=
(g60_2b S90 k x0 x1)
theorem gen60 {N : Nat} {cl : Cal} (S90 : V0 → V0 → Option (Int)) (h90 : (ctr90 S90).holds cl) (x0 : V3) (x1 : V3) {R : Type} (k : List E → Option R) : exec cl N c60 (params 0 [.v U4 x0, .v U4 x1]) (fun e env => (retK d60 e env).bind k) = g60 S90 x0 x1 (fun (r0 : Int) => k [.v U1 r0]) := by
  have e0 : params 0 [.v U4 x0, .v U4 x1] = (e68 x0 x1) := by kernel_rfl
  simp only [c60, e0, t60_2b S90 h90, rk60_0, Option.bind_some]
  rfl
def ctr60 (S : V3 → V3 → Option (Int)) : Ctr := { A := V3 × V3 × Unit, B := Int, f := 60, enc := fun a => [.v U4 a.1, .v U4 a.2.1], dec := (decC (decV U4) (decC (decV U4) dec0)), S := fun a => S a.1 a.2.1, ent := fun b => [.v U1 b], ok := (decV_cons (T := U4) (decV_cons (T := U4) (fun es b h => dec0_some h))) }
def S60 (N : Nat) (x0 : V3) (x1 : V3) : Option (Int) := g60 (S90 N) x0 x1 (fun (r0 : Int) => some (r0))
def g51_2 (S60 : V3 → V3 → Option (Int)) (k0 : Bool → Option R) (x0 x1 : V3) : Option R :=
(S60 x0 x1).bind fun r919 =>
k0 (r919 == (0 : Int))
theorem t51_2 (S60) (h60 : (ctr60 S60).holds cl) (x0 x1) : exec cl N c51_2 (e68 x0 x1) K = (g51_2 S60 (fun y0 => exec cl N .ret [(4, .v .bool y0)] K) x0 x1) := by
  rw [← put_eq h60]
  kernel_rfl
def g51_2b (S60 : V3 → V3 → Option (Int)) (k0 : Bool → Option R) (x0 x1 : V3) : Option R :=
(g51_2 S60 k0 x0 x1)
theorem t51_2b (S60) (h60 : (ctr60 S60).holds cl) (x0 x1) : exec cl N c51_2 (e68 x0 x1) K = (g51_2b S60 (fun y0 => K .ret [(4, .v .bool y0)]) x0 x1) := by
  simp only [exec_seq, seqK_normal, seqK_exit, seqK_ret, t51_2 S60 h60, exec_ret]
  rfl
theorem rk51_0 (y0) : retK d51 .ret [(4, .v .bool y0)] = some [.v .bool y0] := by kernel_rfl
def g51 (S60 : V3 → V3 → Option (Int)) (x0 x1 : V3) (k : Bool → Option R) : Option R :=
(g51_2b S60 k x0 x1)
theorem gen51 {N : Nat} {cl : Cal} (S60 : V3 → V3 → Option (Int)) (h60 : (ctr60 S60).holds cl) (x0 : V3) (x1 : V3) {R : Type} (k : List E → Option R) : exec cl N c51 (params 0 [.v U4 x0, .v U4 x1]) (fun e env => (retK d51 e env).bind k) = g51 S60 x0 x1 (fun (r0 : Bool) => k [.v .bool r0]) := by
  have e0 : params 0 [.v U4 x0, .v U4 x1] = (e68 x0 x1) := by kernel_rfl
  simp only [c51, e0, t51_2b S60 h60, rk51_0, Option.bind_some]
  rfl
def ctr51 (S : V3 → V3 → Option (Bool)) : Ctr := { A := V3 × V3 × Unit, B := Bool, f := 51, enc := fun a => [.v U4 a.1, .v U4 a.2.1], dec := (decC (decV U4) (decC (decV U4) dec0)), S := fun a => S a.1 a.2.1, ent := fun b => [.v .bool b], ok := (decV_cons (T := U4) (decV_cons (T := U4) (fun es b h => dec0_some h))) }
def S51 (N : Nat) (x0 : V3) (x1 : V3) : Option (Bool) := g51 (S60 N) x0 x1 (fun (r0 : Bool) => some (r0))
def g21_2 (S51 : V3 → V3 → Option (Bool)) (k0 : Bool → Option R) (x0 x1 : V14) : Option R :=
brB (x0.1 == x1.1) ((S51 x0.2.1 x1.2.1).bind fun r924 =>
brB r924 ((S51 x0.2.2.1 x1.2.2.1).bind fun r925 =>
k0 r925) (k0 false)) (k0 false)
theorem t21_2 (S51) (h51 : (ctr51 S51).holds cl) (x0 x1) : exec cl N c21_2 [(0, .v U11 x0), (1, .v U11 x1)] K = (g21_2 S51 (fun y0 => exec cl N .ret [(4, .v .bool y0)] K) x0 x1) := by
  rw [← put_eq h51]
  kernel_rfl
def g21_2b (S51 : V3 → V3 → Option (Bool)) (k0 : Bool → Option R) (x0 x1 : V14) : Option R :=
(g21_2 S51 k0 x0 x1)
theorem t21_2b (S51) (h51 : (ctr51 S51).holds cl) (x0 x1) : exec cl N c21_2 [(0, .v U11 x0), (1, .v U11 x1)] K = (g21_2b S51 (fun y0 => K .ret [(4, .v .bool y0)]) x0 x1) := by
  simp only [exec_seq, seqK_normal, seqK_exit, seqK_ret, t21_2 S51 h51, exec_ret]
  rfl
theorem rk21_0 (y0) : retK d21 .ret [(4, .v .bool y0)] = some [.v .bool y0] := by kernel_rfl
def g21 (S51 : V3 → V3 → Option (Bool)) (x0 x1 : V14) (k : Bool → Option R) : Option R :=
(g21_2b S51 k x0 x1)
theorem gen21 {N : Nat} {cl : Cal} (S51 : V3 → V3 → Option (Bool)) (h51 : (ctr51 S51).holds cl) (x0 : V14) (x1 : V14) {R : Type} (k : List E → Option R) : exec cl N c21 (params 0 [.v U11 x0, .v U11 x1]) (fun e env => (retK d21 e env).bind k) = g21 S51 x0 x1 (fun (r0 : Bool) => k [.v .bool r0]) := by
  have e0 : params 0 [.v U11 x0, .v U11 x1] = [(0, .v U11 x0), (1, .v U11 x1)] := by kernel_rfl
  simp only [c21, e0, t21_2b S51 h51, rk21_0, Option.bind_some]
  rfl
def ctr21 (S : V14 → V14 → Option (Bool)) : Ctr := { A := V14 × V14 × Unit, B := Bool, f := 21, enc := fun a => [.v U11 a.1, .v U11 a.2.1], dec := (decC (decV U11) (decC (decV U11) dec0)), S := fun a => S a.1 a.2.1, ent := fun b => [.v .bool b], ok := (decV_cons (T := U11) (decV_cons (T := U11) (fun es b h => dec0_some h))) }
def S21 (N : Nat) (x0 : V14) (x1 : V14) : Option (Bool) := g21 (S51 N) x0 x1 (fun (r0 : Bool) => some (r0))
def g7_0 (k0 : V11 → Option R) (x0 : V11) : Option R :=
k0 x0
theorem t7_0 (x0) : exec cl N c7_0 [(0, .v U10 x0)] K = (g7_0 (fun y0 => K .normal [(1, .loc U10 .no y0)]) x0) := by
  kernel_rfl
def g7_1 (S11 : Option (Bool)) (k0 : V11 → Bool → Option R) (x0 : V11) : Option R :=
(S11).bind fun r929 =>
brB (!r929) (k0 x0 true) (brB (decide (x0.1 > (60 : Int))) (k0 x0 (decide (x0.1 ≤ (400 : Int)))) (k0 x0 false))
theorem t7_1 (S11) (h11 : (ctr11 S11).holds cl) (x0) : exec cl N c7_1 [(1, .loc U10 .no x0)] K = (g7_1 S11 (fun y0 y1 => K .normal (e157 y0 y1)) x0) := by
  rw [← put_eq h11]
  kernel_rfl
def g7_2 (S11 : Option (Bool)) (k0 : Bool → Option R) (x0 : V11) (x1 : Bool) : Option R :=
(S11).bind fun r932 =>
k0 r932
theorem t7_2 (S11) (h11 : (ctr11 S11).holds cl) (x0 x1) : exec cl N c7_2 (e157 x0 x1) K = (g7_2 S11 (fun y0 => K .normal [(2, .v .bool y0)]) x0 x1) := by
  rw [← put_eq h11]
  kernel_rfl
theorem kp7_0 (x0) : keep [1, 2] [(2, .v .bool x0)] = [(1, .dead), (2, .v .bool x0)] := by kernel_rfl
theorem kp7_1 (x0 x1) : keep [1, 2] (e157 x0 x1) = [(1, .loc U10 .no x0), (2, .dead)] := by kernel_rfl
theorem hb7_0 (x0 x1) : boolOf? (ent (e157 x0 x1) (.t 22)) = some x1 := by kernel_rfl
def g7_9 (S21 : V14 → V14 → Option (Bool)) (S27 : Int → Int → Int → Int → Option V16) (S28 : Int → Int → Int → Int → Option V16) (S29 : Int → Int → Int → Int → Option V16) (S30 : Int → Int → Int → Int → Option V16) (k0 : Bool → Option R) (x0 : V11) : Option R :=
(S27 x0.1 x0.2.1 x0.2.2.1 x0.2.2.2.1).bind fun r943 =>
(S28 x0.1 x0.2.1 x0.2.2.1 x0.2.2.2.1).bind fun r944 =>
(S29 x0.1 x0.2.1 x0.2.2.1 x0.2.2.2.1).bind fun r945 =>
(S30 x0.1 x0.2.1 x0.2.2.1 x0.2.2.2.1).bind fun r946 =>
brB (r943.2 == r944.2) ((S21 r943.1 r944.1).bind fun r948 =>
brB r948 (brB (r945.2 == r946.2) ((S21 r945.1 r946.1).bind fun r950 =>
k0 r950) (k0 false)) (k0 false)) (k0 false)
theorem t7_9 (S21) (S27) (S28) (S29) (S30) (h21 : (ctr21 S21).holds cl) (h27 : (ctr27 S27).holds cl) (h28 : (ctr28 S28).holds cl) (h29 : (ctr29 S29).holds cl) (h30 : (ctr30 S30).holds cl) (x0) : exec cl N c7_9 [(1, .loc U10 .no x0), (2, .dead)] K = (g7_9 S21 S27 S28 S29 S30 (fun y0 => exec cl N .ret [(2, .v .bool y0)] K) x0) := by
  rw [← put_eq h21]
  rw [← put_eq h27]
  rw [← put_eq h28]
  rw [← put_eq h29]
  rw [← put_eq h30]
  kernel_rfl
def g7_10 (S11 : Option (Bool)) (S21 : V14 → V14 → Option (Bool)) (S27 : Int → Int → Int → Int → Option V16) (S28 : Int → Int → Int → Int → Option V16) (S29 : Int → Int → Int → Int → Option V16) (S30 : Int → Int → Int → Int → Option V16) (k0 : Bool → Option R) (k1 : Bool → Option R) (x0 : V11) : Option R :=
(g7_0 (g7_1 S11 (fun y0 y1 => brB y1 (g7_2 S11 k0 y0 y1) ((g7_9 S21 S27 S28 S29 S30 k1) y0))) x0)
theorem t7_10 (S11) (S21) (S27) (S28) (S29) (S30) (h11 : (ctr11 S11).holds cl) (h21 : (ctr21 S21).holds cl) (h27 : (ctr27 S27).holds cl) (h28 : (ctr28 S28).holds cl) (h29 : (ctr29 S29).holds cl) (h30 : (ctr30 S30).holds cl) (x0) : exec cl N c7_10 [(0, .v U10 x0)] K = (g7_10 S11 S21 S27 S28 S29 S30 (fun y0 => K .ret [(1, .dead), (2, .v .bool y0)]) (fun y0 => K .ret [(2, .v .bool y0)]) x0) := by
  simp only [c7_10, exec_seq, seqK_normal, seqK_exit, seqK_ret, t7_0, t7_1 S11 h11, c7_3, exec_out, exec_cond', hb7_0, Option.bind_some, brB_true, brB_false, t7_2 S11 h11, exec_ret, exec_skip, kp7_0, kp7_1, t7_9 S21 S27 S28 S29 S30 h21 h27 h28 h29 h30]
  rfl
theorem rk7_0 (y0) : retK d7 .ret [(1, .dead), (2, .v .bool y0)] = some [.v .bool y0] := by kernel_rfl
theorem rk7_1 (y0) : retK d7 .ret [(2, .v .bool y0)] = some [.v .bool y0] := by kernel_rfl
def g7 (S11 : Option (Bool)) (S21 : V14 → V14 → Option (Bool)) (S27 : Int → Int → Int → Int → Option V16) (S28 : Int → Int → Int → Int → Option V16) (S29 : Int → Int → Int → Int → Option V16) (S30 : Int → Int → Int → Int → Option V16) (x0 : V11) (k : Bool → Option R) : Option R :=
(g7_10 S11 S21 S27 S28 S29 S30 k k x0)
theorem gen7 {N : Nat} {cl : Cal} (S11 : Option (Bool)) (S21 : V14 → V14 → Option (Bool)) (S27 : Int → Int → Int → Int → Option V16) (S28 : Int → Int → Int → Int → Option V16) (S29 : Int → Int → Int → Int → Option V16) (S30 : Int → Int → Int → Int → Option V16) (h11 : (ctr11 S11).holds cl) (h21 : (ctr21 S21).holds cl) (h27 : (ctr27 S27).holds cl) (h28 : (ctr28 S28).holds cl) (h29 : (ctr29 S29).holds cl) (h30 : (ctr30 S30).holds cl) (x0 : V11) {R : Type} (k : List E → Option R) : exec cl N c7 (params 0 [.v U10 x0]) (fun e env => (retK d7 e env).bind k) = g7 S11 S21 S27 S28 S29 S30 x0 (fun (r0 : Bool) => k [.v .bool r0]) := by
  have e0 : params 0 [.v U10 x0] = [(0, .v U10 x0)] := by kernel_rfl
  simp only [c7, e0, t7_10 S11 S21 S27 S28 S29 S30 h11 h21 h27 h28 h29 h30, rk7_0, rk7_1, Option.bind_some]
  rfl
def ctr7 (S : V11 → Option (Bool)) : Ctr := { A := V11 × Unit, B := Bool, f := 7, enc := fun a => [.v U10 a.1], dec := (decC (decV U10) dec0), S := fun a => S a.1, ent := fun b => [.v .bool b], ok := (decV_cons (T := U10) (fun es b h => dec0_some h)) }
def S7 (N : Nat) (x0 : V11) : Option (Bool) := g7 (S11 N) (S21 N) (S27 N) (S28 N) (S29 N) (S30 N) x0 (fun (r0 : Bool) => some (r0))
end Go.Fw.L51
