/- Printed by an own program for this claim: the machine's code of functions, or their typed forms with their equations; no conditions. -/
import Derived.Test.YtnobiophckdjfaaFwMs51a
import Derived.Test.YtnobiophckdjfaaFwB4
set_option linter.unusedVariables false
set_option linter.unusedSimpArgs false
namespace Go.Fw.L51
open Go Go.Fw
set_option maxRecDepth 100000
set_option linter.unusedVariables false
set_option linter.unusedSimpArgs false
variable {N : Nat} {cl : Cal} {R : Type} {K : KE R}
def g115_33 (k0 : V0 → V0 → V0 → V0 → Option R) (x0 x1 : V0) := k0 x0 x1 [] []
theorem t115_33 (x0 x1) : exec cl N c115_33 (e20 x0 x1) K = g115_33 (fun y0 y1 y2 y3 => exec cl N (.seq (.seq c115_2 c115_29) c115_32) (e66 y0 y1 y2 y3) K) x0 x1 := by kernel_rfl
def g115_2 (k0 : K5 R) (x0 x1 x2 x3 : V0) := k0 x0 x1 x2 x3 (IntKind.i64.wrap ((x0.length : Int) - (1 : Int)))
theorem t115_2 (x0 x1 x2 x3) : exec cl N c115_2 (e66 x0 x1 x2 x3) K = g115_2 (fun y0 y1 y2 y3 y4 => K .normal (e67 y0 y1 y2 y3 y4)) x0 x1 x2 x3 := by kernel_rfl
theorem kp115_0 (x0 x1 x2 x3 x4) : keep [0, 1, 6, 7, 8] (e67 x0 x1 x2 x3 x4) = e67 x0 x1 x2 x3 x4 := by kernel_rfl
def g115_3 (k0 : V0 → V0 → V0 → V0 → Int → Bool → Option R) (x0 x1 x2 x3 : V0) (x4 : Int) := k0 x0 x1 x2 x3 x4 (decide (x4 ≥ (0 : Int)))
theorem t115_3 (x0 x1 x2 x3 x4) : exec cl N c115_3 (e67 x0 x1 x2 x3 x4) K = g115_3 (fun y0 y1 y2 y3 y4 y5 => K .normal (e111 y0 y1 y2 y3 y4 y5)) x0 x1 x2 x3 x4 := by kernel_rfl
theorem kp115_1 (x0 x1 x2 x3 x4 x5) : keep [0, 1, 6, 7, 8] (e111 x0 x1 x2 x3 x4 x5) = e67 x0 x1 x2 x3 x4 := by kernel_rfl
theorem hb115_0 (x0 x1 x2 x3 x4 x5) : boolOf? (ent (e111 x0 x1 x2 x3 x4 x5) (.t 16)) = some x5 := by kernel_rfl
def g115_24 (S118 : s118) (k0 : K2 R) (x0 x1 x2 x3 : V0) (x4 : Int) : Option R :=
if 0 ≤ x4 ∧ x4 < (x0.length : Int) then
if [(x0.getD x4.toNat (0 : Int))].length + x3.length ≤ 17592186044416 then
(S118 ([(x0.getD x4.toNat (0 : Int))] ++ x3)).bind fun r590 =>
k0 x0 x1 x2 r590 x4 (0 : Int) (9999 : Int)
else none
else none
theorem t115_24 (S118) (h118 : (ctr118 S118).holds cl) (x0 x1 x2 x3 x4) : exec cl N c115_24 (e67 x0 x1 x2 x3 x4) K = g115_24 S118 (fun y0 y1 y2 y3 y4 y5 y6 => exec cl N (.seq c115_18 (.seq c115_22 c115_23)) (e69 y0 y1 y2 y3 y4 y5 y6) K) x0 x1 x2 x3 x4 := by
 rw [← put_eq h118]
 kernel_rfl
theorem kp115_2 (x0 x1 x2 x3 x4 x5 x6) : keep [0, 1, 6, 7, 8, 9, 10] (e69 x0 x1 x2 x3 x4 x5 x6) = e69 x0 x1 x2 x3 x4 x5 x6 := by kernel_rfl
def g115_7 (k0 : K36 R) (x0 x1 x2 x3 : V0) (x4 x5 x6 : Int) := k0 x0 x1 x2 x3 x4 x5 x6 (decide (x5 < x6))
theorem t115_7 (x0 x1 x2 x3 x4 x5 x6) : exec cl N c115_7 (e69 x0 x1 x2 x3 x4 x5 x6) K = g115_7 (fun y0 y1 y2 y3 y4 y5 y6 y7 => K .normal (e112 y0 y1 y2 y3 y4 y5 y6 y7)) x0 x1 x2 x3 x4 x5 x6 := by kernel_rfl
theorem kp115_3 (x0 x1 x2 x3 x4 x5 x6 x7) : keep [0, 1, 6, 7, 8, 9, 10] (e112 x0 x1 x2 x3 x4 x5 x6 x7) = e69 x0 x1 x2 x3 x4 x5 x6 := by kernel_rfl
theorem hb115_1 (x0 x1 x2 x3 x4 x5 x6 x7) : boolOf? (ent (e112 x0 x1 x2 x3 x4 x5 x6 x7) (.t 29)) = some x7 := by kernel_rfl
def g115_14 (S96 : s96) (S114 : s114) (k0 : K33 R) (x0 x1 x2 x3 : V0) (x4 x5 x6 : Int) : Option R :=
let v597 : Int := (IntKind.i64.wrap (Int.tdiv (IntKind.i64.wrap ((IntKind.i64.wrap (x5 + x6)) + (1 : Int))) (2 : Int)))
(S114 x1 [v597]).bind fun r598 =>
(S96 r598 x3).bind fun r599 =>
k0 x0 x1 x2 x3 x4 x5 x6 v597 (decide (r599 ≤ (0 : Int)))
theorem t115_14 (S96) (S114) (h96 : (ctr96 S96).holds cl) (h114 : (ctr114 S114).holds cl) (x0 x1 x2 x3 x4 x5 x6) : exec cl N c115_14 (e69 x0 x1 x2 x3 x4 x5 x6) K = g115_14 S96 S114 (fun y0 y1 y2 y3 y4 y5 y6 y7 y8 => exec cl N c115_13 (e113 y0 y1 y2 y3 y4 y5 y6 y7 y8) K) x0 x1 x2 x3 x4 x5 x6 := by
 rw [← put_eq h96]
 rw [← put_eq h114]
 kernel_rfl
def g115_11 (k0 : K2 R) (x0 x1 x2 x3 : V0) (x4 x5 x6 x7 : Int) (x8 : Bool) := k0 x0 x1 x2 x3 x4 x7 x6
theorem t115_11 (x0 x1 x2 x3 x4 x5 x6 x7 x8) : exec cl N c115_11 (e113 x0 x1 x2 x3 x4 x5 x6 x7 x8) K = g115_11 (fun y0 y1 y2 y3 y4 y5 y6 => K .normal (e69 y0 y1 y2 y3 y4 y5 y6)) x0 x1 x2 x3 x4 x5 x6 x7 x8 := by kernel_rfl
def g115_12 (k0 : K2 R) (x0 x1 x2 x3 : V0) (x4 x5 x6 x7 : Int) (x8 : Bool) := k0 x0 x1 x2 x3 x4 x5 (IntKind.i64.wrap (x7 - (1 : Int)))
theorem t115_12 (x0 x1 x2 x3 x4 x5 x6 x7 x8) : exec cl N c115_12 (e113 x0 x1 x2 x3 x4 x5 x6 x7 x8) K = g115_12 (fun y0 y1 y2 y3 y4 y5 y6 => K .normal (e69 y0 y1 y2 y3 y4 y5 y6)) x0 x1 x2 x3 x4 x5 x6 x7 x8 := by kernel_rfl
theorem hb115_2 (x0 x1 x2 x3 x4 x5 x6 x7 x8) : boolOf? (ent (e113 x0 x1 x2 x3 x4 x5 x6 x7 x8) (.t 41)) = some x8 := by kernel_rfl
def g115_16 (S96 : s96) (S114 : s114) (k0 : K2 R) (k1 : K2 R) (x0 x1 x2 x3 : V0) (x4 x5 x6 : Int) := (g115_7 (fun y0 y1 y2 y3 y4 y5 y6 y7 => brB y7 ((g115_14 S96 S114 (fun y0 y1 y2 y3 y4 y5 y6 y7 y8 => brB y8 (g115_11 k0 y0 y1 y2 y3 y4 y5 y6 y7 y8) (g115_12 k0 y0 y1 y2 y3 y4 y5 y6 y7 y8))) y0 y1 y2 y3 y4 y5 y6) (k1 y0 y1 y2 y3 y4 y5 y6)) x0 x1 x2 x3 x4 x5 x6)
theorem t115_16 (S96) (S114) (h96 : (ctr96 S96).holds cl) (h114 : (ctr114 S114).holds cl) (x0 x1 x2 x3 x4 x5 x6) : exec cl N c115_16 (e69 x0 x1 x2 x3 x4 x5 x6) K = g115_16 S96 S114 (fun y0 y1 y2 y3 y4 y5 y6 => K .normal (e69 y0 y1 y2 y3 y4 y5 y6)) (fun y0 y1 y2 y3 y4 y5 y6 => K (.exit 2) (e69 y0 y1 y2 y3 y4 y5 y6)) x0 x1 x2 x3 x4 x5 x6 := by
 simp only [c115_16, B0, t115_7, c115_8, exec_out, B1, hb115_1, Option.bind_some, exec_exit, kp115_3, c115_15, B2, t115_14 S96 S114 h96 h114, c115_13, hb115_2, t115_11, t115_12, kp115_2]
 rfl
def l115_17 {R : Type} (S96 : s96) (S114 : s114) (k0 : K2 R) : Nat → V0 → V0 → V0 → V0 → Int → Int → Int → Option R
 | 0, _, _, _, _, _, _, _ => none
 | m + 1, x0, x1, x2, x3, x4, x5, x6 => (g115_16 S96 S114 (l115_17 S96 S114 k0 m) k0 x0 x1 x2 x3 x4 x5 x6)
theorem lt115_17 (S96) (S114) (h96 : (ctr96 S96).holds cl) (h114 : (ctr114 S114).holds cl) : ∀ (m) (x0 x1 x2 x3 x4 x5 x6), iter [0, 1, 6, 7, 8, 9, 10] (fun env K => exec cl N c115_16 env K) K m (e69 x0 x1 x2 x3 x4 x5 x6) = l115_17 S96 S114 (fun y0 y1 y2 y3 y4 y5 y6 => K (.exit 2) (e69 y0 y1 y2 y3 y4 y5 y6)) m x0 x1 x2 x3 x4 x5 x6 := by
 intro m
 induction m with
 | zero => intros; rfl
 | succ m ih =>
   intro x0 x1 x2 x3 x4 x5 x6
   simp only [B3, t115_16 S96 S114 h96 h114, kp115_2, ih]
   rfl
theorem kp115_4 (x0 x1 x2 x3 x4 x5 x6) : keep [0, 1, 6, 7, 8, 9] (e69 x0 x1 x2 x3 x4 x5 x6) = e72 x0 x1 x2 x3 x4 x5 := by kernel_rfl
def g115_17 (N : Nat) (S96 : s96) (S114 : s114) (k0 : K28 R) (x0 x1 x2 x3 : V0) (x4 x5 x6 : Int) : Option R :=
l115_17 S96 S114 (fun y0 y1 y2 y3 y4 y5 y6 => k0 y0 y1 y2 y3 y4 y5) N x0 x1 x2 x3 x4 x5 x6
theorem t115_17 (S96) (S114) (h96 : (ctr96 S96).holds cl) (h114 : (ctr114 S114).holds cl) (x0 x1 x2 x3 x4 x5 x6) : exec cl N c115_17 (e69 x0 x1 x2 x3 x4 x5 x6) K = g115_17 N S96 S114 (fun y0 y1 y2 y3 y4 y5 => K (.exit 2) (e72 y0 y1 y2 y3 y4 y5)) x0 x1 x2 x3 x4 x5 x6 := by
 simp only [c115_17, exec_out, exec_loop, kp115_2, lt115_17 S96 S114 h96 h114, kp115_4]
 rfl
theorem kp115_5 (x0 x1 x2 x3 x4 x5) : keep [0, 1, 6, 7, 8, 9] (e72 x0 x1 x2 x3 x4 x5) = e72 x0 x1 x2 x3 x4 x5 := by kernel_rfl
def g115_19 (k0 : V0 → V0 → V0 → V0 → Int → Int → Bool → Option R) (x0 x1 x2 x3 : V0) (x4 x5 : Int) := k0 x0 x1 x2 x3 x4 x5 (decide (x5 > (0 : Int)))
theorem t115_19 (x0 x1 x2 x3 x4 x5) : exec cl N c115_19 (e72 x0 x1 x2 x3 x4 x5) K = g115_19 (fun y0 y1 y2 y3 y4 y5 y6 => K .normal (e114 y0 y1 y2 y3 y4 y5 y6)) x0 x1 x2 x3 x4 x5 := by kernel_rfl
def g115_20 (S114 : s114) (S119 : s119) (k0 : K28 R) (x0 x1 x2 x3 : V0) (x4 x5 : Int) (x6 : Bool) : Option R :=
(S114 x1 [x5]).bind fun r603 =>
(S119 x3 r603).bind fun r604 =>
k0 x0 x1 x2 r604 x4 x5
theorem t115_20 (S114) (S119) (h114 : (ctr114 S114).holds cl) (h119 : (ctr119 S119).holds cl) (x0 x1 x2 x3 x4 x5 x6) : exec cl N c115_20 (e114 x0 x1 x2 x3 x4 x5 x6) K = g115_20 S114 S119 (fun y0 y1 y2 y3 y4 y5 => K .normal (e72 y0 y1 y2 y3 y4 y5)) x0 x1 x2 x3 x4 x5 x6 := by
 rw [← put_eq h114]
 rw [← put_eq h119]
 kernel_rfl
theorem kp115_6 (x0 x1 x2 x3 x4 x5 x6) : keep [0, 1, 6, 7, 8, 9] (e114 x0 x1 x2 x3 x4 x5 x6) = e72 x0 x1 x2 x3 x4 x5 := by kernel_rfl
theorem hb115_3 (x0 x1 x2 x3 x4 x5 x6) : boolOf? (ent (e114 x0 x1 x2 x3 x4 x5 x6) (.t 46)) = some x6 := by kernel_rfl
def g115_22 (S114 : s114) (S119 : s119) (k0 : K28 R) (x0 x1 x2 x3 : V0) (x4 x5 : Int) := (g115_19 (fun y0 y1 y2 y3 y4 y5 y6 => brB y6 (g115_20 S114 S119 k0 y0 y1 y2 y3 y4 y5 y6) (k0 y0 y1 y2 y3 y4 y5)) x0 x1 x2 x3 x4 x5)
theorem t115_22 (S114) (S119) (h114 : (ctr114 S114).holds cl) (h119 : (ctr119 S119).holds cl) (x0 x1 x2 x3 x4 x5) : exec cl N c115_22 (e72 x0 x1 x2 x3 x4 x5) K = g115_22 S114 S119 (fun y0 y1 y2 y3 y4 y5 => K .normal (e72 y0 y1 y2 y3 y4 y5)) x0 x1 x2 x3 x4 x5 := by
 simp only [c115_22, B0, t115_19, c115_21, exec_out, B1, hb115_3, Option.bind_some, t115_20 S114 S119 h114 h119, kp115_5, kp115_6]
 rfl
def g115_23 (k0 : K5 R) (x0 x1 x2 x3 : V0) (x4 x5 : Int) : Option R :=
if x2.length + [x5].length ≤ 17592186044416 then
k0 x0 x1 (x2 ++ [x5]) x3 x4
else none
theorem t115_23 (x0 x1 x2 x3 x4 x5) : exec cl N c115_23 (e72 x0 x1 x2 x3 x4 x5) K = g115_23 (fun y0 y1 y2 y3 y4 => K .normal (e67 y0 y1 y2 y3 y4)) x0 x1 x2 x3 x4 x5 := by kernel_rfl
def g115_26 (k0 : K5 R) (x0 x1 x2 x3 : V0) (x4 : Int) := k0 x0 x1 x2 x3 (IntKind.i64.wrap (x4 - (1 : Int)))
theorem t115_26 (x0 x1 x2 x3 x4) : exec cl N c115_26 (e67 x0 x1 x2 x3 x4) K = g115_26 (fun y0 y1 y2 y3 y4 => K .normal (e67 y0 y1 y2 y3 y4)) x0 x1 x2 x3 x4 := by kernel_rfl
def g115_27 (N : Nat) (S96 : s96) (S114 : s114) (S118 : s118) (S119 : s119) (k0 : K5 R) (k1 : K5 R) (x0 x1 x2 x3 : V0) (x4 : Int) := (g115_3 (fun y0 y1 y2 y3 y4 y5 => brB y5 ((g115_24 S118 (g115_17 N S96 S114 ((g115_22 S114 S119 (g115_23 ((g115_26 k0))))))) y0 y1 y2 y3 y4) (k1 y0 y1 y2 y3 y4)) x0 x1 x2 x3 x4)
theorem t115_27 (S96) (S114) (S118) (S119) (h96 : (ctr96 S96).holds cl) (h114 : (ctr114 S114).holds cl) (h118 : (ctr118 S118).holds cl) (h119 : (ctr119 S119).holds cl) (x0 x1 x2 x3 x4) : exec cl N c115_27 (e67 x0 x1 x2 x3 x4) K = g115_27 N S96 S114 S118 S119 (fun y0 y1 y2 y3 y4 => K .normal (e67 y0 y1 y2 y3 y4)) (fun y0 y1 y2 y3 y4 => K (.exit 0) (e67 y0 y1 y2 y3 y4)) x0 x1 x2 x3 x4 := by
 simp only [c115_27, B0, t115_3, c115_4, exec_out, B1, hb115_0, Option.bind_some, exec_exit, kp115_1, c115_25, B2, t115_24 S118 h118, c115_18, t115_17 S96 S114 h96 h114, kp115_5, t115_22 S114 S119 h114 h119, t115_23, kp115_0, t115_26]
 rfl
def l115_28 {R : Type} (N : Nat) (S96 : s96) (S114 : s114) (S118 : s118) (S119 : s119) (k0 : K5 R) : Nat → V0 → V0 → V0 → V0 → Int → Option R
 | 0, _, _, _, _, _ => none
 | m + 1, x0, x1, x2, x3, x4 => (g115_27 N S96 S114 S118 S119 (l115_28 N S96 S114 S118 S119 k0 m) k0 x0 x1 x2 x3 x4)
theorem lt115_28 (S96) (S114) (S118) (S119) (h96 : (ctr96 S96).holds cl) (h114 : (ctr114 S114).holds cl) (h118 : (ctr118 S118).holds cl) (h119 : (ctr119 S119).holds cl) : ∀ (m) (x0 x1 x2 x3 x4), iter [0, 1, 6, 7, 8] (fun env K => exec cl N c115_27 env K) K m (e67 x0 x1 x2 x3 x4) = l115_28 N S96 S114 S118 S119 (fun y0 y1 y2 y3 y4 => K (.exit 0) (e67 y0 y1 y2 y3 y4)) m x0 x1 x2 x3 x4 := by
 intro m
 induction m with
 | zero => intros; rfl
 | succ m ih =>
   intro x0 x1 x2 x3 x4
   simp only [B3, t115_27 S96 S114 S118 S119 h96 h114 h118 h119, kp115_0, ih]
   rfl
theorem kp115_7 (x0 x1 x2 x3 x4) : keep [6, 7] (e67 x0 x1 x2 x3 x4) = e73 x2 x3 := by kernel_rfl
def g115_28 (N : Nat) (S96 : s96) (S114 : s114) (S118 : s118) (S119 : s119) (k0 : K37 R) (x0 x1 x2 x3 : V0) (x4 : Int) : Option R :=
l115_28 N S96 S114 S118 S119 (fun y0 y1 y2 y3 y4 => k0 y2 y3) N x0 x1 x2 x3 x4
theorem t115_28 (S96) (S114) (S118) (S119) (h96 : (ctr96 S96).holds cl) (h114 : (ctr114 S114).holds cl) (h118 : (ctr118 S118).holds cl) (h119 : (ctr119 S119).holds cl) (x0 x1 x2 x3 x4) : exec cl N c115_28 (e67 x0 x1 x2 x3 x4) K = g115_28 N S96 S114 S118 S119 (fun y0 y1 => K (.exit 0) (e73 y0 y1)) x0 x1 x2 x3 x4 := by
 simp only [c115_28, exec_out, exec_loop, kp115_0, lt115_28 S96 S114 S118 S119 h96 h114 h118 h119, kp115_7]
 rfl
theorem kp115_8 (x0 x1) : keep [6, 7] (e73 x0 x1) = e73 x0 x1 := by kernel_rfl
def g115_32 (S118 : s118) (S120 : s120) (k0 : K37 R) (x0 x1 : V0) : Option R :=
(S120 x0).bind fun r607 =>
(S118 r607).bind fun r608 =>
k0 r608 x1
theorem t115_32 (S118) (S120) (h118 : (ctr118 S118).holds cl) (h120 : (ctr120 S120).holds cl) (x0 x1) : exec cl N c115_32 (e73 x0 x1) K = g115_32 S118 S120 (fun y0 y1 => exec cl N .ret (e74 y0 y1) K) x0 x1 := by
 rw [← put_eq h118]
 rw [← put_eq h120]
 kernel_rfl
def g115_33b (N : Nat) (S96 : s96) (S114 : s114) (S118 : s118) (S119 : s119) (S120 : s120) (k0 : K37 R) (x0 x1 : V0) := (g115_33 (g115_2 (g115_28 N S96 S114 S118 S119 ((g115_32 S118 S120 k0)))) x0 x1)
theorem t115_33b (S96) (S114) (S118) (S119) (S120) (h96 : (ctr96 S96).holds cl) (h114 : (ctr114 S114).holds cl) (h118 : (ctr118 S118).holds cl) (h119 : (ctr119 S119).holds cl) (h120 : (ctr120 S120).holds cl) (x0 x1) : exec cl N c115_33 (e20 x0 x1) K = g115_33b N S96 S114 S118 S119 S120 (fun y0 y1 => K .ret (e74 y0 y1)) x0 x1 := by
 simp only [B0, t115_33, t115_2, c115_29, exec_out, B2, t115_28 S96 S114 S118 S119 h96 h114 h118 h119, kp115_8, t115_32 S118 S120 h118 h120, exec_ret]
 rfl
theorem rk115_0 (y0 y1) : retK d115 .ret (e74 y0 y1) = some [.v U2 y0, .v U2 y1] := by kernel_rfl
def g115 (N : Nat) (S96 : s96) (S114 : s114) (S118 : s118) (S119 : s119) (S120 : s120) (x0 x1 : V0) (k : V0 → V0 → Option R) := (g115_33b N S96 S114 S118 S119 S120 k x0 x1)
theorem gen115 (S96) (S114) (S118) (S119) (S120) (h96 : (ctr96 S96).holds cl) (h114 : (ctr114 S114).holds cl) (h118 : (ctr118 S118).holds cl) (h119 : (ctr119 S119).holds cl) (h120 : (ctr120 S120).holds cl) (x0 x1) (k : List E → Option R) : exec cl N c115 (e20 x0 x1) (fun e env => (retK d115 e env).bind k) = g115 N S96 S114 S118 S119 S120 x0 x1 (fun r0 r1 => k [.v U2 r0, .v U2 r1]) := by
 simp only [c115, t115_33b S96 S114 S118 S119 S120 h96 h114 h118 h119 h120, rk115_0, Option.bind_some]
 rfl
def ctr115 (S : s115) : Ctr := cv2 115 U2 U2 S fun b => [.v U2 b.1, .v U2 b.2]
def S115 (N : Nat) (x0 : V0) (x1 : V0) : Option V8 := g115 N (S96 N) (S114 N) (S118 N) (S119 N) (S120 N) x0 x1 (fun r0 r1 => some (r0, r1))
def g105_6 (S118 : s118) (k0 : V0 → V5 → Option R) (x0 : V0) : Option R :=
(S118 x0).bind fun r613 =>
k0 r613 ([], ())
theorem t105_6 (S118) (h118 : (ctr118 S118).holds cl) (x0) : exec cl N c105_6 [(0, .v U2 x0)] K = g105_6 S118 (fun y0 y1 => exec cl N (.seq (.seq c105_2 c105_4) (.seq c105_5 .ret)) (e115 y0 y1) K) x0 := by
 rw [← put_eq h118]
 kernel_rfl
def g105_2 (k0 : V0 → V5 → Bool → Option R) (x0 : V0) (x1 : V5) := k0 x0 x1 ((x0.length : Int) == (0 : Int))
theorem t105_2 (x0 x1) : exec cl N c105_2 (e115 x0 x1) K = g105_2 (fun y0 y1 y2 => K .normal (e116 y0 y1 y2)) x0 x1 := by kernel_rfl
def g105_3 (k0 : K46 R) (x0 : V0) (x1 : V5) (x2 : Bool) := k0 ([], ())
theorem t105_3 (x0 x1 x2) : exec cl N c105_3 (e116 x0 x1 x2) K = g105_3 (fun y0 => K .normal [(2, .loc U5 (.pair (.own true 3 .no) .no) y0)]) x0 x1 x2 := by kernel_rfl
theorem kp105_0 (x0) : keep [0, 2] [(2, .loc U5 (.pair (.own true 3 .no) .no) x0)] = e117 x0 := by kernel_rfl
theorem kp105_1 (x0 x1 x2) : keep [0, 2] (e116 x0 x1 x2) = e115 x0 x1 := by kernel_rfl
theorem hb105_0 (x0 x1 x2) : boolOf? (ent (e116 x0 x1 x2) (.t 7)) = some x2 := by kernel_rfl
def g105_5 (k0 : K46 R) (x0 : V0) (x1 : V5) := k0 (x0, ())
theorem t105_5 (x0 x1) : exec cl N c105_5 (e115 x0 x1) K = g105_5 (fun y0 => K .normal [(2, .loc U5 .no y0)]) x0 x1 := by kernel_rfl
def g105_6b (S118 : s118) (k0 : K46 R) (k1 : K46 R) (x0 : V0) := (g105_6 S118 (g105_2 (fun y0 y1 y2 => brB y2 (g105_3 k0 y0 y1 y2) ((g105_5 k1) y0 y1))) x0)
theorem t105_6b (S118) (h118 : (ctr118 S118).holds cl) (x0) : exec cl N c105_6 [(0, .v U2 x0)] K = g105_6b S118 (fun y0 => K .ret (e117 y0)) (fun y0 => K .ret [(2, .loc U5 .no y0)]) x0 := by
 simp only [B0, t105_6 S118 h118, t105_2, c105_4, exec_out, B1, hb105_0, Option.bind_some, t105_3, exec_ret, kp105_0, kp105_1, t105_5]
 rfl
theorem rk105_0 (y0) : retK d105 .ret (e117 y0) = some [.v U5 y0] := by kernel_rfl
theorem rk105_1 (y0) : retK d105 .ret [(2, .loc U5 .no y0)] = some [.v U5 y0] := by kernel_rfl
def g105 (S118 : s118) (x0 : V0) (k : V5 → Option R) := (g105_6b S118 k k x0)
theorem gen105 (S118) (h118 : (ctr118 S118).holds cl) (x0) (k : List E → Option R) : exec cl N c105 [(0, .v U2 x0)] (fun e env => (retK d105 e env).bind k) = g105 S118 x0 (fun r0 => k [.v U5 r0]) := by
 simp only [c105, t105_6b S118 h118, rk105_0, rk105_1, Option.bind_some]
 rfl
def ctr105 (S : s105) : Ctr := cv1 105 U2 S fun b => [.v U5 b]
def S105 (N : Nat) (x0 : V0) : Option V7 := g105 (S118 N) x0 (fun r0 => some (r0))
def g101_0 (k0 : K35 R) (x0 x1 : V5) := k0 x0 x1 ([], ())
theorem t101_0 (x0 x1) : exec cl N c101_0 (e41 x0 x1) K = g101_0 (fun y0 y1 y2 => K .normal (e42 y0 y1 y2)) x0 x1 := by kernel_rfl
def g101_1 (S75 : s75) (k0 : K20 R) (x0 x1 x2 : V5) : Option R :=
(S75 x0).bind fun r616 =>
brB (!r616) (k0 x0 x1 x2 true) ((S75 x1).bind fun r617 =>
k0 x0 x1 x2 (!r617))
theorem t101_1 (S75) (h75 : (ctr75 S75).holds cl) (x0 x1 x2) : exec cl N c101_1 (e42 x0 x1 x2) K = g101_1 S75 (fun y0 y1 y2 y3 => K .normal (e118 y0 y1 y2 y3)) x0 x1 x2 := by
 rw [← put_eq h75]
 kernel_rfl
def g101_2 (k0 : K3 R) (x0 x1 x2 : V5) (x3 : Bool) := k0 ([], ()) (1 : Int)
theorem t101_2 (x0 x1 x2 x3) : exec cl N c101_2 (e118 x0 x1 x2 x3) K = g101_2 (fun y0 y1 => K .normal (e44 y0 y1)) x0 x1 x2 x3 := by kernel_rfl
theorem kp101_0 (x0 x1) : keep [2, 3, 4, 5] (e44 x0 x1) = e45 x0 x1 := by kernel_rfl
theorem kp101_1 (x0 x1 x2 x3) : keep [2, 3, 4, 5] (e118 x0 x1 x2 x3) = e46 x0 x1 x2 := by kernel_rfl
theorem hb101_0 (x0 x1 x2 x3) : boolOf? (ent (e118 x0 x1 x2 x3) (.t 17)) = some x3 := by kernel_rfl
def g101_4 (S117 : s117) (k0 : K40 R) (x0 x1 x2 : V5) : Option R :=
(S117 x0.1).bind fun r618 =>
(S117 x1.1).bind fun r619 =>
k0 x2 r618 r619
theorem t101_4 (S117) (h117 : (ctr117 S117).holds cl) (x0 x1 x2) : exec cl N c101_4 (e46 x0 x1 x2) K = g101_4 S117 (fun y0 y1 y2 => K .normal (e47 y0 y1 y2)) x0 x1 x2 := by
 rw [← put_eq h117]
 kernel_rfl
theorem kp101_2 (x0 x1 x2) : keep [4, 6, 7] (e47 x0 x1 x2) = e47 x0 x1 x2 := by kernel_rfl
def g101_5 (k0 : V5 → V0 → V0 → Bool → Option R) (x0 : V5) (x1 x2 : V0) := k0 x0 x1 x2 (decide ((x2.length : Int) > (0 : Int)))
theorem t101_5 (x0 x1 x2) : exec cl N c101_5 (e47 x0 x1 x2) K = g101_5 (fun y0 y1 y2 y3 => K .normal (e119 y0 y1 y2 y3)) x0 x1 x2 := by kernel_rfl
theorem kp101_3 (x0 x1 x2 x3) : keep [4, 6, 7] (e119 x0 x1 x2 x3) = e47 x0 x1 x2 := by kernel_rfl
theorem hb101_1 (x0 x1 x2 x3) : boolOf? (ent (e119 x0 x1 x2 x3) (.t 27)) = some x3 := by kernel_rfl
def g101_9 (S115 : s115) (k0 : K40 R) (x0 : V5) (x1 x2 : V0) : Option R :=
(S115 x1 x2).bind fun r622 =>
k0 x0 x2 r622.2
theorem t101_9 (S115) (h115 : (ctr115 S115).holds cl) (x0 x1 x2) : exec cl N c101_9 (e47 x0 x1 x2) K = g101_9 S115 (fun y0 y1 y2 => K .normal (e47 y0 y1 y2)) x0 x1 x2 := by
 rw [← put_eq h115]
 kernel_rfl
def g101_11 (S115 : s115) (k0 : K40 R) (k1 : K40 R) (x0 : V5) (x1 x2 : V0) := (g101_5 (fun y0 y1 y2 y3 => brB y3 ((g101_9 S115 k0) y0 y1 y2) (k1 y0 y1 y2)) x0 x1 x2)
theorem t101_11 (S115) (h115 : (ctr115 S115).holds cl) (x0 x1 x2) : exec cl N c101_11 (e47 x0 x1 x2) K = g101_11 S115 (fun y0 y1 y2 => K .normal (e47 y0 y1 y2)) (fun y0 y1 y2 => K (.exit 0) (e47 y0 y1 y2)) x0 x1 x2 := by
 simp only [c101_11, B0, t101_5, c101_6, exec_out, B1, hb101_1, Option.bind_some, exec_exit, kp101_3, c101_10, B2, t101_9 S115 h115, kp101_2]
 rfl
def l101_12 {R : Type} (S115 : s115) (k0 : K40 R) : Nat → V5 → V0 → V0 → Option R
 | 0, _, _, _ => none
 | m + 1, x0, x1, x2 => (g101_11 S115 (l101_12 S115 k0 m) k0 x0 x1 x2)
theorem lt101_12 (S115) (h115 : (ctr115 S115).holds cl) : ∀ (m) (x0 x1 x2), iter [4, 6, 7] (fun env K => exec cl N c101_11 env K) K m (e47 x0 x1 x2) = l101_12 S115 (fun y0 y1 y2 => K (.exit 0) (e47 y0 y1 y2)) m x0 x1 x2 := by
 intro m
 induction m with
 | zero => intros; rfl
 | succ m ih =>
   intro x0 x1 x2
   simp only [B3, t101_11 S115 h115, kp101_2, ih]
   rfl
theorem kp101_4 (x0 x1 x2) : keep [4, 6] (e47 x0 x1 x2) = e120 x0 x1 := by kernel_rfl
def g101_12 (N : Nat) (S115 : s115) (k0 : V5 → V0 → Option R) (x0 : V5) (x1 x2 : V0) : Option R :=
l101_12 S115 (fun y0 y1 y2 => k0 y0 y1) N x0 x1 x2
theorem t101_12 (S115) (h115 : (ctr115 S115).holds cl) (x0 x1 x2) : exec cl N c101_12 (e47 x0 x1 x2) K = g101_12 N S115 (fun y0 y1 => K (.exit 0) (e120 y0 y1)) x0 x1 x2 := by
 simp only [c101_12, exec_out, exec_loop, kp101_2, lt101_12 S115 h115, kp101_4]
 rfl
theorem kp101_5 (x0 x1) : keep [4, 6] (e120 x0 x1) = e120 x0 x1 := by kernel_rfl
def g101_14 (S105 : s105) (k0 : K3 R) (x0 : V5) (x1 : V0) : Option R :=
(S105 x1).bind fun r623 =>
k0 r623 (0 : Int)
theorem t101_14 (S105) (h105 : (ctr105 S105).holds cl) (x0 x1) : exec cl N c101_14 (e120 x0 x1) K = g101_14 S105 (fun y0 y1 => K .normal (e49 y0 y1)) x0 x1 := by
 rw [← put_eq h105]
 kernel_rfl
def g101_15 (N : Nat) (S75 : s75) (S105 : s105) (S115 : s115) (S117 : s117) (k0 : K3 R) (k1 : K3 R) (x0 x1 : V5) := (g101_0 (g101_1 S75 (fun y0 y1 y2 y3 => brB y3 (g101_2 k0 y0 y1 y2 y3) ((g101_4 S117 (g101_12 N S115 ((g101_14 S105 k1)))) y0 y1 y2))) x0 x1)
theorem t101_15 (S75) (S105) (S115) (S117) (h75 : (ctr75 S75).holds cl) (h105 : (ctr105 S105).holds cl) (h115 : (ctr115 S115).holds cl) (h117 : (ctr117 S117).holds cl) (x0 x1) : exec cl N c101_15 (e41 x0 x1) K = g101_15 N S75 S105 S115 S117 (fun y0 y1 => K .ret (e45 y0 y1)) (fun y0 y1 => K .ret (e49 y0 y1)) x0 x1 := by
 simp only [c101_15, B0, t101_0, t101_1 S75 h75, c101_3, exec_out, B1, hb101_0, Option.bind_some, t101_2, exec_ret, kp101_0, kp101_1, t101_4 S117 h117, c101_13, B2, t101_12 S115 h115, kp101_5, t101_14 S105 h105]
 rfl
theorem rk101_0 (y0 y1) : retK d101 .ret (e45 y0 y1) = some [.v U5 y0, .v U1 y1] := by kernel_rfl
theorem rk101_1 (y0 y1) : retK d101 .ret (e49 y0 y1) = some [.v U5 y0, .v U1 y1] := by kernel_rfl
def g101 (N : Nat) (S75 : s75) (S105 : s105) (S115 : s115) (S117 : s117) (x0 x1 : V5) (k : V5 → Int → Option R) := (g101_15 N S75 S105 S115 S117 k k x0 x1)
theorem gen101 (S75) (S105) (S115) (S117) (h75 : (ctr75 S75).holds cl) (h105 : (ctr105 S105).holds cl) (h115 : (ctr115 S115).holds cl) (h117 : (ctr117 S117).holds cl) (x0 x1) (k : List E → Option R) : exec cl N c101 (e41 x0 x1) (fun e env => (retK d101 e env).bind k) = g101 N S75 S105 S115 S117 x0 x1 (fun r0 r1 => k [.v U5 r0, .v U1 r1]) := by
 simp only [c101, t101_15 S75 S105 S115 S117 h75 h105 h115 h117, rk101_0, rk101_1, Option.bind_some]
 rfl
def ctr101 (S : s101) : Ctr := cv2 101 U5 U5 S fun b => [.v U5 b.1, .v U1 b.2]
def S101 (N : Nat) (x0 : V5) (x1 : V5) : Option V9 := g101 N (S75 N) (S105 N) (S115 N) (S117 N) x0 x1 (fun r0 r1 => some (r0, r1))
def g81_0 (k0 : Int → V5 → Option R) (x0 : Int) := k0 x0 ([], ())
theorem t81_0 (x0) : exec cl N c81_0 [(0, .v U1 x0)] K = g81_0 (fun y0 y1 => K .normal (e0 y0 y1)) x0 := by kernel_rfl
def g81_1 (k0 : Int → V5 → Bool → Option R) (x0 : Int) (x1 : V5) := k0 x0 x1 (decide (x0 < (0 : Int)))
theorem t81_1 (x0 x1) : exec cl N c81_1 (e0 x0 x1) K = g81_1 (fun y0 y1 y2 => K .normal (e1 y0 y1 y2)) x0 x1 := by kernel_rfl
def g81_2 (k0 : K3 R) (x0 : Int) (x1 : V5) (x2 : Bool) := k0 ([], ()) (6 : Int)
theorem t81_2 (x0 x1 x2) : exec cl N c81_2 (e1 x0 x1 x2) K = g81_2 (fun y0 y1 => K .normal (e2 y0 y1)) x0 x1 x2 := by kernel_rfl
theorem kp81_0 (x0 x1) : keep [0, 2, 3] (e2 x0 x1) = e3 x0 x1 := by kernel_rfl
theorem kp81_1 (x0 x1 x2) : keep [0, 2, 3] (e1 x0 x1 x2) = e4 x0 x1 := by kernel_rfl
theorem hb81_0 (x0 x1 x2) : boolOf? (ent (e1 x0 x1 x2) (.t 6)) = some x2 := by kernel_rfl
def g81_4 (k0 : K24 R) (x0 : Int) (x1 : V5) := k0 x0 x1 []
theorem t81_4 (x0 x1) : exec cl N c81_4 (e4 x0 x1) K = g81_4 (fun y0 y1 y2 => K .normal (e5 y0 y1 y2)) x0 x1 := by kernel_rfl
theorem kp81_2 (x0 x1 x2) : keep [0, 2, 4] (e5 x0 x1 x2) = e5 x0 x1 x2 := by kernel_rfl
def g81_5 (k0 : Int → V5 → V0 → Bool → Option R) (x0 : Int) (x1 : V5) (x2 : V0) := k0 x0 x1 x2 (decide (x0 > (0 : Int)))
theorem t81_5 (x0 x1 x2) : exec cl N c81_5 (e5 x0 x1 x2) K = g81_5 (fun y0 y1 y2 y3 => K .normal (e6 y0 y1 y2 y3)) x0 x1 x2 := by kernel_rfl
theorem kp81_3 (x0 x1 x2 x3) : keep [0, 2, 4] (e6 x0 x1 x2 x3) = e5 x0 x1 x2 := by kernel_rfl
theorem hb81_1 (x0 x1 x2 x3) : boolOf? (ent (e6 x0 x1 x2 x3) (.t 9)) = some x3 := by kernel_rfl
def g81_7 (k0 : K24 R) (x0 : Int) (x1 : V5) (x2 : V0) : Option R :=
let v634 : Int := (Int.tmod x0 (10000 : Int))
if x2.length + [v634].length ≤ 17592186044416 then
k0 x0 x1 (x2 ++ [v634])
else none
theorem t81_7 (x0 x1 x2) : exec cl N c81_7 (e5 x0 x1 x2) K = g81_7 (fun y0 y1 y2 => K .normal (e5 y0 y1 y2)) x0 x1 x2 := by kernel_rfl
def g81_9 (k0 : K24 R) (x0 : Int) (x1 : V5) (x2 : V0) := k0 (IntKind.i64.wrap (Int.tdiv x0 (10000 : Int))) x1 x2
theorem t81_9 (x0 x1 x2) : exec cl N c81_9 (e5 x0 x1 x2) K = g81_9 (fun y0 y1 y2 => K .normal (e5 y0 y1 y2)) x0 x1 x2 := by kernel_rfl
def g81_10 (k0 : K24 R) (k1 : K24 R) (x0 : Int) (x1 : V5) (x2 : V0) := (g81_5 (fun y0 y1 y2 y3 => brB y3 ((g81_7 ((g81_9 k0))) y0 y1 y2) (k1 y0 y1 y2)) x0 x1 x2)
theorem t81_10 (x0 x1 x2) : exec cl N c81_10 (e5 x0 x1 x2) K = g81_10 (fun y0 y1 y2 => K .normal (e5 y0 y1 y2)) (fun y0 y1 y2 => K (.exit 0) (e5 y0 y1 y2)) x0 x1 x2 := by
 simp only [c81_10, B0, t81_5, c81_6, exec_out, B1, hb81_1, Option.bind_some, exec_exit, kp81_3, c81_8, B2, t81_7, kp81_2, t81_9]
 rfl
def l81_11 {R : Type} (k0 : K24 R) : Nat → Int → V5 → V0 → Option R
 | 0, _, _, _ => none
 | m + 1, x0, x1, x2 => (g81_10 (l81_11 k0 m) k0 x0 x1 x2)
theorem lt81_11 : ∀ (m) (x0 x1 x2), iter [0, 2, 4] (fun env K => exec cl N c81_10 env K) K m (e5 x0 x1 x2) = l81_11 (fun y0 y1 y2 => K (.exit 0) (e5 y0 y1 y2)) m x0 x1 x2 := by
 intro m
 induction m with
 | zero => intros; rfl
 | succ m ih =>
   intro x0 x1 x2
   simp only [B3, t81_10, kp81_2, ih]
   rfl
theorem kp81_4 (x0 x1 x2) : keep [2, 4] (e5 x0 x1 x2) = e7 x1 x2 := by kernel_rfl
def g81_11 (N : Nat) (k0 : V5 → V0 → Option R) (x0 : Int) (x1 : V5) (x2 : V0) : Option R :=
l81_11 (fun y0 y1 y2 => k0 y1 y2) N x0 x1 x2
theorem t81_11 (x0 x1 x2) : exec cl N c81_11 (e5 x0 x1 x2) K = g81_11 N (fun y0 y1 => K (.exit 0) (e7 y0 y1)) x0 x1 x2 := by
 simp only [c81_11, exec_out, exec_loop, kp81_2, lt81_11, kp81_4]
 rfl
theorem kp81_5 (x0 x1) : keep [2, 4] (e7 x0 x1) = e7 x0 x1 := by kernel_rfl
def g81_13 (S105 : s105) (k0 : K3 R) (x0 : V5) (x1 : V0) : Option R :=
(S105 x1).bind fun r636 =>
k0 r636 (0 : Int)
theorem t81_13 (S105) (h105 : (ctr105 S105).holds cl) (x0 x1) : exec cl N c81_13 (e7 x0 x1) K = g81_13 S105 (fun y0 y1 => K .normal (e8 y0 y1)) x0 x1 := by
 rw [← put_eq h105]
 kernel_rfl
def g81_14 (N : Nat) (S105 : s105) (k0 : K3 R) (k1 : K3 R) (x0 : Int) := (g81_0 (g81_1 (fun y0 y1 y2 => brB y2 (g81_2 k0 y0 y1 y2) ((g81_4 (g81_11 N ((g81_13 S105 k1)))) y0 y1))) x0)
theorem t81_14 (S105) (h105 : (ctr105 S105).holds cl) (x0) : exec cl N c81_14 [(0, .v U1 x0)] K = g81_14 N S105 (fun y0 y1 => K .ret (e3 y0 y1)) (fun y0 y1 => K .ret (e8 y0 y1)) x0 := by
 simp only [c81_14, B0, t81_0, t81_1, c81_3, exec_out, B1, hb81_0, Option.bind_some, t81_2, exec_ret, kp81_0, kp81_1, t81_4, c81_12, B2, t81_11, kp81_5, t81_13 S105 h105]
 rfl
theorem rk81_0 (y0 y1) : retK d81 .ret (e3 y0 y1) = some [.v U5 y0, .v U1 y1] := by kernel_rfl
theorem rk81_1 (y0 y1) : retK d81 .ret (e8 y0 y1) = some [.v U5 y0, .v U1 y1] := by kernel_rfl
def g81 (N : Nat) (S105 : s105) (x0 : Int) (k : V5 → Int → Option R) := (g81_14 N S105 k k x0)
theorem gen81 (S105) (h105 : (ctr105 S105).holds cl) (x0) (k : List E → Option R) : exec cl N c81 [(0, .v U1 x0)] (fun e env => (retK d81 e env).bind k) = g81 N S105 x0 (fun r0 r1 => k [.v U5 r0, .v U1 r1]) := by
 simp only [c81, t81_14 S105 h105, rk81_0, rk81_1, Option.bind_some]
 rfl
def ctr81 (S : s81) : Ctr := cv1 81 U1 S fun b => [.v U5 b.1, .v U1 b.2]
def S81 (N : Nat) (x0 : Int) : Option V9 := g81 N (S105 N) x0 (fun r0 r1 => some (r0, r1))
def g95_3 (S81 : s81) (k0 : K46 R) (x0 : Int) : Option R :=
(S81 x0).bind fun r640 =>
k0 r640.1
theorem t95_3 (S81) (h81 : (ctr81 S81).holds cl) (x0) : exec cl N c95_3 [(0, .v U1 x0)] K = g95_3 S81 (fun y0 => exec cl N .ret [(2, .loc U5 .no y0)] K) x0 := by
 rw [← put_eq h81]
 kernel_rfl
def g95_3b (S81 : s81) (k0 : K46 R) (x0 : Int) := (g95_3 S81 k0 x0)
theorem t95_3b (S81) (h81 : (ctr81 S81).holds cl) (x0) : exec cl N c95_3 [(0, .v U1 x0)] K = g95_3b S81 (fun y0 => K .ret [(2, .loc U5 .no y0)]) x0 := by
 simp only [B0, t95_3 S81 h81, exec_ret]
 rfl
theorem rk95_0 (y0) : retK d95 .ret [(2, .loc U5 .no y0)] = some [.v U5 y0] := by kernel_rfl
def g95 (S81 : s81) (x0 : Int) (k : V5 → Option R) := (g95_3b S81 k x0)
theorem gen95 (S81) (h81 : (ctr81 S81).holds cl) (x0) (k : List E → Option R) : exec cl N c95 [(0, .v U1 x0)] (fun e env => (retK d95 e env).bind k) = g95 S81 x0 (fun r0 => k [.v U5 r0]) := by
 simp only [c95, t95_3b S81 h81, rk95_0, Option.bind_some]
 rfl
def ctr95 (S : s95) : Ctr := cv1 95 U1 S fun b => [.v U5 b]
def S95 (N : Nat) (x0 : Int) : Option V7 := g95 (S81 N) x0 (fun r0 => some (r0))
def g69_2 (S96 : s96) (k0 : K21 R) (x0 x1 : V5) : Option R :=
(S96 x0.1 x1.1).bind fun r643 =>
k0 r643
theorem t69_2 (S96) (h96 : (ctr96 S96).holds cl) (x0 x1) : exec cl N c69_2 (e41 x0 x1) K = g69_2 S96 (fun y0 => exec cl N .ret [(4, .v U1 y0)] K) x0 x1 := by
 rw [← put_eq h96]
 kernel_rfl
def g69_2b (S96 : s96) (k0 : K21 R) (x0 x1 : V5) := (g69_2 S96 k0 x0 x1)
theorem t69_2b (S96) (h96 : (ctr96 S96).holds cl) (x0 x1) : exec cl N c69_2 (e41 x0 x1) K = g69_2b S96 (fun y0 => K .ret [(4, .v U1 y0)]) x0 x1 := by
 simp only [B0, t69_2 S96 h96, exec_ret]
 rfl
theorem rk69_0 (y0) : retK d69 .ret [(4, .v U1 y0)] = some [.v U1 y0] := by kernel_rfl
def g69 (S96 : s96) (x0 x1 : V5) (k : Int → Option R) := (g69_2b S96 k x0 x1)
theorem gen69 (S96) (h96 : (ctr96 S96).holds cl) (x0 x1) (k : List E → Option R) : exec cl N c69 (e41 x0 x1) (fun e env => (retK d69 e env).bind k) = g69 S96 x0 x1 (fun r0 => k [.v U1 r0]) := by
 simp only [c69, t69_2b S96 h96, rk69_0, Option.bind_some]
 rfl
def ctr69 (S : s69) : Ctr := cv2 69 U5 U5 S fun b => [.v U1 b]
def S69 (N : Nat) (x0 : V5) (x1 : V5) : Option (Int) := g69 (S96 N) x0 x1 (fun r0 => some (r0))
def g97_0 (k0 : K47 R) (x0 : V16) := k0 x0
theorem t97_0 (x0) : exec cl N c97_0 [(0, .v U12 x0)] K = g97_0 (fun y0 => K .normal [(1, .loc U12 .no y0)]) x0 := by kernel_rfl
def g97_1 (S75 : s75) (S76 : s76) (k0 : V16 → Bool → Option R) (x0 : V16) : Option R :=
(S75 x0.2.1).bind fun r646 =>
brB (!r646) (k0 x0 true) ((S75 x0.2.2.1).bind fun r647 =>
brB (!r647) (k0 x0 true) ((S76 x0.2.2.1).bind fun r648 =>
brB r648 (k0 x0 true) ((S76 x0.2.1).bind fun r649 =>
brB r649 (k0 x0 x0.1) (k0 x0 false))))
theorem t97_1 (S75) (S76) (h75 : (ctr75 S75).holds cl) (h76 : (ctr76 S76).holds cl) (x0) : exec cl N c97_1 [(1, .loc U12 .no x0)] K = g97_1 S75 S76 (fun y0 y1 => K .normal (e121 y0 y1)) x0 := by
 rw [← put_eq h75]
 rw [← put_eq h76]
 kernel_rfl
def g97_2 (k0 : K11 R) (x0 : V16) (x1 : Bool) := k0 false
theorem t97_2 (x0 x1) : exec cl N c97_2 (e121 x0 x1) K = g97_2 (fun y0 => K .normal [(2, .v .bool y0)]) x0 x1 := by kernel_rfl
theorem kp97_0 (x0) : keep [1, 2] [(2, .v .bool x0)] = e122 x0 := by kernel_rfl
theorem kp97_1 (x0 x1) : keep [1, 2] (e121 x0 x1) = e123 x0 := by kernel_rfl
theorem hb97_0 (x0 x1) : boolOf? (ent (e121 x0 x1) (.t 28)) = some x1 := by kernel_rfl
def g97_6 (S69 : s69) (S95 : s95) (S101 : s101) (k0 : K11 R) (x0 : V16) : Option R :=
(S101 x0.2.1 x0.2.2.1).bind fun r651 =>
brB (r651.2 == (0 : Int)) ((S95 (1 : Int)).bind fun r653 =>
(S69 r651.1 r653).bind fun r654 =>
k0 (r654 == (0 : Int))) (k0 false)
theorem t97_6 (S69) (S95) (S101) (h69 : (ctr69 S69).holds cl) (h95 : (ctr95 S95).holds cl) (h101 : (ctr101 S101).holds cl) (x0) : exec cl N c97_6 (e123 x0) K = g97_6 S69 S95 S101 (fun y0 => exec cl N .ret [(2, .v .bool y0)] K) x0 := by
 rw [← put_eq h69]
 rw [← put_eq h95]
 rw [← put_eq h101]
 kernel_rfl
def g97_7 (S69 : s69) (S75 : s75) (S76 : s76) (S95 : s95) (S101 : s101) (k0 : K11 R) (k1 : K11 R) (x0 : V16) := (g97_0 (g97_1 S75 S76 (fun y0 y1 => brB y1 (g97_2 k0 y0 y1) ((g97_6 S69 S95 S101 k1) y0))) x0)
theorem t97_7 (S69) (S75) (S76) (S95) (S101) (h69 : (ctr69 S69).holds cl) (h75 : (ctr75 S75).holds cl) (h76 : (ctr76 S76).holds cl) (h95 : (ctr95 S95).holds cl) (h101 : (ctr101 S101).holds cl) (x0) : exec cl N c97_7 [(0, .v U12 x0)] K = g97_7 S69 S75 S76 S95 S101 (fun y0 => K .ret (e122 y0)) (fun y0 => K .ret [(2, .v .bool y0)]) x0 := by
 simp only [c97_7, B0, t97_0, t97_1 S75 S76 h75 h76, c97_3, exec_out, B1, hb97_0, Option.bind_some, t97_2, exec_ret, kp97_0, kp97_1, t97_6 S69 S95 S101 h69 h95 h101]
 rfl
theorem rk97_0 (y0) : retK d97 .ret (e122 y0) = some [.v .bool y0] := by kernel_rfl
theorem rk97_1 (y0) : retK d97 .ret [(2, .v .bool y0)] = some [.v .bool y0] := by kernel_rfl
def g97 (S69 : s69) (S75 : s75) (S76 : s76) (S95 : s95) (S101 : s101) (x0 : V16) (k : Bool → Option R) := (g97_7 S69 S75 S76 S95 S101 k k x0)
theorem gen97 (S69) (S75) (S76) (S95) (S101) (h69 : (ctr69 S69).holds cl) (h75 : (ctr75 S75).holds cl) (h76 : (ctr76 S76).holds cl) (h95 : (ctr95 S95).holds cl) (h101 : (ctr101 S101).holds cl) (x0) (k : List E → Option R) : exec cl N c97 [(0, .v U12 x0)] (fun e env => (retK d97 e env).bind k) = g97 S69 S75 S76 S95 S101 x0 (fun r0 => k [.v .bool r0]) := by
 simp only [c97, t97_7 S69 S75 S76 S95 S101 h69 h75 h76 h95 h101, rk97_0, rk97_1, Option.bind_some]
 rfl
def ctr97 (S : s97) : Ctr := cv1 97 U12 S fun b => [.v .bool b]
def S97 (N : Nat) (x0 : V16) : Option (Bool) := g97 (S69 N) (S75 N) (S76 N) (S95 N) (S101 N) x0 (fun r0 => some (r0))
def g49_3 (S81 : s81) (k0 : K46 R) (x0 : Int) : Option R :=
(S81 x0).bind fun r662 =>
k0 r662.1
theorem t49_3 (S81) (h81 : (ctr81 S81).holds cl) (x0) : exec cl N c49_3 [(0, .v U1 x0)] K = g49_3 S81 (fun y0 => exec cl N .ret [(2, .loc U5 .no y0)] K) x0 := by
 rw [← put_eq h81]
 kernel_rfl
def g49_3b (S81 : s81) (k0 : K46 R) (x0 : Int) := (g49_3 S81 k0 x0)
theorem t49_3b (S81) (h81 : (ctr81 S81).holds cl) (x0) : exec cl N c49_3 [(0, .v U1 x0)] K = g49_3b S81 (fun y0 => K .ret [(2, .loc U5 .no y0)]) x0 := by
 simp only [B0, t49_3 S81 h81, exec_ret]
 rfl
theorem rk49_0 (y0) : retK d49 .ret [(2, .loc U5 .no y0)] = some [.v U5 y0] := by kernel_rfl
def g49 (S81 : s81) (x0 : Int) (k : V5 → Option R) := (g49_3b S81 k x0)
theorem gen49 (S81) (h81 : (ctr81 S81).holds cl) (x0) (k : List E → Option R) : exec cl N c49 [(0, .v U1 x0)] (fun e env => (retK d49 e env).bind k) = g49 S81 x0 (fun r0 => k [.v U5 r0]) := by
 simp only [c49, t49_3b S81 h81, rk49_0, Option.bind_some]
 rfl
def ctr49 (S : s49) : Ctr := cv1 49 U1 S fun b => [.v U5 b]
def S49 (N : Nat) (x0 : Int) : Option V7 := g49 (S81 N) x0 (fun r0 => some (r0))
def g98_0 (k0 : K46 R) (x0 : V5) := k0 x0
theorem t98_0 (x0) : exec cl N c98_0 [(0, .v U5 x0)] K = g98_0 (fun y0 => K .normal [(1, .loc U5 .no y0)]) x0 := by kernel_rfl
def g98_1 (k0 : V5 → Bool → Option R) (x0 : V5) := k0 x0 ((x0.1.length : Int) == (0 : Int))
theorem t98_1 (x0) : exec cl N c98_1 [(1, .loc U5 .no x0)] K = g98_1 (fun y0 y1 => K .normal (e124 y0 y1)) x0 := by kernel_rfl
def g98_2 (k0 : K21 R) (x0 : V5) (x1 : Bool) := k0 (0 : Int)
theorem t98_2 (x0 x1) : exec cl N c98_2 (e124 x0 x1) K = g98_2 (fun y0 => K .normal [(2, .v U1 y0)]) x0 x1 := by kernel_rfl
theorem kp98_0 (x0) : keep [1, 2] [(2, .v U1 x0)] = [(1, .dead), (2, .v U1 x0)] := by kernel_rfl
theorem kp98_1 (x0 x1) : keep [1, 2] (e124 x0 x1) = [(1, .loc U5 .no x0), (2, .dead)] := by kernel_rfl
theorem hb98_0 (x0 x1) : boolOf? (ent (e124 x0 x1) (.t 6)) = some x1 := by kernel_rfl
def g98_4 (k0 : K21 R) (x0 : V5) : Option R :=
if 0 ≤ (0 : Int) ∧ (0 : Int) < (x0.1.length : Int) then
k0 (x0.1.getD (0 : Int).toNat (0 : Int))
else none
theorem t98_4 (x0) : exec cl N c98_4 [(1, .loc U5 .no x0), (2, .dead)] K = g98_4 (fun y0 => K .normal [(2, .v U1 y0)]) x0 := by kernel_rfl
def g98_5 (k0 : K21 R) (k1 : K21 R) (x0 : V5) := (g98_0 (g98_1 (fun y0 y1 => brB y1 (g98_2 k0 y0 y1) ((g98_4 k1) y0))) x0)
theorem t98_5 (x0) : exec cl N c98_5 [(0, .v U5 x0)] K = g98_5 (fun y0 => K .ret [(1, .dead), (2, .v U1 y0)]) (fun y0 => K .ret [(2, .v U1 y0)]) x0 := by
 simp only [c98_5, B0, t98_0, t98_1, c98_3, exec_out, B1, hb98_0, Option.bind_some, t98_2, exec_ret, kp98_0, kp98_1, t98_4]
 rfl
theorem rk98_0 (y0) : retK d98 .ret [(1, .dead), (2, .v U1 y0)] = some [.v U1 y0] := by kernel_rfl
theorem rk98_1 (y0) : retK d98 .ret [(2, .v U1 y0)] = some [.v U1 y0] := by kernel_rfl
def g98 (x0 : V5) (k : Int → Option R) := (g98_5 k k x0)
theorem gen98 (x0) (k : List E → Option R) : exec cl N c98 [(0, .v U5 x0)] (fun e env => (retK d98 e env).bind k) = g98 x0 (fun r0 => k [.v U1 r0]) := by
 simp only [c98, t98_5, rk98_0, rk98_1, Option.bind_some]
 rfl
def ctr98 (S : s98) : Ctr := cv1 98 U5 S fun b => [.v U1 b]
def S98 (N : Nat) (x0 : V5) : Option (Int) := g98 x0 (fun r0 => some (r0))
def g74_0 (k0 : K47 R) (x0 : V16) := k0 x0
theorem t74_0 (x0) : exec cl N c74_0 [(0, .v U12 x0)] K = g74_0 (fun y0 => K .normal [(1, .loc U12 .no y0)]) x0 := by kernel_rfl
def g74_1 (S97 : s97) (k0 : V16 → Bool → Option R) (x0 : V16) : Option R :=
(S97 x0).bind fun r670 =>
k0 x0 (!r670)
theorem t74_1 (S97) (h97 : (ctr97 S97).holds cl) (x0) : exec cl N c74_1 [(1, .loc U12 .no x0)] K = g74_1 S97 (fun y0 y1 => K .normal (e125 y0 y1)) x0 := by
 rw [← put_eq h97]
 kernel_rfl
def g74_2 (k0 : K16 R) (x0 : V16) (x1 : Bool) := k0 (0 : Int) (0 : Int) (1 : Int)
theorem t74_2 (x0 x1) : exec cl N c74_2 (e125 x0 x1) K = g74_2 (fun y0 y1 y2 => K .normal (e126 y0 y1 y2)) x0 x1 := by kernel_rfl
theorem kp74_0 (x0 x1 x2) : keep [1, 2, 3, 4] (e126 x0 x1 x2) = e127 x0 x1 x2 := by kernel_rfl
theorem kp74_1 (x0 x1) : keep [1, 2, 3, 4] (e125 x0 x1) = e128 x0 := by kernel_rfl
theorem hb74_0 (x0 x1) : boolOf? (ent (e125 x0 x1) (.t 7)) = some x1 := by kernel_rfl
def g74_4 (S49 : s49) (S69 : s69) (k0 : V16 → Bool → Option R) (x0 : V16) : Option R :=
brB x0.1 (k0 x0 true) ((S69 x0.2.1 x0.2.2.1).bind fun r671 =>
brB (decide (r671 > (0 : Int))) (k0 x0 true) ((S49 (1000 : Int)).bind fun r673 =>
(S69 x0.2.2.1 r673).bind fun r674 =>
k0 x0 (decide (r674 > (0 : Int)))))
theorem t74_4 (S49) (S69) (h49 : (ctr49 S49).holds cl) (h69 : (ctr69 S69).holds cl) (x0) : exec cl N c74_4 (e128 x0) K = g74_4 S49 S69 (fun y0 y1 => K .normal (e129 y0 y1)) x0 := by
 rw [← put_eq h49]
 rw [← put_eq h69]
 kernel_rfl
def g74_5 (k0 : K16 R) (x0 : V16) (x1 : Bool) := k0 (0 : Int) (0 : Int) (6 : Int)
theorem t74_5 (x0 x1) : exec cl N c74_5 (e129 x0 x1) K = g74_5 (fun y0 y1 y2 => K .normal (e126 y0 y1 y2)) x0 x1 := by kernel_rfl
theorem kp74_2 (x0 x1) : keep [1, 2, 3, 4] (e129 x0 x1) = e128 x0 := by kernel_rfl
theorem hb74_1 (x0 x1) : boolOf? (ent (e129 x0 x1) (.t 24)) = some x1 := by kernel_rfl
def g74_7 (S98 : s98) (k0 : K16 R) (x0 : V16) : Option R :=
(S98 x0.2.1).bind fun r676 =>
(S98 x0.2.2.1).bind fun r677 =>
k0 r676 r677 (0 : Int)
theorem t74_7 (S98) (h98 : (ctr98 S98).holds cl) (x0) : exec cl N c74_7 (e128 x0) K = g74_7 S98 (fun y0 y1 y2 => K .normal (e126 y0 y1 y2)) x0 := by
 rw [← put_eq h98]
 kernel_rfl
def g74_8 (S49 : s49) (S69 : s69) (S97 : s97) (S98 : s98) (k0 : K16 R) (k1 : K16 R) (x0 : V16) := (g74_0 (g74_1 S97 (fun y0 y1 => brB y1 (g74_2 k0 y0 y1) ((g74_4 S49 S69 (fun y0 y1 => brB y1 (g74_5 k0 y0 y1) ((g74_7 S98 k1) y0))) y0))) x0)
theorem t74_8 (S49) (S69) (S97) (S98) (h49 : (ctr49 S49).holds cl) (h69 : (ctr69 S69).holds cl) (h97 : (ctr97 S97).holds cl) (h98 : (ctr98 S98).holds cl) (x0) : exec cl N c74_8 [(0, .v U12 x0)] K = g74_8 S49 S69 S97 S98 (fun y0 y1 y2 => K .ret (e127 y0 y1 y2)) (fun y0 y1 y2 => K .ret (e126 y0 y1 y2)) x0 := by
 simp only [c74_8, B0, t74_0, t74_1 S97 h97, c74_3, exec_out, B1, hb74_0, Option.bind_some, t74_2, exec_ret, kp74_0, kp74_1, t74_4 S49 S69 h49 h69, c74_6, hb74_1, t74_5, kp74_2, t74_7 S98 h98]
 rfl
theorem rk74_0 (y0 y1 y2) : retK d74 .ret (e127 y0 y1 y2) = some [.v U1 y0, .v U1 y1, .v U1 y2] := by kernel_rfl
theorem rk74_1 (y0 y1 y2) : retK d74 .ret (e126 y0 y1 y2) = some [.v U1 y0, .v U1 y1, .v U1 y2] := by kernel_rfl
def g74 (S49 : s49) (S69 : s69) (S97 : s97) (S98 : s98) (x0 : V16) (k : Int → Int → Int → Option R) := (g74_8 S49 S69 S97 S98 k k x0)
theorem gen74 (S49) (S69) (S97) (S98) (h49 : (ctr49 S49).holds cl) (h69 : (ctr69 S69).holds cl) (h97 : (ctr97 S97).holds cl) (h98 : (ctr98 S98).holds cl) (x0) (k : List E → Option R) : exec cl N c74 [(0, .v U12 x0)] (fun e env => (retK d74 e env).bind k) = g74 S49 S69 S97 S98 x0 (fun r0 r1 r2 => k [.v U1 r0, .v U1 r1, .v U1 r2]) := by
 simp only [c74, t74_8 S49 S69 S97 S98 h49 h69 h97 h98, rk74_0, rk74_1, Option.bind_some]
 rfl
def ctr74 (S : s74) : Ctr := cv1 74 U12 S fun b => [.v U1 b.1, .v U1 b.2.1, .v U1 b.2.2]
def S74 (N : Nat) (x0 : V16) : Option V4 := g74 (S49 N) (S69 N) (S97 N) (S98 N) x0 (fun r0 r1 r2 => some (r0, r1, r2))
def g43_9 (S74 : s74) (k0 : Int → Int → Int → Int → Int → Int → Int → Option R) (x0 x1 x2 x3 : Int) (x4 : V16) : Option R :=
(S74 x4).bind fun r684 =>
k0 x0 x1 x2 x3 r684.1 r684.2.1 r684.2.2
theorem t43_9 (S74) (h74 : (ctr74 S74).holds cl) (x0 x1 x2 x3 x4) : exec cl N c43_9 (e130 x0 x1 x2 x3 x4) K = g43_9 S74 (fun y0 y1 y2 y3 y4 y5 y6 => exec cl N (.seq (.seq c43_2 c43_4) (.seq (.seq c43_5 c43_7) (.seq c43_8 .ret))) (e131 y0 y1 y2 y3 y4 y5 y6) K) x0 x1 x2 x3 x4 := by
 rw [← put_eq h74]
 kernel_rfl
def g43_2 (k0 : Int → Int → Int → Int → Int → Int → Int → Bool → Option R) (x0 x1 x2 x3 x4 x5 x6 : Int) := k0 x0 x1 x2 x3 x4 x5 x6 (x6 != (0 : Int))
theorem t43_2 (x0 x1 x2 x3 x4 x5 x6) : exec cl N c43_2 (e131 x0 x1 x2 x3 x4 x5 x6) K = g43_2 (fun y0 y1 y2 y3 y4 y5 y6 y7 => K .normal (e132 y0 y1 y2 y3 y4 y5 y6 y7)) x0 x1 x2 x3 x4 x5 x6 := by kernel_rfl
def g43_3 (k0 : K16 R) (x0 x1 x2 x3 x4 x5 x6 : Int) (x7 : Bool) := k0 (0 : Int) (0 : Int) x6
theorem t43_3 (x0 x1 x2 x3 x4 x5 x6 x7) : exec cl N c43_3 (e132 x0 x1 x2 x3 x4 x5 x6 x7) K = g43_3 (fun y0 y1 y2 => K .normal (e133 y0 y1 y2)) x0 x1 x2 x3 x4 x5 x6 x7 := by kernel_rfl
theorem kp43_0 (x0 x1 x2) : keep [0, 1, 2, 3, 10, 11, 12, 13, 14] (e133 x0 x1 x2) = e134 x0 x1 x2 := by kernel_rfl
theorem kp43_1 (x0 x1 x2 x3 x4 x5 x6 x7) : keep [0, 1, 2, 3, 10, 11, 12, 13, 14] (e132 x0 x1 x2 x3 x4 x5 x6 x7) = e135 x0 x1 x2 x3 x4 x5 := by kernel_rfl
theorem hb43_0 (x0 x1 x2 x3 x4 x5 x6 x7) : boolOf? (ent (e132 x0 x1 x2 x3 x4 x5 x6 x7) (.t 23)) = some x7 := by kernel_rfl
def g43_5 (k0 : Int → Int → Bool → Option R) (x0 x1 x2 x3 x4 x5 : Int) : Option R :=
brB (decide (x0 < (0 : Int))) (k0 x4 x5 true) (brB (decide (x0 > x2)) (k0 x4 x5 true) (brB (decide (x1 < (0 : Int))) (k0 x4 x5 true) (k0 x4 x5 (decide (x1 > x3)))))
theorem t43_5 (x0 x1 x2 x3 x4 x5) : exec cl N c43_5 (e135 x0 x1 x2 x3 x4 x5) K = g43_5 (fun y0 y1 y2 => K .normal (e136 y0 y1 y2)) x0 x1 x2 x3 x4 x5 := by kernel_rfl
def g43_6 (k0 : K16 R) (x0 x1 : Int) (x2 : Bool) := k0 (0 : Int) (0 : Int) (6 : Int)
theorem t43_6 (x0 x1 x2) : exec cl N c43_6 (e136 x0 x1 x2) K = g43_6 (fun y0 y1 y2 => K .normal (e133 y0 y1 y2)) x0 x1 x2 := by kernel_rfl
theorem kp43_2 (x0 x1 x2) : keep [10, 11, 12, 13, 14] (e133 x0 x1 x2) = e137 x0 x1 x2 := by kernel_rfl
theorem kp43_3 (x0 x1 x2) : keep [10, 11, 12, 13, 14] (e136 x0 x1 x2) = e138 x0 x1 := by kernel_rfl
theorem hb43_1 (x0 x1 x2) : boolOf? (ent (e136 x0 x1 x2) (.t 40)) = some x2 := by kernel_rfl
def g43_8 (k0 : K16 R) (x0 x1 : Int) := k0 x0 x1 (0 : Int)
theorem t43_8 (x0 x1) : exec cl N c43_8 (e138 x0 x1) K = g43_8 (fun y0 y1 y2 => K .normal (e133 y0 y1 y2)) x0 x1 := by kernel_rfl
def g43_9b (S74 : s74) (k0 : K16 R) (k1 : K16 R) (k2 : K16 R) (x0 x1 x2 x3 : Int) (x4 : V16) := (g43_9 S74 (g43_2 (fun y0 y1 y2 y3 y4 y5 y6 y7 => brB y7 (g43_3 k0 y0 y1 y2 y3 y4 y5 y6 y7) ((g43_5 (fun y0 y1 y2 => brB y2 (g43_6 k1 y0 y1 y2) ((g43_8 k2) y0 y1))) y0 y1 y2 y3 y4 y5))) x0 x1 x2 x3 x4)
theorem t43_9b (S74) (h74 : (ctr74 S74).holds cl) (x0 x1 x2 x3 x4) : exec cl N c43_9 (e130 x0 x1 x2 x3 x4) K = g43_9b S74 (fun y0 y1 y2 => K .ret (e134 y0 y1 y2)) (fun y0 y1 y2 => K .ret (e137 y0 y1 y2)) (fun y0 y1 y2 => K .ret (e133 y0 y1 y2)) x0 x1 x2 x3 x4 := by
 simp only [B0, t43_9 S74 h74, t43_2, c43_4, exec_out, B1, hb43_0, Option.bind_some, t43_3, exec_ret, kp43_0, kp43_1, t43_5, c43_7, hb43_1, t43_6, kp43_2, kp43_3, t43_8]
 rfl
theorem rk43_0 (y0 y1 y2) : retK d43 .ret (e134 y0 y1 y2) = some [.v U1 y0, .v U1 y1, .v U1 y2] := by kernel_rfl
theorem rk43_1 (y0 y1 y2) : retK d43 .ret (e137 y0 y1 y2) = some [.v U1 y0, .v U1 y1, .v U1 y2] := by kernel_rfl
theorem rk43_2 (y0 y1 y2) : retK d43 .ret (e133 y0 y1 y2) = some [.v U1 y0, .v U1 y1, .v U1 y2] := by kernel_rfl
def g43 (S74 : s74) (x0 x1 x2 x3 : Int) (x4 : V16) (k : Int → Int → Int → Option R) := (g43_9b S74 k k k x0 x1 x2 x3 x4)
theorem gen43 (S74) (h74 : (ctr74 S74).holds cl) (x0 x1 x2 x3 x4) (k : List E → Option R) : exec cl N c43 (e130 x0 x1 x2 x3 x4) (fun e env => (retK d43 e env).bind k) = g43 S74 x0 x1 x2 x3 x4 (fun r0 r1 r2 => k [.v U1 r0, .v U1 r1, .v U1 r2]) := by
 simp only [c43, t43_9b S74 h74, rk43_0, rk43_1, rk43_2, Option.bind_some]
 rfl
def ctr43 (S : s43) : Ctr := cv5 43 U1 U1 U1 U1 U12 S fun b => [.v U1 b.1, .v U1 b.2.1, .v U1 b.2.2]
def S43 (N : Nat) (x0 : Int) (x1 : Int) (x2 : Int) (x3 : Int) (x4 : V16) : Option V4 := g43 (S74 N) x0 x1 x2 x3 x4 (fun r0 r1 r2 => some (r0, r1, r2))
def g106_0 (k0 : V0 → V5 → Option R) (x0 : V0) := k0 x0 ([], ())
theorem t106_0 (x0) : exec cl N c106_0 [(0, .v U2 x0)] K = g106_0 (fun y0 y1 => K .normal (e115 y0 y1)) x0 := by kernel_rfl
def g106_1 (k0 : V0 → V5 → Bool → Option R) (x0 : V0) (x1 : V5) := k0 x0 x1 (decide ((x0.length : Int) > (200 : Int)))
theorem t106_1 (x0 x1) : exec cl N c106_1 (e115 x0 x1) K = g106_1 (fun y0 y1 y2 => K .normal (e139 y0 y1 y2)) x0 x1 := by kernel_rfl
def g106_2 (k0 : K3 R) (x0 : V0) (x1 : V5) (x2 : Bool) := k0 ([], ()) (3 : Int)
theorem t106_2 (x0 x1 x2) : exec cl N c106_2 (e139 x0 x1 x2) K = g106_2 (fun y0 y1 => K .normal (e2 y0 y1)) x0 x1 x2 := by kernel_rfl
theorem kp106_0 (x0 x1) : keep [0, 2, 3] (e2 x0 x1) = e3 x0 x1 := by kernel_rfl
theorem kp106_1 (x0 x1 x2) : keep [0, 2, 3] (e139 x0 x1 x2) = e140 x0 x1 := by kernel_rfl
theorem hb106_0 (x0 x1 x2) : boolOf? (ent (e139 x0 x1 x2) (.t 6)) = some x2 := by kernel_rfl
def g106_4 (S105 : s105) (k0 : K3 R) (x0 : V0) (x1 : V5) : Option R :=
(S105 x0).bind fun r715 =>
k0 r715 (0 : Int)
theorem t106_4 (S105) (h105 : (ctr105 S105).holds cl) (x0 x1) : exec cl N c106_4 (e140 x0 x1) K = g106_4 S105 (fun y0 y1 => K .normal (e8 y0 y1)) x0 x1 := by
 rw [← put_eq h105]
 kernel_rfl
def g106_5 (S105 : s105) (k0 : K3 R) (k1 : K3 R) (x0 : V0) := (g106_0 (g106_1 (fun y0 y1 y2 => brB y2 (g106_2 k0 y0 y1 y2) ((g106_4 S105 k1) y0 y1))) x0)
theorem t106_5 (S105) (h105 : (ctr105 S105).holds cl) (x0) : exec cl N c106_5 [(0, .v U2 x0)] K = g106_5 S105 (fun y0 y1 => K .ret (e3 y0 y1)) (fun y0 y1 => K .ret (e8 y0 y1)) x0 := by
 simp only [c106_5, B0, t106_0, t106_1, c106_3, exec_out, B1, hb106_0, Option.bind_some, t106_2, exec_ret, kp106_0, kp106_1, t106_4 S105 h105]
 rfl
theorem rk106_0 (y0 y1) : retK d106 .ret (e3 y0 y1) = some [.v U5 y0, .v U1 y1] := by kernel_rfl
theorem rk106_1 (y0 y1) : retK d106 .ret (e8 y0 y1) = some [.v U5 y0, .v U1 y1] := by kernel_rfl
def g106 (S105 : s105) (x0 : V0) (k : V5 → Int → Option R) := (g106_5 S105 k k x0)
theorem gen106 (S105) (h105 : (ctr105 S105).holds cl) (x0) (k : List E → Option R) : exec cl N c106 [(0, .v U2 x0)] (fun e env => (retK d106 e env).bind k) = g106 S105 x0 (fun r0 r1 => k [.v U5 r0, .v U1 r1]) := by
 simp only [c106, t106_5 S105 h105, rk106_0, rk106_1, Option.bind_some]
 rfl
def ctr106 (S : s106) : Ctr := cv1 106 U2 S fun b => [.v U5 b.1, .v U1 b.2]
def S106 (N : Nat) (x0 : V0) : Option V9 := g106 (S105 N) x0 (fun r0 r1 => some (r0, r1))
def g92_0 (k0 : Int → Int → V5 → Option R) (x0 x1 : Int) := k0 x0 x1 ([], ())
theorem t92_0 (x0 x1) : exec cl N c92_0 (e83 x0 x1) K = g92_0 (fun y0 y1 y2 => K .normal (e141 y0 y1 y2)) x0 x1 := by kernel_rfl
def g92_1 (k0 : Int → Int → V5 → Bool → Option R) (x0 x1 : Int) (x2 : V5) : Option R :=
brB (decide (x0 < (0 : Int))) (k0 x0 x1 x2 true) (brB (decide (x0 > (400 : Int))) (k0 x0 x1 x2 true) (brB (decide (x1 < (0 : Int))) (k0 x0 x1 x2 true) (k0 x0 x1 x2 (decide (x1 > x0)))))
theorem t92_1 (x0 x1 x2) : exec cl N c92_1 (e141 x0 x1 x2) K = g92_1 (fun y0 y1 y2 y3 => K .normal (e142 y0 y1 y2 y3)) x0 x1 x2 := by kernel_rfl
def g92_2 (k0 : K3 R) (x0 x1 : Int) (x2 : V5) (x3 : Bool) := k0 ([], ()) (6 : Int)
theorem t92_2 (x0 x1 x2 x3) : exec cl N c92_2 (e142 x0 x1 x2 x3) K = g92_2 (fun y0 y1 => K .normal (e44 y0 y1)) x0 x1 x2 x3 := by kernel_rfl
theorem kp92_0 (x0 x1) : keep [0, 1, 4, 5] (e44 x0 x1) = e143 x0 x1 := by kernel_rfl
theorem kp92_1 (x0 x1 x2 x3) : keep [0, 1, 4, 5] (e142 x0 x1 x2 x3) = e144 x0 x1 x2 := by kernel_rfl
theorem hb92_0 (x0 x1 x2 x3) : boolOf? (ent (e142 x0 x1 x2 x3) (.t 22)) = some x3 := by kernel_rfl
def g92_4 (k0 : Int → Int → V5 → V0 → Option R) (x0 x1 : Int) (x2 : V5) := k0 x0 x1 x2 [(1 : Int)]
theorem t92_4 (x0 x1 x2) : exec cl N c92_4 (e144 x0 x1 x2) K = g92_4 (fun y0 y1 y2 y3 => K .normal (e145 y0 y1 y2 y3)) x0 x1 x2 := by kernel_rfl
def g92_5 (k0 : K22 R) (x0 x1 : Int) (x2 : V5) (x3 : V0) := k0 x0 x1 x2 x3 (1 : Int)
theorem t92_5 (x0 x1 x2 x3) : exec cl N c92_5 (e145 x0 x1 x2 x3) K = g92_5 (fun y0 y1 y2 y3 y4 => K .normal (e146 y0 y1 y2 y3 y4)) x0 x1 x2 x3 := by kernel_rfl
theorem kp92_2 (x0 x1 x2 x3 x4) : keep [0, 1, 4, 6, 7] (e146 x0 x1 x2 x3 x4) = e146 x0 x1 x2 x3 x4 := by kernel_rfl
def g92_6 (k0 : Int → Int → V5 → V0 → Int → Bool → Option R) (x0 x1 : Int) (x2 : V5) (x3 : V0) (x4 : Int) : Option R :=
let v721 : Int := (IntKind.i64.wrap (x0 - x1))
k0 x0 x1 x2 x3 x4 (decide (x4 ≤ (if v721 < x1 then v721 else x1)))
theorem t92_6 (x0 x1 x2 x3 x4) : exec cl N c92_6 (e146 x0 x1 x2 x3 x4) K = g92_6 (fun y0 y1 y2 y3 y4 y5 => K .normal (e147 y0 y1 y2 y3 y4 y5)) x0 x1 x2 x3 x4 := by kernel_rfl
theorem kp92_3 (x0 x1 x2 x3 x4 x5) : keep [0, 1, 4, 6, 7] (e147 x0 x1 x2 x3 x4 x5) = e146 x0 x1 x2 x3 x4 := by kernel_rfl
theorem hb92_1 (x0 x1 x2 x3 x4 x5) : boolOf? (ent (e147 x0 x1 x2 x3 x4 x5) (.t 31)) = some x5 := by kernel_rfl
def g92_10 (S114 : s114) (S115 : s115) (k0 : K22 R) (x0 x1 : Int) (x2 : V5) (x3 : V0) (x4 : Int) : Option R :=
(S114 x3 [(IntKind.i64.wrap ((IntKind.i64.wrap (x0 + (1 : Int))) - x4))]).bind fun r729 =>
(S115 r729 [x4]).bind fun r730 =>
k0 x0 x1 x2 r730.1 x4
theorem t92_10 (S114) (S115) (h114 : (ctr114 S114).holds cl) (h115 : (ctr115 S115).holds cl) (x0 x1 x2 x3 x4) : exec cl N c92_10 (e146 x0 x1 x2 x3 x4) K = g92_10 S114 S115 (fun y0 y1 y2 y3 y4 => K .normal (e146 y0 y1 y2 y3 y4)) x0 x1 x2 x3 x4 := by
 rw [← put_eq h114]
 rw [← put_eq h115]
 kernel_rfl
def g92_12 (k0 : K22 R) (x0 x1 : Int) (x2 : V5) (x3 : V0) (x4 : Int) := k0 x0 x1 x2 x3 (IntKind.i64.wrap (x4 + (1 : Int)))
theorem t92_12 (x0 x1 x2 x3 x4) : exec cl N c92_12 (e146 x0 x1 x2 x3 x4) K = g92_12 (fun y0 y1 y2 y3 y4 => K .normal (e146 y0 y1 y2 y3 y4)) x0 x1 x2 x3 x4 := by kernel_rfl
def g92_13 (S114 : s114) (S115 : s115) (k0 : K22 R) (k1 : K22 R) (x0 x1 : Int) (x2 : V5) (x3 : V0) (x4 : Int) := (g92_6 (fun y0 y1 y2 y3 y4 y5 => brB y5 ((g92_10 S114 S115 ((g92_12 k0))) y0 y1 y2 y3 y4) (k1 y0 y1 y2 y3 y4)) x0 x1 x2 x3 x4)
theorem t92_13 (S114) (S115) (h114 : (ctr114 S114).holds cl) (h115 : (ctr115 S115).holds cl) (x0 x1 x2 x3 x4) : exec cl N c92_13 (e146 x0 x1 x2 x3 x4) K = g92_13 S114 S115 (fun y0 y1 y2 y3 y4 => K .normal (e146 y0 y1 y2 y3 y4)) (fun y0 y1 y2 y3 y4 => K (.exit 0) (e146 y0 y1 y2 y3 y4)) x0 x1 x2 x3 x4 := by
 simp only [c92_13, B0, t92_6, c92_7, exec_out, B1, hb92_1, Option.bind_some, exec_exit, kp92_3, c92_11, B2, t92_10 S114 S115 h114 h115, kp92_2, t92_12]
 rfl
def l92_14 {R : Type} (S114 : s114) (S115 : s115) (k0 : K22 R) : Nat → Int → Int → V5 → V0 → Int → Option R
 | 0, _, _, _, _, _ => none
 | m + 1, x0, x1, x2, x3, x4 => (g92_13 S114 S115 (l92_14 S114 S115 k0 m) k0 x0 x1 x2 x3 x4)
theorem lt92_14 (S114) (S115) (h114 : (ctr114 S114).holds cl) (h115 : (ctr115 S115).holds cl) : ∀ (m) (x0 x1 x2 x3 x4), iter [0, 1, 4, 6, 7] (fun env K => exec cl N c92_13 env K) K m (e146 x0 x1 x2 x3 x4) = l92_14 S114 S115 (fun y0 y1 y2 y3 y4 => K (.exit 0) (e146 y0 y1 y2 y3 y4)) m x0 x1 x2 x3 x4 := by
 intro m
 induction m with
 | zero => intros; rfl
 | succ m ih =>
   intro x0 x1 x2 x3 x4
   simp only [B3, t92_13 S114 S115 h114 h115, kp92_2, ih]
   rfl
theorem kp92_4 (x0 x1 x2 x3 x4) : keep [4, 6] (e146 x0 x1 x2 x3 x4) = e120 x2 x3 := by kernel_rfl
def g92_14 (N : Nat) (S114 : s114) (S115 : s115) (k0 : V5 → V0 → Option R) (x0 x1 : Int) (x2 : V5) (x3 : V0) (x4 : Int) : Option R :=
l92_14 S114 S115 (fun y0 y1 y2 y3 y4 => k0 y2 y3) N x0 x1 x2 x3 x4
theorem t92_14 (S114) (S115) (h114 : (ctr114 S114).holds cl) (h115 : (ctr115 S115).holds cl) (x0 x1 x2 x3 x4) : exec cl N c92_14 (e146 x0 x1 x2 x3 x4) K = g92_14 N S114 S115 (fun y0 y1 => K (.exit 0) (e120 y0 y1)) x0 x1 x2 x3 x4 := by
 simp only [c92_14, exec_out, exec_loop, kp92_2, lt92_14 S114 S115 h114 h115, kp92_4]
 rfl
theorem kp92_5 (x0 x1) : keep [4, 6] (e120 x0 x1) = e120 x0 x1 := by kernel_rfl
def g92_16 (S106 : s106) (k0 : K3 R) (x0 : V5) (x1 : V0) : Option R :=
(S106 x1).bind fun r732 =>
k0 r732.1 r732.2
theorem t92_16 (S106) (h106 : (ctr106 S106).holds cl) (x0 x1) : exec cl N c92_16 (e120 x0 x1) K = g92_16 S106 (fun y0 y1 => K .normal (e49 y0 y1)) x0 x1 := by
 rw [← put_eq h106]
 kernel_rfl
def g92_17 (N : Nat) (S106 : s106) (S114 : s114) (S115 : s115) (k0 : K3 R) (k1 : K3 R) (x0 x1 : Int) := (g92_0 (g92_1 (fun y0 y1 y2 y3 => brB y3 (g92_2 k0 y0 y1 y2 y3) ((g92_4 (g92_5 (g92_14 N S114 S115 ((g92_16 S106 k1))))) y0 y1 y2))) x0 x1)
theorem t92_17 (S106) (S114) (S115) (h106 : (ctr106 S106).holds cl) (h114 : (ctr114 S114).holds cl) (h115 : (ctr115 S115).holds cl) (x0 x1) : exec cl N c92_17 (e83 x0 x1) K = g92_17 N S106 S114 S115 (fun y0 y1 => K .ret (e143 y0 y1)) (fun y0 y1 => K .ret (e49 y0 y1)) x0 x1 := by
 simp only [c92_17, B0, t92_0, t92_1, c92_3, exec_out, B1, hb92_0, Option.bind_some, t92_2, exec_ret, kp92_0, kp92_1, t92_4, t92_5, c92_15, B2, t92_14 S114 S115 h114 h115, kp92_5, t92_16 S106 h106]
 rfl
theorem rk92_0 (y0 y1) : retK d92 .ret (e143 y0 y1) = some [.v U5 y0, .v U1 y1] := by kernel_rfl
theorem rk92_1 (y0 y1) : retK d92 .ret (e49 y0 y1) = some [.v U5 y0, .v U1 y1] := by kernel_rfl
def g92 (N : Nat) (S106 : s106) (S114 : s114) (S115 : s115) (x0 x1 : Int) (k : V5 → Int → Option R) := (g92_17 N S106 S114 S115 k k x0 x1)
theorem gen92 (S106) (S114) (S115) (h106 : (ctr106 S106).holds cl) (h114 : (ctr114 S114).holds cl) (h115 : (ctr115 S115).holds cl) (x0 x1) (k : List E → Option R) : exec cl N c92 (e83 x0 x1) (fun e env => (retK d92 e env).bind k) = g92 N S106 S114 S115 x0 x1 (fun r0 r1 => k [.v U5 r0, .v U1 r1]) := by
 simp only [c92, t92_17 S106 S114 S115 h106 h114 h115, rk92_0, rk92_1, Option.bind_some]
 rfl
def ctr92 (S : s92) : Ctr := cv2 92 U1 U1 S fun b => [.v U5 b.1, .v U1 b.2]
def S92 (N : Nat) (x0 : Int) (x1 : Int) : Option V9 := g92 N (S106 N) (S114 N) (S115 N) x0 x1 (fun r0 r1 => some (r0, r1))
def g64_0 (k0 : Int → Int → V5 → Option R) (x0 x1 : Int) := k0 x0 x1 ([], ())
theorem t64_0 (x0 x1) : exec cl N c64_0 (e83 x0 x1) K = g64_0 (fun y0 y1 y2 => K .normal (e141 y0 y1 y2)) x0 x1 := by kernel_rfl
def g64_1 (k0 : Int → Int → V5 → Bool → Option R) (x0 x1 : Int) (x2 : V5) : Option R :=
brB (decide (x1 < (0 : Int))) (k0 x0 x1 x2 true) (k0 x0 x1 x2 (decide (x1 > x0)))
theorem t64_1 (x0 x1 x2) : exec cl N c64_1 (e141 x0 x1 x2) K = g64_1 (fun y0 y1 y2 y3 => K .normal (e148 y0 y1 y2 y3)) x0 x1 x2 := by kernel_rfl
def g64_2 (S49 : s49) (k0 : K46 R) (x0 x1 : Int) (x2 : V5) (x3 : Bool) : Option R :=
(S49 (0 : Int)).bind fun r737 =>
k0 r737
theorem t64_2 (S49) (h49 : (ctr49 S49).holds cl) (x0 x1 x2 x3) : exec cl N c64_2 (e148 x0 x1 x2 x3) K = g64_2 S49 (fun y0 => K .normal [(4, .loc U5 .no y0)]) x0 x1 x2 x3 := by
 rw [← put_eq h49]
 kernel_rfl
theorem kp64_0 (x0) : keep [0, 1, 4] [(4, .loc U5 .no x0)] = e149 x0 := by kernel_rfl
theorem kp64_1 (x0 x1 x2 x3) : keep [0, 1, 4] (e148 x0 x1 x2 x3) = e141 x0 x1 x2 := by kernel_rfl
theorem hb64_0 (x0 x1 x2 x3) : boolOf? (ent (e148 x0 x1 x2 x3) (.t 13)) = some x3 := by kernel_rfl
def g64_6 (S92 : s92) (k0 : K46 R) (x0 x1 : Int) (x2 : V5) : Option R :=
(S92 x0 x1).bind fun r739 =>
k0 r739.1
theorem t64_6 (S92) (h92 : (ctr92 S92).holds cl) (x0 x1 x2) : exec cl N c64_6 (e141 x0 x1 x2) K = g64_6 S92 (fun y0 => exec cl N .ret [(4, .loc U5 .no y0)] K) x0 x1 x2 := by
 rw [← put_eq h92]
 kernel_rfl
def g64_7 (S49 : s49) (S92 : s92) (k0 : K46 R) (k1 : K46 R) (x0 x1 : Int) := (g64_0 (g64_1 (fun y0 y1 y2 y3 => brB y3 (g64_2 S49 k0 y0 y1 y2 y3) ((g64_6 S92 k1) y0 y1 y2))) x0 x1)
theorem t64_7 (S49) (S92) (h49 : (ctr49 S49).holds cl) (h92 : (ctr92 S92).holds cl) (x0 x1) : exec cl N c64_7 (e83 x0 x1) K = g64_7 S49 S92 (fun y0 => K .ret (e149 y0)) (fun y0 => K .ret [(4, .loc U5 .no y0)]) x0 x1 := by
 simp only [c64_7, B0, t64_0, t64_1, c64_3, exec_out, B1, hb64_0, Option.bind_some, t64_2 S49 h49, exec_ret, kp64_0, kp64_1, t64_6 S92 h92]
 rfl
theorem rk64_0 (y0) : retK d64 .ret (e149 y0) = some [.v U5 y0] := by kernel_rfl
theorem rk64_1 (y0) : retK d64 .ret [(4, .loc U5 .no y0)] = some [.v U5 y0] := by kernel_rfl
def g64 (S49 : s49) (S92 : s92) (x0 x1 : Int) (k : V5 → Option R) := (g64_7 S49 S92 k k x0 x1)
theorem gen64 (S49) (S92) (h49 : (ctr49 S49).holds cl) (h92 : (ctr92 S92).holds cl) (x0 x1) (k : List E → Option R) : exec cl N c64 (e83 x0 x1) (fun e env => (retK d64 e env).bind k) = g64 S49 S92 x0 x1 (fun r0 => k [.v U5 r0]) := by
 simp only [c64, t64_7 S49 S92 h49 h92, rk64_0, rk64_1, Option.bind_some]
 rfl
def ctr64 (S : s64) : Ctr := cv2 64 U1 U1 S fun b => [.v U5 b]
def S64 (N : Nat) (x0 : Int) (x1 : Int) : Option V7 := g64 (S49 N) (S92 N) x0 x1 (fun r0 => some (r0))
def g103_0 (k0 : K35 R) (x0 x1 : V5) := k0 x0 x1 ([], ())
theorem t103_0 (x0 x1) : exec cl N c103_0 (e41 x0 x1) K = g103_0 (fun y0 y1 y2 => K .normal (e42 y0 y1 y2)) x0 x1 := by kernel_rfl
def g103_1 (S75 : s75) (k0 : K20 R) (x0 x1 x2 : V5) : Option R :=
(S75 x0).bind fun r748 =>
brB (!r748) (k0 x0 x1 x2 true) ((S75 x1).bind fun r749 =>
k0 x0 x1 x2 (!r749))
theorem t103_1 (S75) (h75 : (ctr75 S75).holds cl) (x0 x1 x2) : exec cl N c103_1 (e42 x0 x1 x2) K = g103_1 S75 (fun y0 y1 y2 y3 => K .normal (e150 y0 y1 y2 y3)) x0 x1 x2 := by
 rw [← put_eq h75]
 kernel_rfl
def g103_2 (k0 : K3 R) (x0 x1 x2 : V5) (x3 : Bool) := k0 ([], ()) (1 : Int)
theorem t103_2 (x0 x1 x2 x3) : exec cl N c103_2 (e150 x0 x1 x2 x3) K = g103_2 (fun y0 y1 => K .normal (e44 y0 y1)) x0 x1 x2 x3 := by kernel_rfl
theorem kp103_0 (x0 x1) : keep [2, 3, 4, 5] (e44 x0 x1) = e45 x0 x1 := by kernel_rfl
theorem kp103_1 (x0 x1 x2 x3) : keep [2, 3, 4, 5] (e150 x0 x1 x2 x3) = e46 x0 x1 x2 := by kernel_rfl
theorem hb103_0 (x0 x1 x2 x3) : boolOf? (ent (e150 x0 x1 x2 x3) (.t 13)) = some x3 := by kernel_rfl
def g103_4 (S106 : s106) (S114 : s114) (k0 : K3 R) (x0 x1 x2 : V5) : Option R :=
(S114 x0.1 x1.1).bind fun r750 =>
(S106 r750).bind fun r751 =>
k0 r751.1 r751.2
theorem t103_4 (S106) (S114) (h106 : (ctr106 S106).holds cl) (h114 : (ctr114 S114).holds cl) (x0 x1 x2) : exec cl N c103_4 (e46 x0 x1 x2) K = g103_4 S106 S114 (fun y0 y1 => K .normal (e49 y0 y1)) x0 x1 x2 := by
 rw [← put_eq h106]
 rw [← put_eq h114]
 kernel_rfl
def g103_5 (S75 : s75) (S106 : s106) (S114 : s114) (k0 : K3 R) (k1 : K3 R) (x0 x1 : V5) := (g103_0 (g103_1 S75 (fun y0 y1 y2 y3 => brB y3 (g103_2 k0 y0 y1 y2 y3) ((g103_4 S106 S114 k1) y0 y1 y2))) x0 x1)
theorem t103_5 (S75) (S106) (S114) (h75 : (ctr75 S75).holds cl) (h106 : (ctr106 S106).holds cl) (h114 : (ctr114 S114).holds cl) (x0 x1) : exec cl N c103_5 (e41 x0 x1) K = g103_5 S75 S106 S114 (fun y0 y1 => K .ret (e45 y0 y1)) (fun y0 y1 => K .ret (e49 y0 y1)) x0 x1 := by
 simp only [c103_5, B0, t103_0, t103_1 S75 h75, c103_3, exec_out, B1, hb103_0, Option.bind_some, t103_2, exec_ret, kp103_0, kp103_1, t103_4 S106 S114 h106 h114]
 rfl
theorem rk103_0 (y0 y1) : retK d103 .ret (e45 y0 y1) = some [.v U5 y0, .v U1 y1] := by kernel_rfl
theorem rk103_1 (y0 y1) : retK d103 .ret (e49 y0 y1) = some [.v U5 y0, .v U1 y1] := by kernel_rfl
def g103 (S75 : s75) (S106 : s106) (S114 : s114) (x0 x1 : V5) (k : V5 → Int → Option R) := (g103_5 S75 S106 S114 k k x0 x1)
theorem gen103 (S75) (S106) (S114) (h75 : (ctr75 S75).holds cl) (h106 : (ctr106 S106).holds cl) (h114 : (ctr114 S114).holds cl) (x0 x1) (k : List E → Option R) : exec cl N c103 (e41 x0 x1) (fun e env => (retK d103 e env).bind k) = g103 S75 S106 S114 x0 x1 (fun r0 r1 => k [.v U5 r0, .v U1 r1]) := by
 simp only [c103, t103_5 S75 S106 S114 h75 h106 h114, rk103_0, rk103_1, Option.bind_some]
 rfl
def ctr103 (S : s103) : Ctr := cv2 103 U5 U5 S fun b => [.v U5 b.1, .v U1 b.2]
def S103 (N : Nat) (x0 : V5) (x1 : V5) : Option V9 := g103 (S75 N) (S106 N) (S114 N) x0 x1 (fun r0 r1 => some (r0, r1))
def g78_3 (S103 : s103) (k0 : K46 R) (x0 x1 : V5) : Option R :=
(S103 x0 x1).bind fun r755 =>
k0 r755.1
theorem t78_3 (S103) (h103 : (ctr103 S103).holds cl) (x0 x1) : exec cl N c78_3 (e41 x0 x1) K = g78_3 S103 (fun y0 => exec cl N .ret [(4, .loc U5 .no y0)] K) x0 x1 := by
 rw [← put_eq h103]
 kernel_rfl
def g78_3b (S103 : s103) (k0 : K46 R) (x0 x1 : V5) := (g78_3 S103 k0 x0 x1)
theorem t78_3b (S103) (h103 : (ctr103 S103).holds cl) (x0 x1) : exec cl N c78_3 (e41 x0 x1) K = g78_3b S103 (fun y0 => K .ret [(4, .loc U5 .no y0)]) x0 x1 := by
 simp only [B0, t78_3 S103 h103, exec_ret]
 rfl
theorem rk78_0 (y0) : retK d78 .ret [(4, .loc U5 .no y0)] = some [.v U5 y0] := by kernel_rfl
def g78 (S103 : s103) (x0 x1 : V5) (k : V5 → Option R) := (g78_3b S103 k x0 x1)
theorem gen78 (S103) (h103 : (ctr103 S103).holds cl) (x0 x1) (k : List E → Option R) : exec cl N c78 (e41 x0 x1) (fun e env => (retK d78 e env).bind k) = g78 S103 x0 x1 (fun r0 => k [.v U5 r0]) := by
 simp only [c78, t78_3b S103 h103, rk78_0, Option.bind_some]
 rfl
def ctr78 (S : s78) : Ctr := cv2 78 U5 U5 S fun b => [.v U5 b]
def S78 (N : Nat) (x0 : V5) (x1 : V5) : Option V7 := g78 (S103 N) x0 x1 (fun r0 => some (r0))
def g46_12 (S49 : s49) (k0 : Int → V5 → V5 → V5 → Option R) (x0 x1 : Int) : Option R :=
(S49 (1 : Int)).bind fun r758 =>
(S49 x0).bind fun r759 =>
k0 x1 ([], ()) r758 r759
theorem t46_12 (S49) (h49 : (ctr49 S49).holds cl) (x0 x1) : exec cl N c46_12 (e83 x0 x1) K = g46_12 S49 (fun y0 y1 y2 y3 => exec cl N (.seq (.seq c46_2 c46_10) (.seq c46_11 .ret)) (e151 y0 y1 y2 y3) K) x0 x1 := by
 rw [← put_eq h49]
 kernel_rfl
def g46_2 (k0 : K23 R) (x0 : Int) (x1 x2 x3 : V5) := k0 x1 x2 x3 x0 (0 : Int)
theorem t46_2 (x0 x1 x2 x3) : exec cl N c46_2 (e151 x0 x1 x2 x3) K = g46_2 (fun y0 y1 y2 y3 y4 => K .normal (e152 y0 y1 y2 y3 y4)) x0 x1 x2 x3 := by kernel_rfl
theorem kp46_0 (x0 x1 x2 x3 x4) : keep [4, 5, 6, 10, 11] (e152 x0 x1 x2 x3 x4) = e152 x0 x1 x2 x3 x4 := by kernel_rfl
def g46_3 (k0 : V5 → V5 → V5 → Int → Int → Bool → Option R) (x0 x1 x2 : V5) (x3 x4 : Int) := k0 x0 x1 x2 x3 x4 (decide (x4 < x3))
theorem t46_3 (x0 x1 x2 x3 x4) : exec cl N c46_3 (e152 x0 x1 x2 x3 x4) K = g46_3 (fun y0 y1 y2 y3 y4 y5 => K .normal (e153 y0 y1 y2 y3 y4 y5)) x0 x1 x2 x3 x4 := by kernel_rfl
theorem kp46_1 (x0 x1 x2 x3 x4 x5) : keep [4, 5, 6, 10, 11] (e153 x0 x1 x2 x3 x4 x5) = e152 x0 x1 x2 x3 x4 := by kernel_rfl
theorem hb46_0 (x0 x1 x2 x3 x4 x5) : boolOf? (ent (e153 x0 x1 x2 x3 x4 x5) (.t 12)) = some x5 := by kernel_rfl
def g46_5 (S78 : s78) (k0 : K23 R) (x0 x1 x2 : V5) (x3 x4 : Int) : Option R :=
(S78 x1 x2).bind fun r761 =>
k0 x0 r761 x2 x3 x4
theorem t46_5 (S78) (h78 : (ctr78 S78).holds cl) (x0 x1 x2 x3 x4) : exec cl N c46_5 (e152 x0 x1 x2 x3 x4) K = g46_5 S78 (fun y0 y1 y2 y3 y4 => K .normal (e152 y0 y1 y2 y3 y4)) x0 x1 x2 x3 x4 := by
 rw [← put_eq h78]
 kernel_rfl
def g46_7 (k0 : K23 R) (x0 x1 x2 : V5) (x3 x4 : Int) := k0 x0 x1 x2 x3 (IntKind.i64.wrap (x4 + (1 : Int)))
theorem t46_7 (x0 x1 x2 x3 x4) : exec cl N c46_7 (e152 x0 x1 x2 x3 x4) K = g46_7 (fun y0 y1 y2 y3 y4 => K .normal (e152 y0 y1 y2 y3 y4)) x0 x1 x2 x3 x4 := by kernel_rfl
def g46_8 (S78 : s78) (k0 : K23 R) (k1 : K23 R) (x0 x1 x2 : V5) (x3 x4 : Int) := (g46_3 (fun y0 y1 y2 y3 y4 y5 => brB y5 ((g46_5 S78 ((g46_7 k0))) y0 y1 y2 y3 y4) (k1 y0 y1 y2 y3 y4)) x0 x1 x2 x3 x4)
theorem t46_8 (S78) (h78 : (ctr78 S78).holds cl) (x0 x1 x2 x3 x4) : exec cl N c46_8 (e152 x0 x1 x2 x3 x4) K = g46_8 S78 (fun y0 y1 y2 y3 y4 => K .normal (e152 y0 y1 y2 y3 y4)) (fun y0 y1 y2 y3 y4 => K (.exit 0) (e152 y0 y1 y2 y3 y4)) x0 x1 x2 x3 x4 := by
 simp only [c46_8, B0, t46_3, c46_4, exec_out, B1, hb46_0, Option.bind_some, exec_exit, kp46_1, c46_6, B2, t46_5 S78 h78, kp46_0, t46_7]
 rfl
def l46_9 {R : Type} (S78 : s78) (k0 : K23 R) : Nat → V5 → V5 → V5 → Int → Int → Option R
 | 0, _, _, _, _, _ => none
 | m + 1, x0, x1, x2, x3, x4 => (g46_8 S78 (l46_9 S78 k0 m) k0 x0 x1 x2 x3 x4)
theorem lt46_9 (S78) (h78 : (ctr78 S78).holds cl) : ∀ (m) (x0 x1 x2 x3 x4), iter [4, 5, 6, 10, 11] (fun env K => exec cl N c46_8 env K) K m (e152 x0 x1 x2 x3 x4) = l46_9 S78 (fun y0 y1 y2 y3 y4 => K (.exit 0) (e152 y0 y1 y2 y3 y4)) m x0 x1 x2 x3 x4 := by
 intro m
 induction m with
 | zero => intros; rfl
 | succ m ih =>
   intro x0 x1 x2 x3 x4
   simp only [B3, t46_8 S78 h78, kp46_0, ih]
   rfl
theorem kp46_2 (x0 x1 x2 x3 x4) : keep [4, 5] (e152 x0 x1 x2 x3 x4) = e154 x0 x1 := by kernel_rfl
def g46_9 (N : Nat) (S78 : s78) (k0 : V5 → V5 → Option R) (x0 x1 x2 : V5) (x3 x4 : Int) : Option R :=
l46_9 S78 (fun y0 y1 y2 y3 y4 => k0 y0 y1) N x0 x1 x2 x3 x4
theorem t46_9 (S78) (h78 : (ctr78 S78).holds cl) (x0 x1 x2 x3 x4) : exec cl N c46_9 (e152 x0 x1 x2 x3 x4) K = g46_9 N S78 (fun y0 y1 => K (.exit 0) (e154 y0 y1)) x0 x1 x2 x3 x4 := by
 simp only [c46_9, exec_out, exec_loop, kp46_0, lt46_9 S78 h78, kp46_2]
 rfl
theorem kp46_3 (x0 x1) : keep [4, 5] (e154 x0 x1) = e154 x0 x1 := by kernel_rfl
def g46_11 (k0 : K46 R) (x0 x1 : V5) := k0 x1
theorem t46_11 (x0 x1) : exec cl N c46_11 (e154 x0 x1) K = g46_11 (fun y0 => K .normal [(4, .loc U5 .no y0)]) x0 x1 := by kernel_rfl
def g46_12b (N : Nat) (S49 : s49) (S78 : s78) (k0 : K46 R) (x0 x1 : Int) := (g46_12 S49 (g46_2 (g46_9 N S78 ((g46_11 k0)))) x0 x1)
theorem t46_12b (S49) (S78) (h49 : (ctr49 S49).holds cl) (h78 : (ctr78 S78).holds cl) (x0 x1) : exec cl N c46_12 (e83 x0 x1) K = g46_12b N S49 S78 (fun y0 => K .ret [(4, .loc U5 .no y0)]) x0 x1 := by
 simp only [B0, t46_12 S49 h49, t46_2, c46_10, exec_out, B2, t46_9 S78 h78, kp46_3, t46_11, exec_ret]
 rfl
theorem rk46_0 (y0) : retK d46 .ret [(4, .loc U5 .no y0)] = some [.v U5 y0] := by kernel_rfl
def g46 (N : Nat) (S49 : s49) (S78 : s78) (x0 x1 : Int) (k : V5 → Option R) := (g46_12b N S49 S78 k x0 x1)
theorem gen46 (S49) (S78) (h49 : (ctr49 S49).holds cl) (h78 : (ctr78 S78).holds cl) (x0 x1) (k : List E → Option R) : exec cl N c46 (e83 x0 x1) (fun e env => (retK d46 e env).bind k) = g46 N S49 S78 x0 x1 (fun r0 => k [.v U5 r0]) := by
 simp only [c46, t46_12b S49 S78 h49 h78, rk46_0, Option.bind_some]
 rfl
def ctr46 (S : s46) : Ctr := cv2 46 U1 U1 S fun b => [.v U5 b]
def S46 (N : Nat) (x0 : Int) (x1 : Int) : Option V7 := g46 N (S49 N) (S78 N) x0 x1 (fun r0 => some (r0))
def g45_2 (S46 : s46) (S64 : s64) (S78 : s78) (k0 : K46 R) (x0 x1 x2 x3 : Int) : Option R :=
(S64 x0 x1).bind fun r769 =>
(S46 x2 x1).bind fun r770 =>
(S46 (IntKind.i64.wrap (x3 - x2)) (IntKind.i64.wrap (x0 - x1))).bind fun r773 =>
(S78 r770 r773).bind fun r774 =>
(S78 r769 r774).bind fun r775 =>
k0 r775
theorem t45_2 (S46) (S64) (S78) (h46 : (ctr46 S46).holds cl) (h64 : (ctr64 S64).holds cl) (h78 : (ctr78 S78).holds cl) (x0 x1 x2 x3) : exec cl N c45_2 (e155 x0 x1 x2 x3) K = g45_2 S46 S64 S78 (fun y0 => exec cl N .ret [(8, .loc U5 .no y0)] K) x0 x1 x2 x3 := by
 rw [← put_eq h46]
 rw [← put_eq h64]
 rw [← put_eq h78]
 kernel_rfl
def g45_2b (S46 : s46) (S64 : s64) (S78 : s78) (k0 : K46 R) (x0 x1 x2 x3 : Int) := (g45_2 S46 S64 S78 k0 x0 x1 x2 x3)
theorem t45_2b (S46) (S64) (S78) (h46 : (ctr46 S46).holds cl) (h64 : (ctr64 S64).holds cl) (h78 : (ctr78 S78).holds cl) (x0 x1 x2 x3) : exec cl N c45_2 (e155 x0 x1 x2 x3) K = g45_2b S46 S64 S78 (fun y0 => K .ret [(8, .loc U5 .no y0)]) x0 x1 x2 x3 := by
 simp only [B0, t45_2 S46 S64 S78 h46 h64 h78, exec_ret]
 rfl
theorem rk45_0 (y0) : retK d45 .ret [(8, .loc U5 .no y0)] = some [.v U5 y0] := by kernel_rfl
def g45 (S46 : s46) (S64 : s64) (S78 : s78) (x0 x1 x2 x3 : Int) (k : V5 → Option R) := (g45_2b S46 S64 S78 k x0 x1 x2 x3)
theorem gen45 (S46) (S64) (S78) (h46 : (ctr46 S46).holds cl) (h64 : (ctr64 S64).holds cl) (h78 : (ctr78 S78).holds cl) (x0 x1 x2 x3) (k : List E → Option R) : exec cl N c45 (e155 x0 x1 x2 x3) (fun e env => (retK d45 e env).bind k) = g45 S46 S64 S78 x0 x1 x2 x3 (fun r0 => k [.v U5 r0]) := by
 simp only [c45, t45_2b S46 S64 S78 h46 h64 h78, rk45_0, Option.bind_some]
 rfl
def ctr45 (S : s45) : Ctr := cv4 45 U1 U1 U1 U1 S fun b => [.v U5 b]
def S45 (N : Nat) (x0 : Int) (x1 : Int) (x2 : Int) (x3 : Int) : Option V7 := g45 (S46 N) (S64 N) (S78 N) x0 x1 x2 x3 (fun r0 => some (r0))
def g102_0 (k0 : V5 → V5 → V5 → V5 → Option R) (x0 x1 : V5) := k0 x0 x1 ([], ()) ([], ())
theorem t102_0 (x0 x1) : exec cl N c102_0 (e41 x0 x1) K = g102_0 (fun y0 y1 y2 y3 => K .normal (e75 y0 y1 y2 y3)) x0 x1 := by kernel_rfl
def g102_1 (S75 : s75) (k0 : K27 R) (x0 x1 x2 x3 : V5) : Option R :=
(S75 x0).bind fun r792 =>
brB (!r792) (k0 x0 x1 x2 x3 true) ((S75 x1).bind fun r793 =>
k0 x0 x1 x2 x3 (!r793))
theorem t102_1 (S75) (h75 : (ctr75 S75).holds cl) (x0 x1 x2 x3) : exec cl N c102_1 (e75 x0 x1 x2 x3) K = g102_1 S75 (fun y0 y1 y2 y3 y4 => K .normal (e156 y0 y1 y2 y3 y4)) x0 x1 x2 x3 := by
 rw [← put_eq h75]
 kernel_rfl
def g102_2 (k0 : K15 R) (x0 x1 x2 x3 : V5) (x4 : Bool) := k0 ([], ()) ([], ()) (1 : Int)
theorem t102_2 (x0 x1 x2 x3 x4) : exec cl N c102_2 (e156 x0 x1 x2 x3 x4) K = g102_2 (fun y0 y1 y2 => K .normal (e77 y0 y1 y2)) x0 x1 x2 x3 x4 := by kernel_rfl
theorem kp102_0 (x0 x1 x2) : keep [2, 3, 4, 5, 6] (e77 x0 x1 x2) = e78 x0 x1 x2 := by kernel_rfl
def g102_3 (k0 : K27 R) (x0 x1 x2 x3 : V5) (x4 : Bool) := k0 x0 x1 x2 x3 ((x1.1.length : Int) == (0 : Int))
theorem t102_3 (x0 x1 x2 x3 x4) : exec cl N c102_3 (e156 x0 x1 x2 x3 x4) K = g102_3 (fun y0 y1 y2 y3 y4 => K .normal (e157 y0 y1 y2 y3 y4)) x0 x1 x2 x3 x4 := by kernel_rfl
def g102_4 (k0 : K15 R) (x0 x1 x2 x3 : V5) (x4 : Bool) := k0 ([], ()) ([], ()) (6 : Int)
theorem t102_4 (x0 x1 x2 x3 x4) : exec cl N c102_4 (e157 x0 x1 x2 x3 x4) K = g102_4 (fun y0 y1 y2 => K .normal (e77 y0 y1 y2)) x0 x1 x2 x3 x4 := by kernel_rfl
theorem kp102_1 (x0 x1 x2 x3 x4) : keep [2, 3, 4, 5, 6] (e157 x0 x1 x2 x3 x4) = e79 x0 x1 x2 x3 := by kernel_rfl
theorem hb102_0 (x0 x1 x2 x3 x4) : boolOf? (ent (e157 x0 x1 x2 x3 x4) (.t 20)) = some x4 := by kernel_rfl
theorem kp102_2 (x0 x1 x2) : keep [2, 3, 4, 5, 6] (e78 x0 x1 x2) = e78 x0 x1 x2 := by kernel_rfl
theorem kp102_3 (x0 x1 x2 x3) : keep [2, 3, 4, 5, 6] (e79 x0 x1 x2 x3) = e79 x0 x1 x2 x3 := by kernel_rfl
theorem hb102_1 (x0 x1 x2 x3 x4) : boolOf? (ent (e156 x0 x1 x2 x3 x4) (.t 9)) = some x4 := by kernel_rfl
def g102_10 (S105 : s105) (S115 : s115) (k0 : K15 R) (x0 x1 x2 x3 : V5) : Option R :=
(S115 x0.1 x1.1).bind fun r796 =>
(S105 r796.1).bind fun r797 =>
(S105 r796.2).bind fun r798 =>
k0 r797 r798 (0 : Int)
theorem t102_10 (S105) (S115) (h105 : (ctr105 S105).holds cl) (h115 : (ctr115 S115).holds cl) (x0 x1 x2 x3) : exec cl N c102_10 (e79 x0 x1 x2 x3) K = g102_10 S105 S115 (fun y0 y1 y2 => exec cl N .ret (e81 y0 y1 y2) K) x0 x1 x2 x3 := by
 rw [← put_eq h105]
 rw [← put_eq h115]
 kernel_rfl
def g102_11 (S75 : s75) (S105 : s105) (S115 : s115) (k0 : K15 R) (k1 : K15 R) (x0 x1 : V5) := (g102_0 (g102_1 S75 (fun y0 y1 y2 y3 y4 => brB y4 (g102_2 k0 y0 y1 y2 y3 y4) (g102_3 (fun y0 y1 y2 y3 y4 => brB y4 (g102_4 k0 y0 y1 y2 y3 y4) ((((g102_10 S105 S115 k1))) y0 y1 y2 y3)) y0 y1 y2 y3 y4))) x0 x1)
theorem t102_11 (S75) (S105) (S115) (h75 : (ctr75 S75).holds cl) (h105 : (ctr105 S105).holds cl) (h115 : (ctr115 S115).holds cl) (x0 x1) : exec cl N c102_11 (e41 x0 x1) K = g102_11 S75 S105 S115 (fun y0 y1 y2 => K .ret (e78 y0 y1 y2)) (fun y0 y1 y2 => K .ret (e81 y0 y1 y2)) x0 x1 := by
 simp only [c102_11, B0, t102_0, c102_7, exec_out, B2, t102_1 S75 h75, c102_6, B1, hb102_1, Option.bind_some, t102_2, exec_ret, t102_3, c102_5, hb102_0, t102_4, kp102_0, kp102_1, kp102_2, kp102_3, t102_10 S105 S115 h105 h115]
 rfl
theorem rk102_0 (y0 y1 y2) : retK d102 .ret (e78 y0 y1 y2) = some [.v U5 y0, .v U5 y1, .v U1 y2] := by kernel_rfl
theorem rk102_1 (y0 y1 y2) : retK d102 .ret (e81 y0 y1 y2) = some [.v U5 y0, .v U5 y1, .v U1 y2] := by kernel_rfl
def g102 (S75 : s75) (S105 : s105) (S115 : s115) (x0 x1 : V5) (k : V5 → V5 → Int → Option R) := (g102_11 S75 S105 S115 k k x0 x1)
theorem gen102 (S75) (S105) (S115) (h75 : (ctr75 S75).holds cl) (h105 : (ctr105 S105).holds cl) (h115 : (ctr115 S115).holds cl) (x0 x1) (k : List E → Option R) : exec cl N c102 (e41 x0 x1) (fun e env => (retK d102 e env).bind k) = g102 S75 S105 S115 x0 x1 (fun r0 r1 r2 => k [.v U5 r0, .v U5 r1, .v U1 r2]) := by
 simp only [c102, t102_11 S75 S105 S115 h75 h105 h115, rk102_0, rk102_1, Option.bind_some]
 rfl
def ctr102 (S : s102) : Ctr := cv2 102 U5 U5 S fun b => [.v U5 b.1, .v U5 b.2.1, .v U1 b.2.2]
def S102 (N : Nat) (x0 : V5) (x1 : V5) : Option V14 := g102 (S75 N) (S105 N) (S115 N) x0 x1 (fun r0 r1 r2 => some (r0, r1, r2))
def g77_5 (S76 : s76) (S101 : s101) (S102 : s102) (k0 : K47 R) (x0 : Bool) (x1 x2 : V5) : Option R :=
(S101 x1 x2).bind fun r815 =>
(S102 x1 r815.1).bind fun r816 =>
(S102 x2 r815.1).bind fun r817 =>
brB x0 ((S76 r816.1).bind fun r818 =>
k0 ((!r818), r816.1, r817.1, ())) (k0 (false, r816.1, r817.1, ()))
theorem t77_5 (S76) (S101) (S102) (h76 : (ctr76 S76).holds cl) (h101 : (ctr101 S101).holds cl) (h102 : (ctr102 S102).holds cl) (x0 x1 x2) : exec cl N c77_5 (e82 x0 x1 x2) K = g77_5 S76 S101 S102 (fun y0 => exec cl N .ret [(6, .loc U12 .no y0)] K) x0 x1 x2 := by
 rw [← put_eq h76]
 rw [← put_eq h101]
 rw [← put_eq h102]
 kernel_rfl
def g77_5b (S76 : s76) (S101 : s101) (S102 : s102) (k0 : K47 R) (x0 : Bool) (x1 x2 : V5) := (g77_5 S76 S101 S102 k0 x0 x1 x2)
theorem t77_5b (S76) (S101) (S102) (h76 : (ctr76 S76).holds cl) (h101 : (ctr101 S101).holds cl) (h102 : (ctr102 S102).holds cl) (x0 x1 x2) : exec cl N c77_5 (e82 x0 x1 x2) K = g77_5b S76 S101 S102 (fun y0 => K .ret [(6, .loc U12 .no y0)]) x0 x1 x2 := by
 simp only [B0, t77_5 S76 S101 S102 h76 h101 h102, exec_ret]
 rfl
theorem rk77_0 (y0) : retK d77 .ret [(6, .loc U12 .no y0)] = some [.v U12 y0] := by kernel_rfl
def g77 (S76 : s76) (S101 : s101) (S102 : s102) (x0 : Bool) (x1 x2 : V5) (k : V16 → Option R) := (g77_5b S76 S101 S102 k x0 x1 x2)
theorem gen77 (S76) (S101) (S102) (h76 : (ctr76 S76).holds cl) (h101 : (ctr101 S101).holds cl) (h102 : (ctr102 S102).holds cl) (x0 x1 x2) (k : List E → Option R) : exec cl N c77 (e82 x0 x1 x2) (fun e env => (retK d77 e env).bind k) = g77 S76 S101 S102 x0 x1 x2 (fun r0 => k [.v U12 r0]) := by
 simp only [c77, t77_5b S76 S101 S102 h76 h101 h102, rk77_0, Option.bind_some]
 rfl
def ctr77 (S : s77) : Ctr := cv3 77 .bool U5 U5 S fun b => [.v U12 b]
def S77 (N : Nat) (x0 : Bool) (x1 : V5) (x2 : V5) : Option V17 := g77 (S76 N) (S101 N) (S102 N) x0 x1 x2 (fun r0 => some (r0))
def g44_0 (k0 : V5 → V5 → V16 → Option R) (x0 x1 : V5) := k0 x0 x1 (false, (([], ()), (([], ()), ())))
theorem t44_0 (x0 x1) : exec cl N c44_0 (e41 x0 x1) K = g44_0 (fun y0 y1 y2 => K .normal (e158 y0 y1 y2)) x0 x1 := by kernel_rfl
def g44_1 (S75 : s75) (k0 : V5 → V5 → V16 → Bool → Option R) (x0 x1 : V5) (x2 : V16) : Option R :=
(S75 x0).bind fun r822 =>
brB (!r822) (k0 x0 x1 x2 true) ((S75 x1).bind fun r823 =>
k0 x0 x1 x2 (!r823))
theorem t44_1 (S75) (h75 : (ctr75 S75).holds cl) (x0 x1 x2) : exec cl N c44_1 (e158 x0 x1 x2) K = g44_1 S75 (fun y0 y1 y2 y3 => K .normal (e159 y0 y1 y2 y3)) x0 x1 x2 := by
 rw [← put_eq h75]
 kernel_rfl
def g44_2 (k0 : K0 R) (x0 x1 : V5) (x2 : V16) (x3 : Bool) := k0 (false, ([], ()), ([], ()), ()) (1 : Int)
theorem t44_2 (x0 x1 x2 x3) : exec cl N c44_2 (e159 x0 x1 x2 x3) K = g44_2 (fun y0 y1 => K .normal (e86 y0 y1)) x0 x1 x2 x3 := by kernel_rfl
theorem kp44_0 (x0 x1) : keep [2, 3, 4, 5] (e86 x0 x1) = e160 x0 x1 := by kernel_rfl
theorem kp44_1 (x0 x1 x2 x3) : keep [2, 3, 4, 5] (e159 x0 x1 x2 x3) = e161 x0 x1 x2 := by kernel_rfl
theorem hb44_0 (x0 x1 x2 x3) : boolOf? (ent (e159 x0 x1 x2 x3) (.t 13)) = some x3 := by kernel_rfl
def g44_4 (S76 : s76) (k0 : V5 → V5 → V16 → Bool → Option R) (x0 x1 : V5) (x2 : V16) : Option R :=
(S76 x1).bind fun r825 =>
k0 x0 x1 x2 r825
theorem t44_4 (S76) (h76 : (ctr76 S76).holds cl) (x0 x1 x2) : exec cl N c44_4 (e161 x0 x1 x2) K = g44_4 S76 (fun y0 y1 y2 y3 => K .normal (e162 y0 y1 y2 y3)) x0 x1 x2 := by
 rw [← put_eq h76]
 kernel_rfl
def g44_5 (k0 : K0 R) (x0 x1 : V5) (x2 : V16) (x3 : Bool) := k0 (false, ([], ()), ([], ()), ()) (6 : Int)
theorem t44_5 (x0 x1 x2 x3) : exec cl N c44_5 (e162 x0 x1 x2 x3) K = g44_5 (fun y0 y1 => K .normal (e86 y0 y1)) x0 x1 x2 x3 := by kernel_rfl
theorem kp44_2 (x0 x1 x2 x3) : keep [2, 3, 4, 5] (e162 x0 x1 x2 x3) = e161 x0 x1 x2 := by kernel_rfl
theorem hb44_1 (x0 x1 x2 x3) : boolOf? (ent (e162 x0 x1 x2 x3) (.t 16)) = some x3 := by kernel_rfl
def g44_7 (S77 : s77) (k0 : K0 R) (x0 x1 : V5) (x2 : V16) : Option R :=
(S77 false x0 x1).bind fun r827 =>
k0 r827 (0 : Int)
theorem t44_7 (S77) (h77 : (ctr77 S77).holds cl) (x0 x1 x2) : exec cl N c44_7 (e161 x0 x1 x2) K = g44_7 S77 (fun y0 y1 => K .normal (e86 y0 y1)) x0 x1 x2 := by
 rw [← put_eq h77]
 kernel_rfl
def g44_8 (S75 : s75) (S76 : s76) (S77 : s77) (k0 : K0 R) (k1 : K0 R) (x0 x1 : V5) := (g44_0 (g44_1 S75 (fun y0 y1 y2 y3 => brB y3 (g44_2 k0 y0 y1 y2 y3) ((g44_4 S76 (fun y0 y1 y2 y3 => brB y3 (g44_5 k0 y0 y1 y2 y3) ((g44_7 S77 k1) y0 y1 y2))) y0 y1 y2))) x0 x1)
theorem t44_8 (S75) (S76) (S77) (h75 : (ctr75 S75).holds cl) (h76 : (ctr76 S76).holds cl) (h77 : (ctr77 S77).holds cl) (x0 x1) : exec cl N c44_8 (e41 x0 x1) K = g44_8 S75 S76 S77 (fun y0 y1 => K .ret (e160 y0 y1)) (fun y0 y1 => K .ret (e86 y0 y1)) x0 x1 := by
 simp only [c44_8, B0, t44_0, t44_1 S75 h75, c44_3, exec_out, B1, hb44_0, Option.bind_some, t44_2, exec_ret, kp44_0, kp44_1, t44_4 S76 h76, c44_6, hb44_1, t44_5, kp44_2, t44_7 S77 h77]
 rfl
theorem rk44_0 (y0 y1) : retK d44 .ret (e160 y0 y1) = some [.v U12 y0, .v U1 y1] := by kernel_rfl
theorem rk44_1 (y0 y1) : retK d44 .ret (e86 y0 y1) = some [.v U12 y0, .v U1 y1] := by kernel_rfl
def g44 (S75 : s75) (S76 : s76) (S77 : s77) (x0 x1 : V5) (k : V16 → Int → Option R) := (g44_8 S75 S76 S77 k k x0 x1)
theorem gen44 (S75) (S76) (S77) (h75 : (ctr75 S75).holds cl) (h76 : (ctr76 S76).holds cl) (h77 : (ctr77 S77).holds cl) (x0 x1) (k : List E → Option R) : exec cl N c44 (e41 x0 x1) (fun e env => (retK d44 e env).bind k) = g44 S75 S76 S77 x0 x1 (fun r0 r1 => k [.v U12 r0, .v U1 r1]) := by
 simp only [c44, t44_8 S75 S76 S77 h75 h76 h77, rk44_0, rk44_1, Option.bind_some]
 rfl
def ctr44 (S : s44) : Ctr := cv2 44 U5 U5 S fun b => [.v U12 b.1, .v U1 b.2]
def S44 (N : Nat) (x0 : V5) (x1 : V5) : Option V19 := g44 (S75 N) (S76 N) (S77 N) x0 x1 (fun r0 r1 => some (r0, r1))
def g13_22 (S43 : s43) (k0 : Int → Int → Int → Int → Option R) (x0 : Int) (x1 : V16) : Option R :=
(S43 x0 (0 : Int) (60 : Int) (0 : Int) x1).bind fun r831 =>
k0 x0 r831.1 r831.2.1 r831.2.2
theorem t13_22 (S43) (h43 : (ctr43 S43).holds cl) (x0 x1) : exec cl N c13_22 (e163 x0 x1) K = g13_22 S43 (fun y0 y1 y2 y3 => exec cl N (.seq (.seq c13_2 c13_4) (.seq c13_5 (.seq (.seq c13_6 c13_20) (.seq c13_21 .ret)))) (e164 y0 y1 y2 y3) K) x0 x1 := by
 rw [← put_eq h43]
 kernel_rfl
def g13_2 (k0 : Int → Int → Int → Int → Bool → Option R) (x0 x1 x2 x3 : Int) := k0 x0 x1 x2 x3 (x3 != (0 : Int))
theorem t13_2 (x0 x1 x2 x3) : exec cl N c13_2 (e164 x0 x1 x2 x3) K = g13_2 (fun y0 y1 y2 y3 y4 => K .normal (e165 y0 y1 y2 y3 y4)) x0 x1 x2 x3 := by kernel_rfl
def g13_3 (k0 : K44 R) (x0 x1 x2 x3 : Int) (x4 : Bool) := k0 [] x3
theorem t13_3 (x0 x1 x2 x3 x4) : exec cl N c13_3 (e165 x0 x1 x2 x3 x4) K = g13_3 (fun y0 y1 => K .normal (e166 y0 y1)) x0 x1 x2 x3 x4 := by kernel_rfl
theorem kp13_0 (x0 x1) : keep [0, 4, 5, 6, 7] (e166 x0 x1) = e167 x0 x1 := by kernel_rfl
theorem kp13_1 (x0 x1 x2 x3 x4) : keep [0, 4, 5, 6, 7] (e165 x0 x1 x2 x3 x4) = e168 x0 x1 x2 := by kernel_rfl
theorem hb13_0 (x0 x1 x2 x3 x4) : boolOf? (ent (e165 x0 x1 x2 x3 x4) (.t 21)) = some x4 := by kernel_rfl
def g13_5 (k0 : Int → Int → Int → V18 → Option R) (x0 x1 x2 : Int) := k0 x0 x1 x2 []
theorem t13_5 (x0 x1 x2) : exec cl N c13_5 (e168 x0 x1 x2) K = g13_5 (fun y0 y1 y2 y3 => K .normal [(0, .v U1 y0), (6, .v U1 y1), (7, .v U1 y2), (9, .own true 26 U12 .no y3)]) x0 x1 x2 := by kernel_rfl
def g13_6 (k0 : K13 R) (x0 x1 x2 : Int) (x3 : V18) := k0 x0 x1 x2 x3 (IntKind.i64.wrap (x0 + (1 : Int))) (0 : Int)
theorem t13_6 (x0 x1 x2 x3) : exec cl N c13_6 [(0, .v U1 x0), (6, .v U1 x1), (7, .v U1 x2), (9, .own true 26 U12 .no x3)] K = g13_6 (fun y0 y1 y2 y3 y4 y5 => K .normal (e169 y0 y1 y2 y3 y4 y5)) x0 x1 x2 x3 := by kernel_rfl
theorem kp13_2 (x0 x1 x2 x3 x4 x5) : keep [0, 6, 7, 9, 24, 25] (e169 x0 x1 x2 x3 x4 x5) = e169 x0 x1 x2 x3 x4 x5 := by kernel_rfl
def g13_7 (k0 : Int → Int → Int → V18 → Int → Int → Bool → Option R) (x0 x1 x2 : Int) (x3 : V18) (x4 x5 : Int) := k0 x0 x1 x2 x3 x4 x5 (decide (x5 < x4))
theorem t13_7 (x0 x1 x2 x3 x4 x5) : exec cl N c13_7 (e169 x0 x1 x2 x3 x4 x5) K = g13_7 (fun y0 y1 y2 y3 y4 y5 y6 => K .normal (e170 y0 y1 y2 y3 y4 y5 y6)) x0 x1 x2 x3 x4 x5 := by kernel_rfl
theorem kp13_3 (x0 x1 x2 x3 x4 x5 x6) : keep [0, 6, 7, 9, 24, 25] (e170 x0 x1 x2 x3 x4 x5 x6) = e169 x0 x1 x2 x3 x4 x5 := by kernel_rfl
theorem hb13_1 (x0 x1 x2 x3 x4 x5 x6) : boolOf? (ent (e170 x0 x1 x2 x3 x4 x5 x6) (.t 26)) = some x6 := by kernel_rfl
def g13_15 (S44 : s44) (S45 : s45) (S46 : s46) (k0 : Int → Int → Int → V18 → V16 → Int → Int → Int → Option R) (x0 x1 x2 : Int) (x3 : V18) (x4 x5 : Int) : Option R :=
(S45 x0 x5 x1 x2).bind fun r835 =>
(S46 x2 x0).bind fun r836 =>
(S44 r835 r836).bind fun r837 =>
k0 x0 x1 x2 x3 r837.1 r837.2 x4 x5
theorem t13_15 (S44) (S45) (S46) (h44 : (ctr44 S44).holds cl) (h45 : (ctr45 S45).holds cl) (h46 : (ctr46 S46).holds cl) (x0 x1 x2 x3 x4 x5) : exec cl N c13_15 (e169 x0 x1 x2 x3 x4 x5) K = g13_15 S44 S45 S46 (fun y0 y1 y2 y3 y4 y5 y6 y7 => exec cl N (.seq (.seq c13_11 c13_13) c13_14) (e171 y0 y1 y2 y3 y4 y5 y6 y7) K) x0 x1 x2 x3 x4 x5 := by
 rw [← put_eq h44]
 rw [← put_eq h45]
 rw [← put_eq h46]
 kernel_rfl
def g13_11 (k0 : Int → Int → Int → V18 → V16 → Int → Int → Int → Bool → Option R) (x0 x1 x2 : Int) (x3 : V18) (x4 : V16) (x5 x6 x7 : Int) := k0 x0 x1 x2 x3 x4 x5 x6 x7 (x5 != (0 : Int))
theorem t13_11 (x0 x1 x2 x3 x4 x5 x6 x7) : exec cl N c13_11 (e171 x0 x1 x2 x3 x4 x5 x6 x7) K = g13_11 (fun y0 y1 y2 y3 y4 y5 y6 y7 y8 => K .normal (e172 y0 y1 y2 y3 y4 y5 y6 y7 y8)) x0 x1 x2 x3 x4 x5 x6 x7 := by kernel_rfl
def g13_12 (k0 : K44 R) (x0 x1 x2 : Int) (x3 : V18) (x4 : V16) (x5 x6 x7 : Int) (x8 : Bool) := k0 [] x5
theorem t13_12 (x0 x1 x2 x3 x4 x5 x6 x7 x8) : exec cl N c13_12 (e172 x0 x1 x2 x3 x4 x5 x6 x7 x8) K = g13_12 (fun y0 y1 => K .normal (e166 y0 y1)) x0 x1 x2 x3 x4 x5 x6 x7 x8 := by kernel_rfl
theorem kp13_4 (x0 x1) : keep [0, 4, 5, 6, 7, 9, 11, 24, 25] (e166 x0 x1) = e173 x0 x1 := by kernel_rfl
theorem kp13_5 (x0 x1 x2 x3 x4 x5 x6 x7 x8) : keep [0, 4, 5, 6, 7, 9, 11, 24, 25] (e172 x0 x1 x2 x3 x4 x5 x6 x7 x8) = e174 x0 x1 x2 x3 x4 x6 x7 := by kernel_rfl
theorem hb13_2 (x0 x1 x2 x3 x4 x5 x6 x7 x8) : boolOf? (ent (e172 x0 x1 x2 x3 x4 x5 x6 x7 x8) (.t 41)) = some x8 := by kernel_rfl
def g13_14 (k0 : K13 R) (x0 x1 x2 : Int) (x3 : V18) (x4 : V16) (x5 x6 : Int) : Option R :=
if x3.length + [x4].length ≤ 2513169434916 then
k0 x0 x1 x2 (x3 ++ [x4]) x5 x6
else none
theorem t13_14 (x0 x1 x2 x3 x4 x5 x6) : exec cl N c13_14 (e174 x0 x1 x2 x3 x4 x5 x6) K = g13_14 (fun y0 y1 y2 y3 y4 y5 => K .normal (e169 y0 y1 y2 y3 y4 y5)) x0 x1 x2 x3 x4 x5 x6 := by kernel_rfl
theorem kp13_6 (x0 x1) : keep [0, 4, 5, 6, 7, 9, 24, 25] (e173 x0 x1) = e175 x0 x1 := by kernel_rfl
theorem kp13_7 (x0 x1 x2 x3 x4 x5) : keep [0, 4, 5, 6, 7, 9, 24, 25] (e169 x0 x1 x2 x3 x4 x5) = e176 x0 x1 x2 x3 x4 x5 := by kernel_rfl
def g13_17 (k0 : K13 R) (x0 x1 x2 : Int) (x3 : V18) (x4 x5 : Int) := k0 x0 x1 x2 x3 x4 (IntKind.i64.wrap (x5 + (1 : Int)))
theorem t13_17 (x0 x1 x2 x3 x4 x5) : exec cl N c13_17 (e176 x0 x1 x2 x3 x4 x5) K = g13_17 (fun y0 y1 y2 y3 y4 y5 => K .normal (e169 y0 y1 y2 y3 y4 y5)) x0 x1 x2 x3 x4 x5 := by kernel_rfl
def g13_18 (S44 : s44) (S45 : s45) (S46 : s46) (k0 : K44 R) (k1 : K13 R) (k2 : K13 R) (x0 x1 x2 : Int) (x3 : V18) (x4 x5 : Int) := (g13_7 (fun y0 y1 y2 y3 y4 y5 y6 => brB y6 ((g13_15 S44 S45 S46 (g13_11 (fun y0 y1 y2 y3 y4 y5 y6 y7 y8 => brB y8 (g13_12 k0 y0 y1 y2 y3 y4 y5 y6 y7 y8) ((g13_14 ((g13_17 k1))) y0 y1 y2 y3 y4 y6 y7)))) y0 y1 y2 y3 y4 y5) (k2 y0 y1 y2 y3 y4 y5)) x0 x1 x2 x3 x4 x5)
theorem t13_18 (S44) (S45) (S46) (h44 : (ctr44 S44).holds cl) (h45 : (ctr45 S45).holds cl) (h46 : (ctr46 S46).holds cl) (x0 x1 x2 x3 x4 x5) : exec cl N c13_18 (e169 x0 x1 x2 x3 x4 x5) K = g13_18 S44 S45 S46 (fun y0 y1 => K .ret (e175 y0 y1)) (fun y0 y1 y2 y3 y4 y5 => K .normal (e169 y0 y1 y2 y3 y4 y5)) (fun y0 y1 y2 y3 y4 y5 => K (.exit 0) (e169 y0 y1 y2 y3 y4 y5)) x0 x1 x2 x3 x4 x5 := by
 simp only [c13_18, B0, t13_7, c13_8, exec_out, B1, hb13_1, Option.bind_some, exec_exit, kp13_3, c13_16, B2, t13_15 S44 S45 S46 h44 h45 h46, t13_11, c13_13, hb13_2, t13_12, exec_ret, kp13_4, kp13_5, t13_14, kp13_6, kp13_7, t13_17]
 rfl
def l13_19 {R : Type} (S44 : s44) (S45 : s45) (S46 : s46) (k0 : K44 R) (k1 : K13 R) : Nat → Int → Int → Int → V18 → Int → Int → Option R
 | 0, _, _, _, _, _, _ => none
 | m + 1, x0, x1, x2, x3, x4, x5 => (g13_18 S44 S45 S46 k0 (l13_19 S44 S45 S46 k0 k1 m) k1 x0 x1 x2 x3 x4 x5)
theorem lt13_19 (S44) (S45) (S46) (h44 : (ctr44 S44).holds cl) (h45 : (ctr45 S45).holds cl) (h46 : (ctr46 S46).holds cl) : ∀ (m) (x0 x1 x2 x3 x4 x5), iter [0, 6, 7, 9, 24, 25] (fun env K => exec cl N c13_18 env K) K m (e169 x0 x1 x2 x3 x4 x5) = l13_19 S44 S45 S46 (fun y0 y1 => K .ret (e175 y0 y1)) (fun y0 y1 y2 y3 y4 y5 => K (.exit 0) (e169 y0 y1 y2 y3 y4 y5)) m x0 x1 x2 x3 x4 x5 := by
 intro m
 induction m with
 | zero => intros; rfl
 | succ m ih =>
   intro x0 x1 x2 x3 x4 x5
   simp only [B3, t13_18 S44 S45 S46 h44 h45 h46, kp13_2, ih]
   rfl
theorem kp13_8 (x0 x1) : keep [4, 5, 9] (e175 x0 x1) = e177 x0 x1 := by kernel_rfl
theorem kp13_9 (x0 x1 x2 x3 x4 x5) : keep [4, 5, 9] (e169 x0 x1 x2 x3 x4 x5) = e178 x3 := by kernel_rfl
def g13_19 (N : Nat) (S44 : s44) (S45 : s45) (S46 : s46) (k0 : K44 R) (k1 : V18 → Option R) (x0 x1 x2 : Int) (x3 : V18) (x4 x5 : Int) : Option R :=
l13_19 S44 S45 S46 k0 (fun y0 y1 y2 y3 y4 y5 => k1 y3) N x0 x1 x2 x3 x4 x5
theorem t13_19 (S44) (S45) (S46) (h44 : (ctr44 S44).holds cl) (h45 : (ctr45 S45).holds cl) (h46 : (ctr46 S46).holds cl) (x0 x1 x2 x3 x4 x5) : exec cl N c13_19 (e169 x0 x1 x2 x3 x4 x5) K = g13_19 N S44 S45 S46 (fun y0 y1 => K .ret (e177 y0 y1)) (fun y0 => K (.exit 0) (e178 y0)) x0 x1 x2 x3 x4 x5 := by
 simp only [c13_19, exec_out, exec_loop, kp13_2, lt13_19 S44 S45 S46 h44 h45 h46, kp13_8, kp13_9]
 rfl
theorem kp13_10 (x0 x1) : keep [4, 5, 9] (e177 x0 x1) = e177 x0 x1 := by kernel_rfl
theorem kp13_11 (x0) : keep [4, 5, 9] (e178 x0) = e178 x0 := by kernel_rfl
def g13_21 (k0 : Int → V18 → Option R) (x0 : V18) := k0 (0 : Int) x0
theorem t13_21 (x0) : exec cl N c13_21 (e178 x0) K = g13_21 (fun y0 y1 => K .normal (e179 y0 y1)) x0 := by kernel_rfl
def g13_22b (N : Nat) (S43 : s43) (S44 : s44) (S45 : s45) (S46 : s46) (k0 : K44 R) (k1 : K44 R) (k2 : Int → V18 → Option R) (x0 : Int) (x1 : V16) := (g13_22 S43 (g13_2 (fun y0 y1 y2 y3 y4 => brB y4 (g13_3 k0 y0 y1 y2 y3 y4) ((g13_5 (g13_6 (g13_19 N S44 S45 S46 k1 ((g13_21 k2))))) y0 y1 y2))) x0 x1)
theorem t13_22b (S43) (S44) (S45) (S46) (h43 : (ctr43 S43).holds cl) (h44 : (ctr44 S44).holds cl) (h45 : (ctr45 S45).holds cl) (h46 : (ctr46 S46).holds cl) (x0 x1) : exec cl N c13_22 (e163 x0 x1) K = g13_22b N S43 S44 S45 S46 (fun y0 y1 => K .ret (e167 y0 y1)) (fun y0 y1 => K .ret (e177 y0 y1)) (fun y0 y1 => K .ret (e179 y0 y1)) x0 x1 := by
 simp only [B0, t13_22 S43 h43, t13_2, c13_4, exec_out, B1, hb13_0, Option.bind_some, t13_3, exec_ret, kp13_0, kp13_1, t13_5, t13_6, c13_20, B2, t13_19 S44 S45 S46 h44 h45 h46, kp13_10, kp13_11, t13_21]
 rfl
theorem rk13_0 (y0 y1) : retK d13 .ret (e167 y0 y1) = some [.own true 26 U12 .no y0, .v U1 y1] := by kernel_rfl
theorem rk13_1 (y0 y1) : retK d13 .ret (e177 y0 y1) = some [.own true 26 U12 .no y0, .v U1 y1] := by kernel_rfl
theorem rk13_2 (y0 y1) : retK d13 .ret (e179 y0 y1) = some [.own true 26 U12 .no y1, .v U1 y0] := by kernel_rfl
def g13 (N : Nat) (S43 : s43) (S44 : s44) (S45 : s45) (S46 : s46) (x0 : Int) (x1 : V16) (k : V18 → Int → Option R) := (g13_22b N S43 S44 S45 S46 k k (fun y0 y1 => k y1 y0) x0 x1)
theorem gen13 (S43) (S44) (S45) (S46) (h43 : (ctr43 S43).holds cl) (h44 : (ctr44 S44).holds cl) (h45 : (ctr45 S45).holds cl) (h46 : (ctr46 S46).holds cl) (x0 x1) (k : List E → Option R) : exec cl N c13 (e163 x0 x1) (fun e env => (retK d13 e env).bind k) = g13 N S43 S44 S45 S46 x0 x1 (fun r0 r1 => k [.own true 26 U12 .no r0, .v U1 r1]) := by
 simp only [c13, t13_22b S43 S44 S45 S46 h43 h44 h45 h46, rk13_0, rk13_1, rk13_2, Option.bind_some]
 rfl
def ctr13 (S : s13) : Ctr := cv2 13 U1 U12 S fun b => [.own true 26 U12 .no b.1, .v U1 b.2]
def S13 (N : Nat) (x0 : Int) (x1 : V16) : Option V20 := g13 N (S43 N) (S44 N) (S45 N) (S46 N) x0 x1 (fun r0 r1 => some (r0, r1))
def g60_2 (S90 : s90) (k0 : K21 R) (x0 x1 : V5) : Option R :=
(S90 x0.1 x1.1).bind fun r853 =>
k0 r853
theorem t60_2 (S90) (h90 : (ctr90 S90).holds cl) (x0 x1) : exec cl N c60_2 (e41 x0 x1) K = g60_2 S90 (fun y0 => exec cl N .ret [(4, .v U1 y0)] K) x0 x1 := by
 rw [← put_eq h90]
 kernel_rfl
def g60_2b (S90 : s90) (k0 : K21 R) (x0 x1 : V5) := (g60_2 S90 k0 x0 x1)
theorem t60_2b (S90) (h90 : (ctr90 S90).holds cl) (x0 x1) : exec cl N c60_2 (e41 x0 x1) K = g60_2b S90 (fun y0 => K .ret [(4, .v U1 y0)]) x0 x1 := by
 simp only [B0, t60_2 S90 h90, exec_ret]
 rfl
theorem rk60_0 (y0) : retK d60 .ret [(4, .v U1 y0)] = some [.v U1 y0] := by kernel_rfl
def g60 (S90 : s90) (x0 x1 : V5) (k : Int → Option R) := (g60_2b S90 k x0 x1)
theorem gen60 (S90) (h90 : (ctr90 S90).holds cl) (x0 x1) (k : List E → Option R) : exec cl N c60 (e41 x0 x1) (fun e env => (retK d60 e env).bind k) = g60 S90 x0 x1 (fun r0 => k [.v U1 r0]) := by
 simp only [c60, t60_2b S90 h90, rk60_0, Option.bind_some]
 rfl
def ctr60 (S : s60) : Ctr := cv2 60 U5 U5 S fun b => [.v U1 b]
def S60 (N : Nat) (x0 : V5) (x1 : V5) : Option (Int) := g60 (S90 N) x0 x1 (fun r0 => some (r0))
def g51_2 (S60 : s60) (k0 : K11 R) (x0 x1 : V5) : Option R :=
(S60 x0 x1).bind fun r856 =>
k0 (r856 == (0 : Int))
theorem t51_2 (S60) (h60 : (ctr60 S60).holds cl) (x0 x1) : exec cl N c51_2 (e41 x0 x1) K = g51_2 S60 (fun y0 => exec cl N .ret [(4, .v .bool y0)] K) x0 x1 := by
 rw [← put_eq h60]
 kernel_rfl
def g51_2b (S60 : s60) (k0 : K11 R) (x0 x1 : V5) := (g51_2 S60 k0 x0 x1)
theorem t51_2b (S60) (h60 : (ctr60 S60).holds cl) (x0 x1) : exec cl N c51_2 (e41 x0 x1) K = g51_2b S60 (fun y0 => K .ret [(4, .v .bool y0)]) x0 x1 := by
 simp only [B0, t51_2 S60 h60, exec_ret]
 rfl
theorem rk51_0 (y0) : retK d51 .ret [(4, .v .bool y0)] = some [.v .bool y0] := by kernel_rfl
def g51 (S60 : s60) (x0 x1 : V5) (k : Bool → Option R) := (g51_2b S60 k x0 x1)
theorem gen51 (S60) (h60 : (ctr60 S60).holds cl) (x0 x1) (k : List E → Option R) : exec cl N c51 (e41 x0 x1) (fun e env => (retK d51 e env).bind k) = g51 S60 x0 x1 (fun r0 => k [.v .bool r0]) := by
 simp only [c51, t51_2b S60 h60, rk51_0, Option.bind_some]
 rfl
def ctr51 (S : s51) : Ctr := cv2 51 U5 U5 S fun b => [.v .bool b]
def S51 (N : Nat) (x0 : V5) (x1 : V5) : Option (Bool) := g51 (S60 N) x0 x1 (fun r0 => some (r0))
def g54_0 (k0 : K47 R) (x0 : V16) := k0 x0
theorem t54_0 (x0) : exec cl N c54_0 [(0, .v U12 x0)] K = g54_0 (fun y0 => K .normal [(1, .loc U12 .no y0)]) x0 := by kernel_rfl
def g54_1 (S56 : s56) (S86 : s86) (k0 : V16 → Bool → Option R) (x0 : V16) : Option R :=
(S86 x0.2.1).bind fun r859 =>
brB (!r859) (k0 x0 true) ((S86 x0.2.2.1).bind fun r860 =>
brB (!r860) (k0 x0 true) ((S56 x0.2.2.1).bind fun r861 =>
brB r861 (k0 x0 true) ((S56 x0.2.1).bind fun r862 =>
brB r862 (k0 x0 x0.1) (k0 x0 false))))
theorem t54_1 (S56) (S86) (h56 : (ctr56 S56).holds cl) (h86 : (ctr86 S86).holds cl) (x0) : exec cl N c54_1 [(1, .loc U12 .no x0)] K = g54_1 S56 S86 (fun y0 y1 => K .normal (e121 y0 y1)) x0 := by
 rw [← put_eq h56]
 rw [← put_eq h86]
 kernel_rfl
def g54_2 (k0 : K11 R) (x0 : V16) (x1 : Bool) := k0 false
theorem t54_2 (x0 x1) : exec cl N c54_2 (e121 x0 x1) K = g54_2 (fun y0 => K .normal [(2, .v .bool y0)]) x0 x1 := by kernel_rfl
theorem kp54_0 (x0) : keep [1, 2] [(2, .v .bool x0)] = e122 x0 := by kernel_rfl
theorem kp54_1 (x0 x1) : keep [1, 2] (e121 x0 x1) = e123 x0 := by kernel_rfl
theorem hb54_0 (x0 x1) : boolOf? (ent (e121 x0 x1) (.t 28)) = some x1 := by kernel_rfl
def g54_6 (S51 : s51) (S53 : s53) (S83 : s83) (k0 : K11 R) (x0 : V16) : Option R :=
(S83 x0.2.1 x0.2.2.1).bind fun r864 =>
(S53 (1 : Int)).bind fun r865 =>
(S51 r864.1 r865).bind fun r866 =>
k0 r866
theorem t54_6 (S51) (S53) (S83) (h51 : (ctr51 S51).holds cl) (h53 : (ctr53 S53).holds cl) (h83 : (ctr83 S83).holds cl) (x0) : exec cl N c54_6 (e123 x0) K = g54_6 S51 S53 S83 (fun y0 => exec cl N .ret [(2, .v .bool y0)] K) x0 := by
 rw [← put_eq h51]
 rw [← put_eq h53]
 rw [← put_eq h83]
 kernel_rfl
def g54_7 (S51 : s51) (S53 : s53) (S56 : s56) (S83 : s83) (S86 : s86) (k0 : K11 R) (k1 : K11 R) (x0 : V16) := (g54_0 (g54_1 S56 S86 (fun y0 y1 => brB y1 (g54_2 k0 y0 y1) ((g54_6 S51 S53 S83 k1) y0))) x0)
theorem t54_7 (S51) (S53) (S56) (S83) (S86) (h51 : (ctr51 S51).holds cl) (h53 : (ctr53 S53).holds cl) (h56 : (ctr56 S56).holds cl) (h83 : (ctr83 S83).holds cl) (h86 : (ctr86 S86).holds cl) (x0) : exec cl N c54_7 [(0, .v U12 x0)] K = g54_7 S51 S53 S56 S83 S86 (fun y0 => K .ret (e122 y0)) (fun y0 => K .ret [(2, .v .bool y0)]) x0 := by
 simp only [c54_7, B0, t54_0, t54_1 S56 S86 h56 h86, c54_3, exec_out, B1, hb54_0, Option.bind_some, t54_2, exec_ret, kp54_0, kp54_1, t54_6 S51 S53 S83 h51 h53 h83]
 rfl
theorem rk54_0 (y0) : retK d54 .ret (e122 y0) = some [.v .bool y0] := by kernel_rfl
theorem rk54_1 (y0) : retK d54 .ret [(2, .v .bool y0)] = some [.v .bool y0] := by kernel_rfl
def g54 (S51 : s51) (S53 : s53) (S56 : s56) (S83 : s83) (S86 : s86) (x0 : V16) (k : Bool → Option R) := (g54_7 S51 S53 S56 S83 S86 k k x0)
theorem gen54 (S51) (S53) (S56) (S83) (S86) (h51 : (ctr51 S51).holds cl) (h53 : (ctr53 S53).holds cl) (h56 : (ctr56 S56).holds cl) (h83 : (ctr83 S83).holds cl) (h86 : (ctr86 S86).holds cl) (x0) (k : List E → Option R) : exec cl N c54 [(0, .v U12 x0)] (fun e env => (retK d54 e env).bind k) = g54 S51 S53 S56 S83 S86 x0 (fun r0 => k [.v .bool r0]) := by
 simp only [c54, t54_7 S51 S53 S56 S83 S86 h51 h53 h56 h83 h86, rk54_0, rk54_1, Option.bind_some]
 rfl
def ctr54 (S : s54) : Ctr := cv1 54 U12 S fun b => [.v .bool b]
def S54 (N : Nat) (x0 : V16) : Option (Bool) := g54 (S51 N) (S53 N) (S56 N) (S83 N) (S86 N) x0 (fun r0 => some (r0))
def g94_2 (S53 : s53) (k0 : K47 R) : Option R :=
(S53 (1 : Int)).bind fun r872 =>
k0 (false, ([], ()), r872, ())
theorem t94_2 (S53) (h53 : (ctr53 S53).holds cl) : exec cl N c94_2 [] K = g94_2 S53 (fun y0 => exec cl N .ret [(0, .loc U12 .no y0)] K) := by
 rw [← put_eq h53]
 kernel_rfl
def g94_2b (S53 : s53) (k0 : K47 R) := (g94_2 S53 k0)
theorem t94_2b (S53) (h53 : (ctr53 S53).holds cl) : exec cl N c94_2 [] K = g94_2b S53 (fun y0 => K .ret [(0, .loc U12 .no y0)]) := by
 simp only [B0, t94_2 S53 h53, exec_ret]
 rfl
theorem rk94_0 (y0) : retK d94 .ret [(0, .loc U12 .no y0)] = some [.v U12 y0] := by kernel_rfl
def g94 (S53 : s53) (k : V16 → Option R) := (g94_2b S53 k)
theorem gen94 (S53) (h53 : (ctr53 S53).holds cl) (k : List E → Option R) : exec cl N c94 [] (fun e env => (retK d94 e env).bind k) = g94 S53 (fun r0 => k [.v U12 r0]) := by
 simp only [c94, t94_2b S53 h53, rk94_0, Option.bind_some]
 rfl
def ctr94 (S : s94) : Ctr := { A := Unit, B := V16, f := 94, enc := fun a => [], dec := dec0, S := fun a => S, ent := fun b => [.v U12 b], ok := (fun es b h => dec0_some h) }
def S94 (N : Nat) : Option V17 := g94 (S53 N) (fun r0 => some (r0))
def g87_0 (k0 : V0 → V5 → Option R) (x0 : V0) := k0 x0 ([], ())
theorem t87_0 (x0) : exec cl N c87_0 [(0, .v U2 x0)] K = g87_0 (fun y0 y1 => K .normal (e115 y0 y1)) x0 := by kernel_rfl
def g87_1 (k0 : V0 → V5 → Bool → Option R) (x0 : V0) (x1 : V5) := k0 x0 x1 (decide ((x0.length : Int) > (200 : Int)))
theorem t87_1 (x0 x1) : exec cl N c87_1 (e115 x0 x1) K = g87_1 (fun y0 y1 y2 => K .normal (e139 y0 y1 y2)) x0 x1 := by kernel_rfl
def g87_2 (k0 : K3 R) (x0 : V0) (x1 : V5) (x2 : Bool) := k0 ([], ()) (3 : Int)
theorem t87_2 (x0 x1 x2) : exec cl N c87_2 (e139 x0 x1 x2) K = g87_2 (fun y0 y1 => K .normal (e2 y0 y1)) x0 x1 x2 := by kernel_rfl
theorem kp87_0 (x0 x1) : keep [0, 2, 3] (e2 x0 x1) = e3 x0 x1 := by kernel_rfl
theorem kp87_1 (x0 x1 x2) : keep [0, 2, 3] (e139 x0 x1 x2) = e140 x0 x1 := by kernel_rfl
theorem hb87_0 (x0 x1 x2) : boolOf? (ent (e139 x0 x1 x2) (.t 6)) = some x2 := by kernel_rfl
def g87_4 (k0 : K3 R) (x0 : V0) (x1 : V5) := k0 (x0, ()) (0 : Int)
theorem t87_4 (x0 x1) : exec cl N c87_4 (e140 x0 x1) K = g87_4 (fun y0 y1 => K .normal (e8 y0 y1)) x0 x1 := by kernel_rfl
def g87_5 (k0 : K3 R) (k1 : K3 R) (x0 : V0) := (g87_0 (g87_1 (fun y0 y1 y2 => brB y2 (g87_2 k0 y0 y1 y2) ((g87_4 k1) y0 y1))) x0)
theorem t87_5 (x0) : exec cl N c87_5 [(0, .v U2 x0)] K = g87_5 (fun y0 y1 => K .ret (e3 y0 y1)) (fun y0 y1 => K .ret (e8 y0 y1)) x0 := by
 simp only [c87_5, B0, t87_0, t87_1, c87_3, exec_out, B1, hb87_0, Option.bind_some, t87_2, exec_ret, kp87_0, kp87_1, t87_4]
 rfl
theorem rk87_0 (y0 y1) : retK d87 .ret (e3 y0 y1) = some [.v U5 y0, .v U1 y1] := by kernel_rfl
theorem rk87_1 (y0 y1) : retK d87 .ret (e8 y0 y1) = some [.v U5 y0, .v U1 y1] := by kernel_rfl
def g87 (x0 : V0) (k : V5 → Int → Option R) := (g87_5 k k x0)
theorem gen87 (x0) (k : List E → Option R) : exec cl N c87 [(0, .v U2 x0)] (fun e env => (retK d87 e env).bind k) = g87 x0 (fun r0 r1 => k [.v U5 r0, .v U1 r1]) := by
 simp only [c87, t87_5, rk87_0, rk87_1, Option.bind_some]
 rfl
def ctr87 (S : s87) : Ctr := cv1 87 U2 S fun b => [.v U5 b.1, .v U1 b.2]
def S87 (N : Nat) (x0 : V0) : Option V9 := g87 x0 (fun r0 r1 => some (r0, r1))
def g58_0 (k0 : K35 R) (x0 x1 : V5) := k0 x0 x1 ([], ())
theorem t58_0 (x0 x1) : exec cl N c58_0 (e41 x0 x1) K = g58_0 (fun y0 y1 y2 => K .normal (e42 y0 y1 y2)) x0 x1 := by kernel_rfl
def g58_1 (S86 : s86) (k0 : K20 R) (x0 x1 x2 : V5) : Option R :=
(S86 x0).bind fun r885 =>
brB (!r885) (k0 x0 x1 x2 true) ((S86 x1).bind fun r886 =>
k0 x0 x1 x2 (!r886))
theorem t58_1 (S86) (h86 : (ctr86 S86).holds cl) (x0 x1 x2) : exec cl N c58_1 (e42 x0 x1 x2) K = g58_1 S86 (fun y0 y1 y2 y3 => K .normal (e150 y0 y1 y2 y3)) x0 x1 x2 := by
 rw [← put_eq h86]
 kernel_rfl
def g58_2 (k0 : K3 R) (x0 x1 x2 : V5) (x3 : Bool) := k0 ([], ()) (1 : Int)
theorem t58_2 (x0 x1 x2 x3) : exec cl N c58_2 (e150 x0 x1 x2 x3) K = g58_2 (fun y0 y1 => K .normal (e44 y0 y1)) x0 x1 x2 x3 := by kernel_rfl
theorem kp58_0 (x0 x1) : keep [2, 3, 4, 5] (e44 x0 x1) = e45 x0 x1 := by kernel_rfl
theorem kp58_1 (x0 x1 x2 x3) : keep [2, 3, 4, 5] (e150 x0 x1 x2 x3) = e46 x0 x1 x2 := by kernel_rfl
theorem hb58_0 (x0 x1 x2 x3) : boolOf? (ent (e150 x0 x1 x2 x3) (.t 13)) = some x3 := by kernel_rfl
def g58_4 (S87 : s87) (S88 : s88) (k0 : K3 R) (x0 x1 x2 : V5) : Option R :=
(S88 x0.1 x1.1).bind fun r887 =>
(S87 r887).bind fun r888 =>
k0 r888.1 r888.2
theorem t58_4 (S87) (S88) (h87 : (ctr87 S87).holds cl) (h88 : (ctr88 S88).holds cl) (x0 x1 x2) : exec cl N c58_4 (e46 x0 x1 x2) K = g58_4 S87 S88 (fun y0 y1 => K .normal (e49 y0 y1)) x0 x1 x2 := by
 rw [← put_eq h87]
 rw [← put_eq h88]
 kernel_rfl
def g58_5 (S86 : s86) (S87 : s87) (S88 : s88) (k0 : K3 R) (k1 : K3 R) (x0 x1 : V5) := (g58_0 (g58_1 S86 (fun y0 y1 y2 y3 => brB y3 (g58_2 k0 y0 y1 y2 y3) ((g58_4 S87 S88 k1) y0 y1 y2))) x0 x1)
theorem t58_5 (S86) (S87) (S88) (h86 : (ctr86 S86).holds cl) (h87 : (ctr87 S87).holds cl) (h88 : (ctr88 S88).holds cl) (x0 x1) : exec cl N c58_5 (e41 x0 x1) K = g58_5 S86 S87 S88 (fun y0 y1 => K .ret (e45 y0 y1)) (fun y0 y1 => K .ret (e49 y0 y1)) x0 x1 := by
 simp only [c58_5, B0, t58_0, t58_1 S86 h86, c58_3, exec_out, B1, hb58_0, Option.bind_some, t58_2, exec_ret, kp58_0, kp58_1, t58_4 S87 S88 h87 h88]
 rfl
theorem rk58_0 (y0 y1) : retK d58 .ret (e45 y0 y1) = some [.v U5 y0, .v U1 y1] := by kernel_rfl
theorem rk58_1 (y0 y1) : retK d58 .ret (e49 y0 y1) = some [.v U5 y0, .v U1 y1] := by kernel_rfl
def g58 (S86 : s86) (S87 : s87) (S88 : s88) (x0 x1 : V5) (k : V5 → Int → Option R) := (g58_5 S86 S87 S88 k k x0 x1)
theorem gen58 (S86) (S87) (S88) (h86 : (ctr86 S86).holds cl) (h87 : (ctr87 S87).holds cl) (h88 : (ctr88 S88).holds cl) (x0 x1) (k : List E → Option R) : exec cl N c58 (e41 x0 x1) (fun e env => (retK d58 e env).bind k) = g58 S86 S87 S88 x0 x1 (fun r0 r1 => k [.v U5 r0, .v U1 r1]) := by
 simp only [c58, t58_5 S86 S87 S88 h86 h87 h88, rk58_0, rk58_1, Option.bind_some]
 rfl
def ctr58 (S : s58) : Ctr := cv2 58 U5 U5 S fun b => [.v U5 b.1, .v U1 b.2]
def S58 (N : Nat) (x0 : V5) (x1 : V5) : Option V9 := g58 (S86 N) (S87 N) (S88 N) x0 x1 (fun r0 r1 => some (r0, r1))
def g57_8 (S58 : s58) (k0 : V5 → V5 → V5 → V5 → V5 → Int → Option R) (x0 x1 x2 x3 : V5) : Option R :=
(S58 x0 x1).bind fun r893 =>
k0 x2 x3 ([], ()) ([], ()) r893.1 r893.2
theorem t57_8 (S58) (h58 : (ctr58 S58).holds cl) (x0 x1 x2 x3) : exec cl N c57_8 (e180 x0 x1 x2 x3) K = g57_8 S58 (fun y0 y1 y2 y3 y4 y5 => exec cl N (.seq (.seq c57_2 c57_4) c57_7) (e181 y0 y1 y2 y3 y4 y5) K) x0 x1 x2 x3 := by
 rw [← put_eq h58]
 kernel_rfl
def g57_2 (k0 : V5 → V5 → V5 → V5 → V5 → Int → Bool → Option R) (x0 x1 x2 x3 x4 : V5) (x5 : Int) := k0 x0 x1 x2 x3 x4 x5 (x5 != (0 : Int))
theorem t57_2 (x0 x1 x2 x3 x4 x5) : exec cl N c57_2 (e181 x0 x1 x2 x3 x4 x5) K = g57_2 (fun y0 y1 y2 y3 y4 y5 y6 => K .normal (e182 y0 y1 y2 y3 y4 y5 y6)) x0 x1 x2 x3 x4 x5 := by kernel_rfl
def g57_3 (k0 : K15 R) (x0 x1 x2 x3 x4 : V5) (x5 : Int) (x6 : Bool) := k0 x4 x4 x5
theorem t57_3 (x0 x1 x2 x3 x4 x5 x6) : exec cl N c57_3 (e182 x0 x1 x2 x3 x4 x5 x6) K = g57_3 (fun y0 y1 y2 => K .normal (e183 y0 y1 y2)) x0 x1 x2 x3 x4 x5 x6 := by kernel_rfl
theorem kp57_0 (x0 x1 x2) : keep [6, 7, 8, 9, 10, 11] (e183 x0 x1 x2) = e184 x0 x1 x2 := by kernel_rfl
theorem kp57_1 (x0 x1 x2 x3 x4 x5 x6) : keep [6, 7, 8, 9, 10, 11] (e182 x0 x1 x2 x3 x4 x5 x6) = e185 x0 x1 x2 x3 x4 := by kernel_rfl
theorem hb57_0 (x0 x1 x2 x3 x4 x5 x6) : boolOf? (ent (e182 x0 x1 x2 x3 x4 x5 x6) (.t 21)) = some x6 := by kernel_rfl
def g57_7 (S58 : s58) (k0 : K15 R) (x0 x1 x2 x3 x4 : V5) : Option R :=
(S58 x0 x1).bind fun r896 =>
k0 x4 r896.1 r896.2
theorem t57_7 (S58) (h58 : (ctr58 S58).holds cl) (x0 x1 x2 x3 x4) : exec cl N c57_7 (e185 x0 x1 x2 x3 x4) K = g57_7 S58 (fun y0 y1 y2 => exec cl N .ret (e183 y0 y1 y2) K) x0 x1 x2 x3 x4 := by
 rw [← put_eq h58]
 kernel_rfl
def g57_8b (S58 : s58) (k0 : K15 R) (k1 : K15 R) (x0 x1 x2 x3 : V5) := (g57_8 S58 (g57_2 (fun y0 y1 y2 y3 y4 y5 y6 => brB y6 (g57_3 k0 y0 y1 y2 y3 y4 y5 y6) ((g57_7 S58 k1) y0 y1 y2 y3 y4))) x0 x1 x2 x3)
theorem t57_8b (S58) (h58 : (ctr58 S58).holds cl) (x0 x1 x2 x3) : exec cl N c57_8 (e180 x0 x1 x2 x3) K = g57_8b S58 (fun y0 y1 y2 => K .ret (e184 y0 y1 y2)) (fun y0 y1 y2 => K .ret (e183 y0 y1 y2)) x0 x1 x2 x3 := by
 simp only [B0, t57_8 S58 h58, t57_2, c57_4, exec_out, B1, hb57_0, Option.bind_some, t57_3, exec_ret, kp57_0, kp57_1, t57_7 S58 h58]
 rfl
theorem rk57_0 (y0 y1 y2) : retK d57 .ret (e184 y0 y1 y2) = some [.v U5 y0, .v U5 y1, .v U1 y2] := by kernel_rfl
theorem rk57_1 (y0 y1 y2) : retK d57 .ret (e183 y0 y1 y2) = some [.v U5 y0, .v U5 y1, .v U1 y2] := by kernel_rfl
def g57 (S58 : s58) (x0 x1 x2 x3 : V5) (k : V5 → V5 → Int → Option R) := (g57_8b S58 k k x0 x1 x2 x3)
theorem gen57 (S58) (h58 : (ctr58 S58).holds cl) (x0 x1 x2 x3) (k : List E → Option R) : exec cl N c57 (e180 x0 x1 x2 x3) (fun e env => (retK d57 e env).bind k) = g57 S58 x0 x1 x2 x3 (fun r0 r1 r2 => k [.v U5 r0, .v U5 r1, .v U1 r2]) := by
 simp only [c57, t57_8b S58 h58, rk57_0, rk57_1, Option.bind_some]
 rfl
def ctr57 (S : s57) : Ctr := cv4 57 U5 U5 U5 U5 S fun b => [.v U5 b.1, .v U5 b.2.1, .v U1 b.2.2]
def S57 (N : Nat) (x0 : V5) (x1 : V5) (x2 : V5) (x3 : V5) : Option V14 := g57 (S58 N) x0 x1 x2 x3 (fun r0 r1 r2 => some (r0, r1, r2))
def g59_0 (k0 : K35 R) (x0 x1 : V5) := k0 x0 x1 ([], ())
theorem t59_0 (x0 x1) : exec cl N c59_0 (e41 x0 x1) K = g59_0 (fun y0 y1 y2 => K .normal (e42 y0 y1 y2)) x0 x1 := by kernel_rfl
def g59_1 (S86 : s86) (k0 : K20 R) (x0 x1 x2 : V5) : Option R :=
(S86 x0).bind fun r908 =>
brB (!r908) (k0 x0 x1 x2 true) ((S86 x1).bind fun r909 =>
k0 x0 x1 x2 (!r909))
theorem t59_1 (S86) (h86 : (ctr86 S86).holds cl) (x0 x1 x2) : exec cl N c59_1 (e42 x0 x1 x2) K = g59_1 S86 (fun y0 y1 y2 y3 => K .normal (e150 y0 y1 y2 y3)) x0 x1 x2 := by
 rw [← put_eq h86]
 kernel_rfl
def g59_2 (k0 : K3 R) (x0 x1 x2 : V5) (x3 : Bool) := k0 ([], ()) (1 : Int)
theorem t59_2 (x0 x1 x2 x3) : exec cl N c59_2 (e150 x0 x1 x2 x3) K = g59_2 (fun y0 y1 => K .normal (e44 y0 y1)) x0 x1 x2 x3 := by kernel_rfl
theorem kp59_0 (x0 x1) : keep [2, 3, 4, 5] (e44 x0 x1) = e45 x0 x1 := by kernel_rfl
theorem kp59_1 (x0 x1 x2 x3) : keep [2, 3, 4, 5] (e150 x0 x1 x2 x3) = e46 x0 x1 x2 := by kernel_rfl
theorem hb59_0 (x0 x1 x2 x3) : boolOf? (ent (e150 x0 x1 x2 x3) (.t 13)) = some x3 := by kernel_rfl
def g59_4 (S87 : s87) (S89 : s89) (k0 : K3 R) (x0 x1 x2 : V5) : Option R :=
(S89 x0.1 x1.1).bind fun r910 =>
(S87 r910).bind fun r911 =>
k0 r911.1 r911.2
theorem t59_4 (S87) (S89) (h87 : (ctr87 S87).holds cl) (h89 : (ctr89 S89).holds cl) (x0 x1 x2) : exec cl N c59_4 (e46 x0 x1 x2) K = g59_4 S87 S89 (fun y0 y1 => K .normal (e49 y0 y1)) x0 x1 x2 := by
 rw [← put_eq h87]
 rw [← put_eq h89]
 kernel_rfl
def g59_5 (S86 : s86) (S87 : s87) (S89 : s89) (k0 : K3 R) (k1 : K3 R) (x0 x1 : V5) := (g59_0 (g59_1 S86 (fun y0 y1 y2 y3 => brB y3 (g59_2 k0 y0 y1 y2 y3) ((g59_4 S87 S89 k1) y0 y1 y2))) x0 x1)
theorem t59_5 (S86) (S87) (S89) (h86 : (ctr86 S86).holds cl) (h87 : (ctr87 S87).holds cl) (h89 : (ctr89 S89).holds cl) (x0 x1) : exec cl N c59_5 (e41 x0 x1) K = g59_5 S86 S87 S89 (fun y0 y1 => K .ret (e45 y0 y1)) (fun y0 y1 => K .ret (e49 y0 y1)) x0 x1 := by
 simp only [c59_5, B0, t59_0, t59_1 S86 h86, c59_3, exec_out, B1, hb59_0, Option.bind_some, t59_2, exec_ret, kp59_0, kp59_1, t59_4 S87 S89 h87 h89]
 rfl
theorem rk59_0 (y0 y1) : retK d59 .ret (e45 y0 y1) = some [.v U5 y0, .v U1 y1] := by kernel_rfl
theorem rk59_1 (y0 y1) : retK d59 .ret (e49 y0 y1) = some [.v U5 y0, .v U1 y1] := by kernel_rfl
def g59 (S86 : s86) (S87 : s87) (S89 : s89) (x0 x1 : V5) (k : V5 → Int → Option R) := (g59_5 S86 S87 S89 k k x0 x1)
theorem gen59 (S86) (S87) (S89) (h86 : (ctr86 S86).holds cl) (h87 : (ctr87 S87).holds cl) (h89 : (ctr89 S89).holds cl) (x0 x1) (k : List E → Option R) : exec cl N c59 (e41 x0 x1) (fun e env => (retK d59 e env).bind k) = g59 S86 S87 S89 x0 x1 (fun r0 r1 => k [.v U5 r0, .v U1 r1]) := by
 simp only [c59, t59_5 S86 S87 S89 h86 h87 h89, rk59_0, rk59_1, Option.bind_some]
 rfl
def ctr59 (S : s59) : Ctr := cv2 59 U5 U5 S fun b => [.v U5 b.1, .v U1 b.2]
def S59 (N : Nat) (x0 : V5) (x1 : V5) : Option V9 := g59 (S86 N) (S87 N) (S89 N) x0 x1 (fun r0 r1 => some (r0, r1))
def g61_0 (k0 : K35 R) (x0 x1 : V5) := k0 x0 x1 ([], ())
theorem t61_0 (x0 x1) : exec cl N c61_0 (e41 x0 x1) K = g61_0 (fun y0 y1 y2 => K .normal (e42 y0 y1 y2)) x0 x1 := by kernel_rfl
def g61_1 (S86 : s86) (k0 : K20 R) (x0 x1 x2 : V5) : Option R :=
(S86 x0).bind fun r923 =>
brB (!r923) (k0 x0 x1 x2 true) ((S86 x1).bind fun r924 =>
k0 x0 x1 x2 (!r924))
theorem t61_1 (S86) (h86 : (ctr86 S86).holds cl) (x0 x1 x2) : exec cl N c61_1 (e42 x0 x1 x2) K = g61_1 S86 (fun y0 y1 y2 y3 => K .normal (e150 y0 y1 y2 y3)) x0 x1 x2 := by
 rw [← put_eq h86]
 kernel_rfl
def g61_2 (k0 : K3 R) (x0 x1 x2 : V5) (x3 : Bool) := k0 ([], ()) (1 : Int)
theorem t61_2 (x0 x1 x2 x3) : exec cl N c61_2 (e150 x0 x1 x2 x3) K = g61_2 (fun y0 y1 => K .normal (e44 y0 y1)) x0 x1 x2 x3 := by kernel_rfl
theorem kp61_0 (x0 x1) : keep [2, 3, 4, 5] (e44 x0 x1) = e45 x0 x1 := by kernel_rfl
theorem kp61_1 (x0 x1 x2 x3) : keep [2, 3, 4, 5] (e150 x0 x1 x2 x3) = e46 x0 x1 x2 := by kernel_rfl
theorem hb61_0 (x0 x1 x2 x3) : boolOf? (ent (e150 x0 x1 x2 x3) (.t 13)) = some x3 := by kernel_rfl
def g61_4 (S60 : s60) (k0 : K20 R) (x0 x1 x2 : V5) : Option R :=
(S60 x0 x1).bind fun r925 =>
k0 x0 x1 x2 (decide (r925 < (0 : Int)))
theorem t61_4 (S60) (h60 : (ctr60 S60).holds cl) (x0 x1 x2) : exec cl N c61_4 (e46 x0 x1 x2) K = g61_4 S60 (fun y0 y1 y2 y3 => K .normal (e43 y0 y1 y2 y3)) x0 x1 x2 := by
 rw [← put_eq h60]
 kernel_rfl
def g61_5 (k0 : K3 R) (x0 x1 x2 : V5) (x3 : Bool) := k0 ([], ()) (6 : Int)
theorem t61_5 (x0 x1 x2 x3) : exec cl N c61_5 (e43 x0 x1 x2 x3) K = g61_5 (fun y0 y1 => K .normal (e44 y0 y1)) x0 x1 x2 x3 := by kernel_rfl
theorem kp61_2 (x0 x1 x2 x3) : keep [2, 3, 4, 5] (e43 x0 x1 x2 x3) = e46 x0 x1 x2 := by kernel_rfl
theorem hb61_1 (x0 x1 x2 x3) : boolOf? (ent (e43 x0 x1 x2 x3) (.t 18)) = some x3 := by kernel_rfl
def g61_7 (S91 : s91) (k0 : K3 R) (x0 x1 x2 : V5) : Option R :=
(S91 x0.1 x1.1).bind fun r927 =>
k0 (r927, ()) (0 : Int)
theorem t61_7 (S91) (h91 : (ctr91 S91).holds cl) (x0 x1 x2) : exec cl N c61_7 (e46 x0 x1 x2) K = g61_7 S91 (fun y0 y1 => K .normal (e49 y0 y1)) x0 x1 x2 := by
 rw [← put_eq h91]
 kernel_rfl
def g61_8 (S60 : s60) (S86 : s86) (S91 : s91) (k0 : K3 R) (k1 : K3 R) (x0 x1 : V5) := (g61_0 (g61_1 S86 (fun y0 y1 y2 y3 => brB y3 (g61_2 k0 y0 y1 y2 y3) ((g61_4 S60 (fun y0 y1 y2 y3 => brB y3 (g61_5 k0 y0 y1 y2 y3) ((g61_7 S91 k1) y0 y1 y2))) y0 y1 y2))) x0 x1)
theorem t61_8 (S60) (S86) (S91) (h60 : (ctr60 S60).holds cl) (h86 : (ctr86 S86).holds cl) (h91 : (ctr91 S91).holds cl) (x0 x1) : exec cl N c61_8 (e41 x0 x1) K = g61_8 S60 S86 S91 (fun y0 y1 => K .ret (e45 y0 y1)) (fun y0 y1 => K .ret (e49 y0 y1)) x0 x1 := by
 simp only [c61_8, B0, t61_0, t61_1 S86 h86, c61_3, exec_out, B1, hb61_0, Option.bind_some, t61_2, exec_ret, kp61_0, kp61_1, t61_4 S60 h60, c61_6, hb61_1, t61_5, kp61_2, t61_7 S91 h91]
 rfl
theorem rk61_0 (y0 y1) : retK d61 .ret (e45 y0 y1) = some [.v U5 y0, .v U1 y1] := by kernel_rfl
theorem rk61_1 (y0 y1) : retK d61 .ret (e49 y0 y1) = some [.v U5 y0, .v U1 y1] := by kernel_rfl
def g61 (S60 : s60) (S86 : s86) (S91 : s91) (x0 x1 : V5) (k : V5 → Int → Option R) := (g61_8 S60 S86 S91 k k x0 x1)
theorem gen61 (S60) (S86) (S91) (h60 : (ctr60 S60).holds cl) (h86 : (ctr86 S86).holds cl) (h91 : (ctr91 S91).holds cl) (x0 x1) (k : List E → Option R) : exec cl N c61 (e41 x0 x1) (fun e env => (retK d61 e env).bind k) = g61 S60 S86 S91 x0 x1 (fun r0 r1 => k [.v U5 r0, .v U1 r1]) := by
 simp only [c61, t61_8 S60 S86 S91 h60 h86 h91, rk61_0, rk61_1, Option.bind_some]
 rfl
def ctr61 (S : s61) : Ctr := cv2 61 U5 U5 S fun b => [.v U5 b.1, .v U1 b.2]
def S61 (N : Nat) (x0 : V5) (x1 : V5) : Option V9 := g61 (S60 N) (S86 N) (S91 N) x0 x1 (fun r0 r1 => some (r0, r1))
def g26_0 (k0 : V16 → V16 → V16 → Option R) (x0 x1 : V16) := k0 x0 x1 (false, (([], ()), (([], ()), ())))
theorem t26_0 (x0 x1) : exec cl N c26_0 (e186 x0 x1) K = g26_0 (fun y0 y1 y2 => K .normal (e187 y0 y1 y2)) x0 x1 := by kernel_rfl
def g26_1 (S54 : s54) (k0 : V16 → V16 → V16 → Bool → Option R) (x0 x1 x2 : V16) : Option R :=
(S54 x0).bind fun r934 =>
brB (!r934) (k0 x0 x1 x2 true) ((S54 x1).bind fun r935 =>
k0 x0 x1 x2 (!r935))
theorem t26_1 (S54) (h54 : (ctr54 S54).holds cl) (x0 x1 x2) : exec cl N c26_1 (e187 x0 x1 x2) K = g26_1 S54 (fun y0 y1 y2 y3 => K .normal (e188 y0 y1 y2 y3)) x0 x1 x2 := by
 rw [← put_eq h54]
 kernel_rfl
def g26_2 (k0 : K0 R) (x0 x1 x2 : V16) (x3 : Bool) := k0 (false, ([], ()), ([], ()), ()) (1 : Int)
theorem t26_2 (x0 x1 x2 x3) : exec cl N c26_2 (e188 x0 x1 x2 x3) K = g26_2 (fun y0 y1 => K .normal (e86 y0 y1)) x0 x1 x2 x3 := by kernel_rfl
theorem kp26_0 (x0 x1) : keep [2, 3, 4, 5] (e86 x0 x1) = e160 x0 x1 := by kernel_rfl
theorem kp26_1 (x0 x1 x2 x3) : keep [2, 3, 4, 5] (e188 x0 x1 x2 x3) = e189 x0 x1 x2 := by kernel_rfl
theorem hb26_0 (x0 x1 x2 x3) : boolOf? (ent (e188 x0 x1 x2 x3) (.t 23)) = some x3 := by kernel_rfl
def g26_4 (S57 : s57) (k0 : V16 → V16 → V16 → V5 → V5 → Int → Option R) (x0 x1 x2 : V16) : Option R :=
(S57 x0.2.1 x1.2.2.1 x1.2.1 x0.2.2.1).bind fun r937 =>
k0 x0 x1 x2 r937.1 r937.2.1 r937.2.2
theorem t26_4 (S57) (h57 : (ctr57 S57).holds cl) (x0 x1 x2) : exec cl N c26_4 (e189 x0 x1 x2) K = g26_4 S57 (fun y0 y1 y2 y3 y4 y5 => K .normal (e190 y0 y1 y2 y3 y4 y5)) x0 x1 x2 := by
 rw [← put_eq h57]
 kernel_rfl
def g26_5 (k0 : V16 → V16 → V16 → V5 → V5 → Int → Bool → Option R) (x0 x1 x2 : V16) (x3 x4 : V5) (x5 : Int) := k0 x0 x1 x2 x3 x4 x5 (x5 != (0 : Int))
theorem t26_5 (x0 x1 x2 x3 x4 x5) : exec cl N c26_5 (e190 x0 x1 x2 x3 x4 x5) K = g26_5 (fun y0 y1 y2 y3 y4 y5 y6 => K .normal (e191 y0 y1 y2 y3 y4 y5 y6)) x0 x1 x2 x3 x4 x5 := by kernel_rfl
def g26_6 (k0 : K0 R) (x0 x1 x2 : V16) (x3 x4 : V5) (x5 : Int) (x6 : Bool) := k0 (false, ([], ()), ([], ()), ()) x5
theorem t26_6 (x0 x1 x2 x3 x4 x5 x6) : exec cl N c26_6 (e191 x0 x1 x2 x3 x4 x5 x6) K = g26_6 (fun y0 y1 => K .normal (e86 y0 y1)) x0 x1 x2 x3 x4 x5 x6 := by kernel_rfl
theorem kp26_2 (x0 x1) : keep [2, 3, 4, 5, 6, 7] (e86 x0 x1) = e192 x0 x1 := by kernel_rfl
theorem kp26_3 (x0 x1 x2 x3 x4 x5 x6) : keep [2, 3, 4, 5, 6, 7] (e191 x0 x1 x2 x3 x4 x5 x6) = e193 x0 x1 x2 x3 x4 := by kernel_rfl
theorem hb26_1 (x0 x1 x2 x3 x4 x5 x6) : boolOf? (ent (e191 x0 x1 x2 x3 x4 x5 x6) (.t 39)) = some x6 := by kernel_rfl
def g26_8 (S58 : s58) (k0 : V16 → V16 → V16 → V5 → V5 → Int → V5 → Option R) (x0 x1 x2 : V16) (x3 x4 : V5) : Option R :=
(S58 x0.2.2.1 x1.2.2.1).bind fun r940 =>
k0 x0 x1 x2 x3 x4 r940.2 r940.1
theorem t26_8 (S58) (h58 : (ctr58 S58).holds cl) (x0 x1 x2 x3 x4) : exec cl N c26_8 (e193 x0 x1 x2 x3 x4) K = g26_8 S58 (fun y0 y1 y2 y3 y4 y5 y6 => K .normal (e194 y0 y1 y2 y3 y4 y5 y6)) x0 x1 x2 x3 x4 := by
 rw [← put_eq h58]
 kernel_rfl
def g26_9 (k0 : V16 → V16 → V16 → V5 → V5 → Int → V5 → Bool → Option R) (x0 x1 x2 : V16) (x3 x4 : V5) (x5 : Int) (x6 : V5) := k0 x0 x1 x2 x3 x4 x5 x6 (x5 != (0 : Int))
theorem t26_9 (x0 x1 x2 x3 x4 x5 x6) : exec cl N c26_9 (e194 x0 x1 x2 x3 x4 x5 x6) K = g26_9 (fun y0 y1 y2 y3 y4 y5 y6 y7 => K .normal (e195 y0 y1 y2 y3 y4 y5 y6 y7)) x0 x1 x2 x3 x4 x5 x6 := by kernel_rfl
def g26_10 (k0 : K0 R) (x0 x1 x2 : V16) (x3 x4 : V5) (x5 : Int) (x6 : V5) (x7 : Bool) := k0 (false, ([], ()), ([], ()), ()) x5
theorem t26_10 (x0 x1 x2 x3 x4 x5 x6 x7) : exec cl N c26_10 (e195 x0 x1 x2 x3 x4 x5 x6 x7) K = g26_10 (fun y0 y1 => K .normal (e86 y0 y1)) x0 x1 x2 x3 x4 x5 x6 x7 := by kernel_rfl
theorem kp26_4 (x0 x1) : keep [2, 3, 4, 5, 6, 7, 9] (e86 x0 x1) = e196 x0 x1 := by kernel_rfl
theorem kp26_5 (x0 x1 x2 x3 x4 x5 x6 x7) : keep [2, 3, 4, 5, 6, 7, 9] (e195 x0 x1 x2 x3 x4 x5 x6 x7) = e197 x0 x1 x2 x3 x4 x6 := by kernel_rfl
theorem hb26_2 (x0 x1 x2 x3 x4 x5 x6 x7) : boolOf? (ent (e195 x0 x1 x2 x3 x4 x5 x6 x7) (.t 51)) = some x7 := by kernel_rfl
def g26_12 (k0 : V16 → V16 → V16 → V5 → V5 → V5 → Bool → Option R) (x0 x1 x2 : V16) (x3 x4 x5 : V5) := k0 x0 x1 x2 x3 x4 x5 (x0.1 == x1.1)
theorem t26_12 (x0 x1 x2 x3 x4 x5) : exec cl N c26_12 (e197 x0 x1 x2 x3 x4 x5) K = g26_12 (fun y0 y1 y2 y3 y4 y5 y6 => K .normal (e198 y0 y1 y2 y3 y4 y5 y6)) x0 x1 x2 x3 x4 x5 := by kernel_rfl
def g26_13 (S59 : s59) (k0 : V16 → V16 → V5 → V5 → Int → Option R) (x0 x1 x2 : V16) (x3 x4 x5 : V5) (x6 : Bool) : Option R :=
(S59 x3 x4).bind fun r944 =>
k0 x0 x2 x5 r944.1 r944.2
theorem t26_13 (S59) (h59 : (ctr59 S59).holds cl) (x0 x1 x2 x3 x4 x5 x6) : exec cl N c26_13 (e198 x0 x1 x2 x3 x4 x5 x6) K = g26_13 S59 (fun y0 y1 y2 y3 y4 => K .normal (e199 y0 y1 y2 y3 y4)) x0 x1 x2 x3 x4 x5 x6 := by
 rw [← put_eq h59]
 kernel_rfl
def g26_14 (k0 : V16 → V16 → V5 → V5 → Int → Bool → Option R) (x0 x1 : V16) (x2 x3 : V5) (x4 : Int) := k0 x0 x1 x2 x3 x4 (x4 != (0 : Int))
theorem t26_14 (x0 x1 x2 x3 x4) : exec cl N c26_14 (e199 x0 x1 x2 x3 x4) K = g26_14 (fun y0 y1 y2 y3 y4 y5 => K .normal (e200 y0 y1 y2 y3 y4 y5)) x0 x1 x2 x3 x4 := by kernel_rfl
def g26_15 (k0 : K0 R) (x0 x1 : V16) (x2 x3 : V5) (x4 : Int) (x5 : Bool) := k0 (false, ([], ()), ([], ()), ()) x4
theorem t26_15 (x0 x1 x2 x3 x4 x5) : exec cl N c26_15 (e200 x0 x1 x2 x3 x4 x5) K = g26_15 (fun y0 y1 => K .normal (e86 y0 y1)) x0 x1 x2 x3 x4 x5 := by kernel_rfl
theorem kp26_6 (x0 x1) : keep [2, 4, 5, 9, 10] (e86 x0 x1) = e201 x0 x1 := by kernel_rfl
theorem kp26_7 (x0 x1 x2 x3 x4 x5) : keep [2, 4, 5, 9, 10] (e200 x0 x1 x2 x3 x4 x5) = e202 x0 x1 x2 x3 := by kernel_rfl
theorem hb26_3 (x0 x1 x2 x3 x4 x5) : boolOf? (ent (e200 x0 x1 x2 x3 x4 x5) (.t 66)) = some x5 := by kernel_rfl
def g26_17 (S52 : s52) (k0 : K0 R) (x0 x1 : V16) (x2 x3 : V5) : Option R :=
(S52 x0.1 x3 x2).bind fun r947 =>
k0 r947 (0 : Int)
theorem t26_17 (S52) (h52 : (ctr52 S52).holds cl) (x0 x1 x2 x3) : exec cl N c26_17 (e202 x0 x1 x2 x3) K = g26_17 S52 (fun y0 y1 => K .normal (e86 y0 y1)) x0 x1 x2 x3 := by
 rw [← put_eq h52]
 kernel_rfl
theorem kp26_8 (x0 x1) : keep [2, 3, 4, 5, 6, 7, 9] (e201 x0 x1) = e196 x0 x1 := by kernel_rfl
theorem kp26_9 (x0 x1 x2 x3 x4 x5 x6) : keep [2, 3, 4, 5, 6, 7, 9] (e198 x0 x1 x2 x3 x4 x5 x6) = e197 x0 x1 x2 x3 x4 x5 := by kernel_rfl
theorem hb26_4 (x0 x1 x2 x3 x4 x5 x6) : boolOf? (ent (e198 x0 x1 x2 x3 x4 x5 x6) (.t 58)) = some x6 := by kernel_rfl
def g26_19 (S60 : s60) (k0 : V16 → V16 → V16 → V5 → V5 → V5 → Bool → Option R) (x0 x1 x2 : V16) (x3 x4 x5 : V5) : Option R :=
(S60 x3 x4).bind fun r948 =>
k0 x0 x1 x2 x3 x4 x5 (decide (r948 ≥ (0 : Int)))
theorem t26_19 (S60) (h60 : (ctr60 S60).holds cl) (x0 x1 x2 x3 x4 x5) : exec cl N c26_19 (e197 x0 x1 x2 x3 x4 x5) K = g26_19 S60 (fun y0 y1 y2 y3 y4 y5 y6 => K .normal (e203 y0 y1 y2 y3 y4 y5 y6)) x0 x1 x2 x3 x4 x5 := by
 rw [← put_eq h60]
 kernel_rfl
def g26_22 (S52 : s52) (S61 : s61) (k0 : K0 R) (x0 x1 x2 : V16) (x3 x4 x5 : V5) (x6 : Bool) : Option R :=
(S61 x3 x4).bind fun r951 =>
(S52 x0.1 r951.1 x5).bind fun r952 =>
k0 r952 (0 : Int)
theorem t26_22 (S52) (S61) (h52 : (ctr52 S52).holds cl) (h61 : (ctr61 S61).holds cl) (x0 x1 x2 x3 x4 x5 x6) : exec cl N c26_22 (e203 x0 x1 x2 x3 x4 x5 x6) K = g26_22 S52 S61 (fun y0 y1 => exec cl N .ret (e86 y0 y1) K) x0 x1 x2 x3 x4 x5 x6 := by
 rw [← put_eq h52]
 rw [← put_eq h61]
 kernel_rfl
theorem kp26_10 (x0 x1) : keep [3, 4, 5, 6, 7, 9] (e86 x0 x1) = e204 x0 x1 := by kernel_rfl
theorem kp26_11 (x0 x1 x2 x3 x4 x5 x6) : keep [3, 4, 5, 6, 7, 9] (e203 x0 x1 x2 x3 x4 x5 x6) = e205 x1 x2 x3 x4 x5 := by kernel_rfl
theorem hb26_5 (x0 x1 x2 x3 x4 x5 x6) : boolOf? (ent (e203 x0 x1 x2 x3 x4 x5 x6) (.t 77)) = some x6 := by kernel_rfl
def g26_26 (S52 : s52) (S61 : s61) (k0 : K0 R) (x0 x1 : V16) (x2 x3 x4 : V5) : Option R :=
(S61 x3 x2).bind fun r954 =>
(S52 x0.1 r954.1 x4).bind fun r955 =>
k0 r955 (0 : Int)
theorem t26_26 (S52) (S61) (h52 : (ctr52 S52).holds cl) (h61 : (ctr61 S61).holds cl) (x0 x1 x2 x3 x4) : exec cl N c26_26 (e205 x0 x1 x2 x3 x4) K = g26_26 S52 S61 (fun y0 y1 => exec cl N .ret (e86 y0 y1) K) x0 x1 x2 x3 x4 := by
 rw [← put_eq h52]
 rw [← put_eq h61]
 kernel_rfl
def g26_27 (S52 : s52) (S54 : s54) (S57 : s57) (S58 : s58) (S59 : s59) (S60 : s60) (S61 : s61) (k0 : K0 R) (k1 : K0 R) (k2 : K0 R) (k3 : K0 R) (k4 : K0 R) (x0 x1 : V16) := (g26_0 (g26_1 S54 (fun y0 y1 y2 y3 => brB y3 (g26_2 k0 y0 y1 y2 y3) ((g26_4 S57 (g26_5 (fun y0 y1 y2 y3 y4 y5 y6 => brB y6 (g26_6 k1 y0 y1 y2 y3 y4 y5 y6) ((g26_8 S58 (g26_9 (fun y0 y1 y2 y3 y4 y5 y6 y7 => brB y7 (g26_10 k2 y0 y1 y2 y3 y4 y5 y6 y7) ((g26_12 (fun y0 y1 y2 y3 y4 y5 y6 => brB y6 (g26_13 S59 (g26_14 (fun y0 y1 y2 y3 y4 y5 => brB y5 (g26_15 k2 y0 y1 y2 y3 y4 y5) ((g26_17 S52 k2) y0 y1 y2 y3))) y0 y1 y2 y3 y4 y5 y6) ((g26_19 S60 (fun y0 y1 y2 y3 y4 y5 y6 => brB y6 (g26_22 S52 S61 k3 y0 y1 y2 y3 y4 y5 y6) ((g26_26 S52 S61 k4) y1 y2 y3 y4 y5))) y0 y1 y2 y3 y4 y5))) y0 y1 y2 y3 y4 y6)))) y0 y1 y2 y3 y4)))) y0 y1 y2))) x0 x1)
theorem t26_27 (S52) (S54) (S57) (S58) (S59) (S60) (S61) (h52 : (ctr52 S52).holds cl) (h54 : (ctr54 S54).holds cl) (h57 : (ctr57 S57).holds cl) (h58 : (ctr58 S58).holds cl) (h59 : (ctr59 S59).holds cl) (h60 : (ctr60 S60).holds cl) (h61 : (ctr61 S61).holds cl) (x0 x1) : exec cl N c26_27 (e186 x0 x1) K = g26_27 S52 S54 S57 S58 S59 S60 S61 (fun y0 y1 => K .ret (e160 y0 y1)) (fun y0 y1 => K .ret (e192 y0 y1)) (fun y0 y1 => K .ret (e196 y0 y1)) (fun y0 y1 => K .ret (e204 y0 y1)) (fun y0 y1 => K .ret (e86 y0 y1)) x0 x1 := by
 simp only [c26_27, B0, t26_0, t26_1 S54 h54, c26_3, exec_out, B1, hb26_0, Option.bind_some, t26_2, exec_ret, kp26_0, kp26_1, t26_4 S57 h57, t26_5, c26_7, hb26_1, t26_6, kp26_2, kp26_3, t26_8 S58 h58, t26_9, c26_11, hb26_2, t26_10, kp26_4, kp26_5, t26_12, c26_18, hb26_4, t26_13 S59 h59, t26_14, c26_16, hb26_3, t26_15, kp26_6, kp26_7, t26_17 S52 h52, kp26_8, kp26_9, t26_19 S60 h60, c26_23, hb26_5, t26_22 S52 S61 h52 h61, kp26_10, kp26_11, t26_26 S52 S61 h52 h61]
 rfl
theorem rk26_0 (y0 y1) : retK d26 .ret (e160 y0 y1) = some [.v U12 y0, .v U1 y1] := by kernel_rfl
theorem rk26_1 (y0 y1) : retK d26 .ret (e192 y0 y1) = some [.v U12 y0, .v U1 y1] := by kernel_rfl
theorem rk26_2 (y0 y1) : retK d26 .ret (e196 y0 y1) = some [.v U12 y0, .v U1 y1] := by kernel_rfl
theorem rk26_3 (y0 y1) : retK d26 .ret (e204 y0 y1) = some [.v U12 y0, .v U1 y1] := by kernel_rfl
theorem rk26_4 (y0 y1) : retK d26 .ret (e86 y0 y1) = some [.v U12 y0, .v U1 y1] := by kernel_rfl
def g26 (S52 : s52) (S54 : s54) (S57 : s57) (S58 : s58) (S59 : s59) (S60 : s60) (S61 : s61) (x0 x1 : V16) (k : V16 → Int → Option R) := (g26_27 S52 S54 S57 S58 S59 S60 S61 k k k k k x0 x1)
theorem gen26 (S52) (S54) (S57) (S58) (S59) (S60) (S61) (h52 : (ctr52 S52).holds cl) (h54 : (ctr54 S54).holds cl) (h57 : (ctr57 S57).holds cl) (h58 : (ctr58 S58).holds cl) (h59 : (ctr59 S59).holds cl) (h60 : (ctr60 S60).holds cl) (h61 : (ctr61 S61).holds cl) (x0 x1) (k : List E → Option R) : exec cl N c26 (e186 x0 x1) (fun e env => (retK d26 e env).bind k) = g26 S52 S54 S57 S58 S59 S60 S61 x0 x1 (fun r0 r1 => k [.v U12 r0, .v U1 r1]) := by
 simp only [c26, t26_27 S52 S54 S57 S58 S59 S60 S61 h52 h54 h57 h58 h59 h60 h61, rk26_0, rk26_1, rk26_2, rk26_3, rk26_4, Option.bind_some]
 rfl
def ctr26 (S : s26) : Ctr := cv2 26 U12 U12 S fun b => [.v U12 b.1, .v U1 b.2]
def S26 (N : Nat) (x0 : V16) (x1 : V16) : Option V19 := g26 (S52 N) (S54 N) (S57 N) (S58 N) (S59 N) (S60 N) (S61 N) x0 x1 (fun r0 r1 => some (r0, r1))
end Go.Fw.L51
