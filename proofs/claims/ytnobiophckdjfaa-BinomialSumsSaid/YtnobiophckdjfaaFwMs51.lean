/- Printed by an own program for this claim: the machine's code of functions, or their typed forms with their equations; no conditions. -/
import Derived.Test.YtnobiophckdjfaaFwMs51b
import Derived.Test.YtnobiophckdjfaaFwB4
set_option linter.unusedVariables false
set_option linter.unusedSimpArgs false
namespace Go.Fw.L51
open Go Go.Fw
set_option maxRecDepth 100000
set_option linter.unusedVariables false
set_option linter.unusedSimpArgs false
variable {N : Nat} {cl : Cal} {R : Type} {K : KE R}
def g67_0 (k0 : V18 → V16 → Option R) (x0 : V18) := k0 x0 (false, (([], ()), (([], ()), ())))
theorem t67_0 (x0) : exec cl N c67_0 [(0, .v U13 x0)] K = g67_0 (fun y0 y1 => K .normal (e206 y0 y1)) x0 := by kernel_rfl
def g67_1 (k0 : K39 R) (x0 : V18) (x1 : V16) := k0 x0 x1 (0 : Int)
theorem t67_1 (x0 x1) : exec cl N c67_1 (e206 x0 x1) K = g67_1 (fun y0 y1 y2 => K .normal (e207 y0 y1 y2)) x0 x1 := by kernel_rfl
theorem kp67_0 (x0 x1 x2) : keep [0, 2, 4] (e207 x0 x1 x2) = e207 x0 x1 x2 := by kernel_rfl
def g67_2 (k0 : K42 R) (x0 : V18) (x1 : V16) (x2 : Int) := k0 x0 x1 x2 (decide (x2 < (x0.length : Int)))
theorem t67_2 (x0 x1 x2) : exec cl N c67_2 (e207 x0 x1 x2) K = g67_2 (fun y0 y1 y2 y3 => K .normal (e208 y0 y1 y2 y3)) x0 x1 x2 := by kernel_rfl
theorem kp67_1 (x0 x1 x2 x3) : keep [0, 2, 4] (e208 x0 x1 x2 x3) = e207 x0 x1 x2 := by kernel_rfl
theorem hb67_0 (x0 x1 x2 x3) : boolOf? (ent (e208 x0 x1 x2 x3) (.t 12)) = some x3 := by kernel_rfl
def g67_4 (S54 : s54) (k0 : K42 R) (x0 : V18) (x1 : V16) (x2 : Int) : Option R :=
if 0 ≤ x2 ∧ x2 < (x0.length : Int) then
(S54 (x0.getD x2.toNat (false, (([], ()), (([], ()), ()))))).bind fun r961 =>
k0 x0 x1 x2 (!r961)
else none
theorem t67_4 (S54) (h54 : (ctr54 S54).holds cl) (x0 x1 x2) : exec cl N c67_4 (e207 x0 x1 x2) K = g67_4 S54 (fun y0 y1 y2 y3 => K .normal (e209 y0 y1 y2 y3)) x0 x1 x2 := by
 rw [← put_eq h54]
 kernel_rfl
def g67_5 (k0 : K0 R) (x0 : V18) (x1 : V16) (x2 : Int) (x3 : Bool) := k0 (false, ([], ()), ([], ()), ()) (1 : Int)
theorem t67_5 (x0 x1 x2 x3) : exec cl N c67_5 (e209 x0 x1 x2 x3) K = g67_5 (fun y0 y1 => K .normal (e210 y0 y1)) x0 x1 x2 x3 := by kernel_rfl
theorem kp67_2 (x0 x1) : keep [0, 2, 3, 4] (e210 x0 x1) = e211 x0 x1 := by kernel_rfl
theorem kp67_3 (x0 x1 x2 x3) : keep [0, 2, 3, 4] (e209 x0 x1 x2 x3) = e212 x0 x1 x2 := by kernel_rfl
theorem hb67_1 (x0 x1 x2 x3) : boolOf? (ent (e209 x0 x1 x2 x3) (.t 20)) = some x3 := by kernel_rfl
theorem kp67_4 (x0 x1) : keep [0, 2, 3, 4] (e211 x0 x1) = e211 x0 x1 := by kernel_rfl
theorem kp67_5 (x0 x1 x2) : keep [0, 2, 3, 4] (e212 x0 x1 x2) = e212 x0 x1 x2 := by kernel_rfl
def g67_8 (k0 : K39 R) (x0 : V18) (x1 : V16) (x2 : Int) := k0 x0 x1 (IntKind.i64.wrap (x2 + (1 : Int)))
theorem t67_8 (x0 x1 x2) : exec cl N c67_8 (e212 x0 x1 x2) K = g67_8 (fun y0 y1 y2 => K .normal (e207 y0 y1 y2)) x0 x1 x2 := by kernel_rfl
def g67_9 (S54 : s54) (k0 : K0 R) (k1 : K39 R) (k2 : K39 R) (x0 : V18) (x1 : V16) (x2 : Int) := (g67_2 (fun y0 y1 y2 y3 => brB y3 ((g67_4 S54 (fun y0 y1 y2 y3 => brB y3 (g67_5 k0 y0 y1 y2 y3) (((g67_8 k1)) y0 y1 y2))) y0 y1 y2) (k2 y0 y1 y2)) x0 x1 x2)
theorem t67_9 (S54) (h54 : (ctr54 S54).holds cl) (x0 x1 x2) : exec cl N c67_9 (e207 x0 x1 x2) K = g67_9 S54 (fun y0 y1 => K .ret (e211 y0 y1)) (fun y0 y1 y2 => K .normal (e207 y0 y1 y2)) (fun y0 y1 y2 => K (.exit 0) (e207 y0 y1 y2)) x0 x1 x2 := by
 simp only [c67_9, B0, t67_2, c67_3, exec_out, B1, hb67_0, Option.bind_some, exec_exit, kp67_1, c67_7, B2, t67_4 S54 h54, c67_6, hb67_1, t67_5, exec_ret, kp67_2, kp67_3, kp67_4, kp67_5, t67_8]
 rfl
def l67_10 {R : Type} (S54 : s54) (k0 : K0 R) (k1 : K39 R) : Nat → V18 → V16 → Int → Option R
 | 0, _, _, _ => none
 | m + 1, x0, x1, x2 => (g67_9 S54 k0 (l67_10 S54 k0 k1 m) k1 x0 x1 x2)
theorem lt67_10 (S54) (h54 : (ctr54 S54).holds cl) : ∀ (m) (x0 x1 x2), iter [0, 2, 4] (fun env K => exec cl N c67_9 env K) K m (e207 x0 x1 x2) = l67_10 S54 (fun y0 y1 => K .ret (e211 y0 y1)) (fun y0 y1 y2 => K (.exit 0) (e207 y0 y1 y2)) m x0 x1 x2 := by
 intro m
 induction m with
 | zero => intros; rfl
 | succ m ih =>
   intro x0 x1 x2
   simp only [B3, t67_9 S54 h54, kp67_0, ih]
   rfl
theorem kp67_6 (x0 x1) : keep [0, 2, 3] (e211 x0 x1) = e213 x0 x1 := by kernel_rfl
theorem kp67_7 (x0 x1 x2) : keep [0, 2, 3] (e207 x0 x1 x2) = e214 x0 x1 := by kernel_rfl
def g67_10 (N : Nat) (S54 : s54) (k0 : K0 R) (k1 : V18 → V16 → Option R) (x0 : V18) (x1 : V16) (x2 : Int) : Option R :=
l67_10 S54 k0 (fun y0 y1 y2 => k1 y0 y1) N x0 x1 x2
theorem t67_10 (S54) (h54 : (ctr54 S54).holds cl) (x0 x1 x2) : exec cl N c67_10 (e207 x0 x1 x2) K = g67_10 N S54 (fun y0 y1 => K .ret (e213 y0 y1)) (fun y0 y1 => K (.exit 0) (e214 y0 y1)) x0 x1 x2 := by
 simp only [c67_10, exec_out, exec_loop, kp67_0, lt67_10 S54 h54, kp67_6, kp67_7]
 rfl
theorem kp67_8 (x0 x1) : keep [0, 2, 3] (e213 x0 x1) = e213 x0 x1 := by kernel_rfl
theorem kp67_9 (x0 x1) : keep [0, 2, 3] (e214 x0 x1) = e214 x0 x1 := by kernel_rfl
def g67_12 (S94 : s94) (k0 : V18 → V16 → V16 → Option R) (x0 : V18) (x1 : V16) : Option R :=
(S94).bind fun r964 =>
k0 x0 x1 r964
theorem t67_12 (S94) (h94 : (ctr94 S94).holds cl) (x0 x1) : exec cl N c67_12 (e214 x0 x1) K = g67_12 S94 (fun y0 y1 y2 => K .normal (e215 y0 y1 y2)) x0 x1 := by
 rw [← put_eq h94]
 kernel_rfl
def g67_13 (k0 : K25 R) (x0 : V18) (x1 x2 : V16) := k0 x0 x1 x2 (0 : Int)
theorem t67_13 (x0 x1 x2) : exec cl N c67_13 (e215 x0 x1 x2) K = g67_13 (fun y0 y1 y2 y3 => K .normal (e216 y0 y1 y2 y3)) x0 x1 x2 := by kernel_rfl
theorem kp67_10 (x0 x1 x2 x3) : keep [0, 2, 5, 6] (e216 x0 x1 x2 x3) = e216 x0 x1 x2 x3 := by kernel_rfl
def g67_14 (k0 : V18 → V16 → V16 → Int → Bool → Option R) (x0 : V18) (x1 x2 : V16) (x3 : Int) := k0 x0 x1 x2 x3 (decide (x3 < (x0.length : Int)))
theorem t67_14 (x0 x1 x2 x3) : exec cl N c67_14 (e216 x0 x1 x2 x3) K = g67_14 (fun y0 y1 y2 y3 y4 => K .normal (e217 y0 y1 y2 y3 y4)) x0 x1 x2 x3 := by kernel_rfl
theorem kp67_11 (x0 x1 x2 x3 x4) : keep [0, 2, 5, 6] (e217 x0 x1 x2 x3 x4) = e216 x0 x1 x2 x3 := by kernel_rfl
theorem hb67_2 (x0 x1 x2 x3 x4) : boolOf? (ent (e217 x0 x1 x2 x3 x4) (.t 26)) = some x4 := by kernel_rfl
def g67_16 (S26 : s26) (k0 : V18 → V16 → V16 → Int → V16 → Int → Option R) (x0 : V18) (x1 x2 : V16) (x3 : Int) : Option R :=
if 0 ≤ x3 ∧ x3 < (x0.length : Int) then
(S26 x2 (x0.getD x3.toNat (false, (([], ()), (([], ()), ()))))).bind fun r966 =>
k0 x0 x1 x2 x3 r966.1 r966.2
else none
theorem t67_16 (S26) (h26 : (ctr26 S26).holds cl) (x0 x1 x2 x3) : exec cl N c67_16 (e216 x0 x1 x2 x3) K = g67_16 S26 (fun y0 y1 y2 y3 y4 y5 => K .normal (e218 y0 y1 y2 y3 y4 y5)) x0 x1 x2 x3 := by
 rw [← put_eq h26]
 kernel_rfl
def g67_17 (k0 : V18 → V16 → V16 → Int → V16 → Int → Bool → Option R) (x0 : V18) (x1 x2 : V16) (x3 : Int) (x4 : V16) (x5 : Int) := k0 x0 x1 x2 x3 x4 x5 (x5 != (0 : Int))
theorem t67_17 (x0 x1 x2 x3 x4 x5) : exec cl N c67_17 (e218 x0 x1 x2 x3 x4 x5) K = g67_17 (fun y0 y1 y2 y3 y4 y5 y6 => K .normal (e219 y0 y1 y2 y3 y4 y5 y6)) x0 x1 x2 x3 x4 x5 := by kernel_rfl
def g67_18 (k0 : K0 R) (x0 : V18) (x1 x2 : V16) (x3 : Int) (x4 : V16) (x5 : Int) (x6 : Bool) := k0 (false, ([], ()), ([], ()), ()) x5
theorem t67_18 (x0 x1 x2 x3 x4 x5 x6) : exec cl N c67_18 (e219 x0 x1 x2 x3 x4 x5 x6) K = g67_18 (fun y0 y1 => K .normal (e210 y0 y1)) x0 x1 x2 x3 x4 x5 x6 := by kernel_rfl
theorem kp67_12 (x0 x1) : keep [0, 2, 3, 5, 6, 7] (e210 x0 x1) = e220 x0 x1 := by kernel_rfl
theorem kp67_13 (x0 x1 x2 x3 x4 x5 x6) : keep [0, 2, 3, 5, 6, 7] (e219 x0 x1 x2 x3 x4 x5 x6) = e221 x0 x1 x2 x3 x4 := by kernel_rfl
theorem hb67_3 (x0 x1 x2 x3 x4 x5 x6) : boolOf? (ent (e219 x0 x1 x2 x3 x4 x5 x6) (.t 39)) = some x6 := by kernel_rfl
def g67_20 (k0 : K25 R) (x0 : V18) (x1 x2 : V16) (x3 : Int) (x4 : V16) := k0 x0 x1 x4 x3
theorem t67_20 (x0 x1 x2 x3 x4) : exec cl N c67_20 (e221 x0 x1 x2 x3 x4) K = g67_20 (fun y0 y1 y2 y3 => K .normal (e216 y0 y1 y2 y3)) x0 x1 x2 x3 x4 := by kernel_rfl
theorem kp67_14 (x0 x1) : keep [0, 2, 3, 5, 6] (e220 x0 x1) = e222 x0 x1 := by kernel_rfl
theorem kp67_15 (x0 x1 x2 x3) : keep [0, 2, 3, 5, 6] (e216 x0 x1 x2 x3) = e223 x0 x1 x2 x3 := by kernel_rfl
def g67_22 (k0 : K25 R) (x0 : V18) (x1 x2 : V16) (x3 : Int) := k0 x0 x1 x2 (IntKind.i64.wrap (x3 + (1 : Int)))
theorem t67_22 (x0 x1 x2 x3) : exec cl N c67_22 (e223 x0 x1 x2 x3) K = g67_22 (fun y0 y1 y2 y3 => K .normal (e216 y0 y1 y2 y3)) x0 x1 x2 x3 := by kernel_rfl
def g67_23 (S26 : s26) (k0 : K0 R) (k1 : K25 R) (k2 : K25 R) (x0 : V18) (x1 x2 : V16) (x3 : Int) := (g67_14 (fun y0 y1 y2 y3 y4 => brB y4 ((g67_16 S26 (g67_17 (fun y0 y1 y2 y3 y4 y5 y6 => brB y6 (g67_18 k0 y0 y1 y2 y3 y4 y5 y6) ((g67_20 ((g67_22 k1))) y0 y1 y2 y3 y4)))) y0 y1 y2 y3) (k2 y0 y1 y2 y3)) x0 x1 x2 x3)
theorem t67_23 (S26) (h26 : (ctr26 S26).holds cl) (x0 x1 x2 x3) : exec cl N c67_23 (e216 x0 x1 x2 x3) K = g67_23 S26 (fun y0 y1 => K .ret (e222 y0 y1)) (fun y0 y1 y2 y3 => K .normal (e216 y0 y1 y2 y3)) (fun y0 y1 y2 y3 => K (.exit 2) (e216 y0 y1 y2 y3)) x0 x1 x2 x3 := by
 simp only [c67_23, B0, t67_14, c67_15, exec_out, B1, hb67_2, Option.bind_some, exec_exit, kp67_11, c67_21, B2, t67_16 S26 h26, t67_17, c67_19, hb67_3, t67_18, exec_ret, kp67_12, kp67_13, t67_20, kp67_14, kp67_15, t67_22]
 rfl
def l67_24 {R : Type} (S26 : s26) (k0 : K0 R) (k1 : K25 R) : Nat → V18 → V16 → V16 → Int → Option R
 | 0, _, _, _, _ => none
 | m + 1, x0, x1, x2, x3 => (g67_23 S26 k0 (l67_24 S26 k0 k1 m) k1 x0 x1 x2 x3)
theorem lt67_24 (S26) (h26 : (ctr26 S26).holds cl) : ∀ (m) (x0 x1 x2 x3), iter [0, 2, 5, 6] (fun env K => exec cl N c67_23 env K) K m (e216 x0 x1 x2 x3) = l67_24 S26 (fun y0 y1 => K .ret (e222 y0 y1)) (fun y0 y1 y2 y3 => K (.exit 2) (e216 y0 y1 y2 y3)) m x0 x1 x2 x3 := by
 intro m
 induction m with
 | zero => intros; rfl
 | succ m ih =>
   intro x0 x1 x2 x3
   simp only [B3, t67_23 S26 h26, kp67_10, ih]
   rfl
theorem kp67_16 (x0 x1) : keep [2, 3, 5] (e222 x0 x1) = e224 x0 x1 := by kernel_rfl
theorem kp67_17 (x0 x1 x2 x3) : keep [2, 3, 5] (e216 x0 x1 x2 x3) = e225 x1 x2 := by kernel_rfl
def g67_24 (N : Nat) (S26 : s26) (k0 : K0 R) (k1 : V16 → V16 → Option R) (x0 : V18) (x1 x2 : V16) (x3 : Int) : Option R :=
l67_24 S26 k0 (fun y0 y1 y2 y3 => k1 y1 y2) N x0 x1 x2 x3
theorem t67_24 (S26) (h26 : (ctr26 S26).holds cl) (x0 x1 x2 x3) : exec cl N c67_24 (e216 x0 x1 x2 x3) K = g67_24 N S26 (fun y0 y1 => K .ret (e224 y0 y1)) (fun y0 y1 => K (.exit 2) (e225 y0 y1)) x0 x1 x2 x3 := by
 simp only [c67_24, exec_out, exec_loop, kp67_10, lt67_24 S26 h26, kp67_16, kp67_17]
 rfl
theorem kp67_18 (x0 x1) : keep [2, 3, 5] (e224 x0 x1) = e224 x0 x1 := by kernel_rfl
theorem kp67_19 (x0 x1) : keep [2, 3, 5] (e225 x0 x1) = e225 x0 x1 := by kernel_rfl
def g67_26 (k0 : K0 R) (x0 x1 : V16) := k0 x1 (0 : Int)
theorem t67_26 (x0 x1) : exec cl N c67_26 (e225 x0 x1) K = g67_26 (fun y0 y1 => K .normal (e210 y0 y1)) x0 x1 := by kernel_rfl
def g67_27 (N : Nat) (S26 : s26) (S54 : s54) (S94 : s94) (k0 : K0 R) (k1 : K0 R) (k2 : K0 R) (x0 : V18) := (g67_0 (g67_1 (g67_10 N S54 k0 ((g67_12 S94 (g67_13 (g67_24 N S26 k1 ((g67_26 k2)))))))) x0)
theorem t67_27 (S26) (S54) (S94) (h26 : (ctr26 S26).holds cl) (h54 : (ctr54 S54).holds cl) (h94 : (ctr94 S94).holds cl) (x0) : exec cl N c67_27 [(0, .v U13 x0)] K = g67_27 N S26 S54 S94 (fun y0 y1 => K .ret (e213 y0 y1)) (fun y0 y1 => K .ret (e224 y0 y1)) (fun y0 y1 => K .ret (e210 y0 y1)) x0 := by
 simp only [c67_27, B0, t67_0, t67_1, c67_11, exec_out, B2, t67_10 S54 h54, kp67_8, kp67_9, t67_12 S94 h94, t67_13, c67_25, t67_24 S26 h26, kp67_18, kp67_19, t67_26, exec_ret]
 rfl
theorem rk67_0 (y0 y1) : retK d67 .ret (e213 y0 y1) = some [.v U12 y0, .v U1 y1] := by kernel_rfl
theorem rk67_1 (y0 y1) : retK d67 .ret (e224 y0 y1) = some [.v U12 y0, .v U1 y1] := by kernel_rfl
theorem rk67_2 (y0 y1) : retK d67 .ret (e210 y0 y1) = some [.v U12 y0, .v U1 y1] := by kernel_rfl
def g67 (N : Nat) (S26 : s26) (S54 : s54) (S94 : s94) (x0 : V18) (k : V16 → Int → Option R) := (g67_27 N S26 S54 S94 k k k x0)
theorem gen67 (S26) (S54) (S94) (h26 : (ctr26 S26).holds cl) (h54 : (ctr54 S54).holds cl) (h94 : (ctr94 S94).holds cl) (x0) (k : List E → Option R) : exec cl N c67 [(0, .v U13 x0)] (fun e env => (retK d67 e env).bind k) = g67 N S26 S54 S94 x0 (fun r0 r1 => k [.v U12 r0, .v U1 r1]) := by
 simp only [c67, t67_27 S26 S54 S94 h26 h54 h94, rk67_0, rk67_1, rk67_2, Option.bind_some]
 rfl
def ctr67 (S : s67) : Ctr := cv1 67 U13 S fun b => [.v U12 b.1, .v U1 b.2]
def S67 (N : Nat) (x0 : V18) : Option V19 := g67 N (S26 N) (S54 N) (S94 N) x0 (fun r0 r1 => some (r0, r1))
def g32_6 (S67 : s67) (k0 : V16 → V16 → Int → Option R) (x0 : V18) : Option R :=
(S67 x0).bind fun r973 =>
k0 (false, (([], ()), (([], ()), ()))) r973.1 r973.2
theorem t32_6 (S67) (h67 : (ctr67 S67).holds cl) (x0) : exec cl N c32_6 [(0, .v U13 x0)] K = g32_6 S67 (fun y0 y1 y2 => exec cl N (.seq (.seq c32_2 c32_4) (.seq c32_5 .ret)) (e226 y0 y1 y2) K) x0 := by
 rw [← put_eq h67]
 kernel_rfl
def g32_2 (k0 : K43 R) (x0 x1 : V16) (x2 : Int) := k0 x0 x1 (x2 != (0 : Int))
theorem t32_2 (x0 x1 x2) : exec cl N c32_2 (e226 x0 x1 x2) K = g32_2 (fun y0 y1 y2 => K .normal (e227 y0 y1 y2)) x0 x1 x2 := by kernel_rfl
def g32_3 (k0 : K47 R) (x0 x1 : V16) (x2 : Bool) := k0 (false, ([], ()), ([], ()), ())
theorem t32_3 (x0 x1 x2) : exec cl N c32_3 (e227 x0 x1 x2) K = g32_3 (fun y0 => K .normal [(2, .loc U12 .no y0)]) x0 x1 x2 := by kernel_rfl
theorem kp32_0 (x0) : keep [2, 3] [(2, .loc U12 .no x0)] = e228 x0 := by kernel_rfl
theorem kp32_1 (x0 x1 x2) : keep [2, 3] (e227 x0 x1 x2) = e229 x0 x1 := by kernel_rfl
theorem hb32_0 (x0 x1 x2) : boolOf? (ent (e227 x0 x1 x2) (.t 11)) = some x2 := by kernel_rfl
def g32_5 (k0 : K47 R) (x0 x1 : V16) := k0 x1
theorem t32_5 (x0 x1) : exec cl N c32_5 (e229 x0 x1) K = g32_5 (fun y0 => K .normal [(2, .loc U12 .no y0)]) x0 x1 := by kernel_rfl
def g32_6b (S67 : s67) (k0 : K47 R) (k1 : K47 R) (x0 : V18) := (g32_6 S67 (g32_2 (fun y0 y1 y2 => brB y2 (g32_3 k0 y0 y1 y2) ((g32_5 k1) y0 y1))) x0)
theorem t32_6b (S67) (h67 : (ctr67 S67).holds cl) (x0) : exec cl N c32_6 [(0, .v U13 x0)] K = g32_6b S67 (fun y0 => K .ret (e228 y0)) (fun y0 => K .ret [(2, .loc U12 .no y0)]) x0 := by
 simp only [B0, t32_6 S67 h67, t32_2, c32_4, exec_out, B1, hb32_0, Option.bind_some, t32_3, exec_ret, kp32_0, kp32_1, t32_5]
 rfl
theorem rk32_0 (y0) : retK d32 .ret (e228 y0) = some [.v U12 y0] := by kernel_rfl
theorem rk32_1 (y0) : retK d32 .ret [(2, .loc U12 .no y0)] = some [.v U12 y0] := by kernel_rfl
def g32 (S67 : s67) (x0 : V18) (k : V16 → Option R) := (g32_6b S67 k k x0)
theorem gen32 (S67) (h67 : (ctr67 S67).holds cl) (x0) (k : List E → Option R) : exec cl N c32 [(0, .v U13 x0)] (fun e env => (retK d32 e env).bind k) = g32 S67 x0 (fun r0 => k [.v U12 r0]) := by
 simp only [c32, t32_6b S67 h67, rk32_0, rk32_1, Option.bind_some]
 rfl
def ctr32 (S : s32) : Ctr := cv1 32 U13 S fun b => [.v U12 b]
def S32 (N : Nat) (x0 : V18) : Option V17 := g32 (S67 N) x0 (fun r0 => some (r0))
def g21_2 (S51 : s51) (k0 : K11 R) (x0 x1 : V16) : Option R :=
brB (x0.1 == x1.1) ((S51 x0.2.1 x1.2.1).bind fun r984 =>
brB r984 ((S51 x0.2.2.1 x1.2.2.1).bind fun r985 =>
k0 r985) (k0 false)) (k0 false)
theorem t21_2 (S51) (h51 : (ctr51 S51).holds cl) (x0 x1) : exec cl N c21_2 (e186 x0 x1) K = g21_2 S51 (fun y0 => exec cl N .ret [(4, .v .bool y0)] K) x0 x1 := by
 rw [← put_eq h51]
 kernel_rfl
def g21_2b (S51 : s51) (k0 : K11 R) (x0 x1 : V16) := (g21_2 S51 k0 x0 x1)
theorem t21_2b (S51) (h51 : (ctr51 S51).holds cl) (x0 x1) : exec cl N c21_2 (e186 x0 x1) K = g21_2b S51 (fun y0 => K .ret [(4, .v .bool y0)]) x0 x1 := by
 simp only [B0, t21_2 S51 h51, exec_ret]
 rfl
theorem rk21_0 (y0) : retK d21 .ret [(4, .v .bool y0)] = some [.v .bool y0] := by kernel_rfl
def g21 (S51 : s51) (x0 x1 : V16) (k : Bool → Option R) := (g21_2b S51 k x0 x1)
theorem gen21 (S51) (h51 : (ctr51 S51).holds cl) (x0 x1) (k : List E → Option R) : exec cl N c21 (e186 x0 x1) (fun e env => (retK d21 e env).bind k) = g21 S51 x0 x1 (fun r0 => k [.v .bool r0]) := by
 simp only [c21, t21_2b S51 h51, rk21_0, Option.bind_some]
 rfl
def ctr21 (S : s21) : Ctr := cv2 21 U12 U12 S fun b => [.v .bool b]
def S21 (N : Nat) (x0 : V16) (x1 : V16) : Option (Bool) := g21 (S51 N) x0 x1 (fun r0 => some (r0))
def g31_3 (S21 : s21) (S23 : s23) (k0 : K11 R) (x0 : V16) (x1 : Int) : Option R :=
(S23 x1 (1 : Int)).bind fun r988 =>
brB (r988.2 == (0 : Int)) ((S21 x0 r988.1).bind fun r990 =>
k0 r990) (k0 false)
theorem t31_3 (S21) (S23) (h21 : (ctr21 S21).holds cl) (h23 : (ctr23 S23).holds cl) (x0 x1) : exec cl N c31_3 [(0, .v U12 x0), (1, .v U1 x1)] K = g31_3 S21 S23 (fun y0 => exec cl N .ret [(4, .v .bool y0)] K) x0 x1 := by
 rw [← put_eq h21]
 rw [← put_eq h23]
 kernel_rfl
def g31_3b (S21 : s21) (S23 : s23) (k0 : K11 R) (x0 : V16) (x1 : Int) := (g31_3 S21 S23 k0 x0 x1)
theorem t31_3b (S21) (S23) (h21 : (ctr21 S21).holds cl) (h23 : (ctr23 S23).holds cl) (x0 x1) : exec cl N c31_3 [(0, .v U12 x0), (1, .v U1 x1)] K = g31_3b S21 S23 (fun y0 => K .ret [(4, .v .bool y0)]) x0 x1 := by
 simp only [B0, t31_3 S21 S23 h21 h23, exec_ret]
 rfl
theorem rk31_0 (y0) : retK d31 .ret [(4, .v .bool y0)] = some [.v .bool y0] := by kernel_rfl
def g31 (S21 : s21) (S23 : s23) (x0 : V16) (x1 : Int) (k : Bool → Option R) := (g31_3b S21 S23 k x0 x1)
theorem gen31 (S21) (S23) (h21 : (ctr21 S21).holds cl) (h23 : (ctr23 S23).holds cl) (x0 x1) (k : List E → Option R) : exec cl N c31 [(0, .v U12 x0), (1, .v U1 x1)] (fun e env => (retK d31 e env).bind k) = g31 S21 S23 x0 x1 (fun r0 => k [.v .bool r0]) := by
 simp only [c31, t31_3b S21 S23 h21 h23, rk31_0, Option.bind_some]
 rfl
def ctr31 (S : s31) : Ctr := cv2 31 U12 U1 S fun b => [.v .bool b]
def S31 (N : Nat) (x0 : V16) (x1 : Int) : Option (Bool) := g31 (S21 N) (S23 N) x0 x1 (fun r0 => some (r0))
def g107_0 (k0 : K37 R) (x0 x1 : V0) := k0 x0 x1
theorem t107_0 (x0 x1) : exec cl N c107_0 (e20 x0 x1) K = g107_0 (fun y0 y1 => K .normal (e20 y0 y1)) x0 x1 := by kernel_rfl
def g107_1 (k0 : K45 R) (x0 x1 : V0) := k0 x0 x1 (decide ((x0.length : Int) < (x1.length : Int)))
theorem t107_1 (x0 x1) : exec cl N c107_1 (e20 x0 x1) K = g107_1 (fun y0 y1 y2 => K .normal (e230 y0 y1 y2)) x0 x1 := by kernel_rfl
def g107_2 (k0 : K37 R) (x0 x1 : V0) (x2 : Bool) := k0 x1 x0
theorem t107_2 (x0 x1 x2) : exec cl N c107_2 (e230 x0 x1 x2) K = g107_2 (fun y0 y1 => K .normal (e20 y0 y1)) x0 x1 x2 := by kernel_rfl
theorem kp107_0 (x0 x1) : keep [0, 1] (e20 x0 x1) = e20 x0 x1 := by kernel_rfl
theorem kp107_1 (x0 x1 x2) : keep [0, 1] (e230 x0 x1 x2) = e20 x0 x1 := by kernel_rfl
theorem hb107_0 (x0 x1 x2) : boolOf? (ent (e230 x0 x1 x2) (.t 13)) = some x2 := by kernel_rfl
def g107_4 (k0 : K37 R) (x0 x1 : V0) := (g107_1 (fun y0 y1 y2 => brB y2 (g107_2 k0 y0 y1 y2) (k0 y0 y1)) x0 x1)
theorem t107_4 (x0 x1) : exec cl N c107_4 (e20 x0 x1) K = g107_4 (fun y0 y1 => K .normal (e20 y0 y1)) x0 x1 := by
 simp only [c107_4, B0, t107_1, c107_3, exec_out, B1, hb107_0, Option.bind_some, t107_2, kp107_0, kp107_1]
 rfl
def g107_30 (k0 : K17 R) (x0 x1 : V0) : Option R :=
let v1020 : Int := (IntKind.i64.wrap ((x0.length : Int) + (1 : Int)))
if 0 ≤ (0 : Int) ∧ (0 : Int) ≤ v1020 ∧ v1020 ≤ ((17592186044416 : Nat) : Int) then
k0 x0 x1 (List.replicate (0 : Int).toNat (0 : Int)) (0 : Int)
else none
theorem t107_30 (x0 x1) : exec cl N c107_30 (e20 x0 x1) K = g107_30 (fun y0 y1 y2 y3 => exec cl N (.seq (.seq c107_7 c107_24) (.seq c107_28 (.seq c107_29 .ret))) (e33 y0 y1 y2 y3) K) x0 x1 := by kernel_rfl
def g107_7 (k0 : K8 R) (x0 x1 x2 : V0) (x3 : Int) := k0 x1 x2 x3 x0 (x0.length : Int) (0 : Int)
theorem t107_7 (x0 x1 x2 x3) : exec cl N c107_7 (e33 x0 x1 x2 x3) K = g107_7 (fun y0 y1 y2 y3 y4 y5 => K .normal (e231 y0 y1 y2 y3 y4 y5)) x0 x1 x2 x3 := by kernel_rfl
theorem kp107_2 (x0 x1 x2 x3 x4 x5) : keep [1, 5, 6, 20, 21, 22] (e231 x0 x1 x2 x3 x4 x5) = e231 x0 x1 x2 x3 x4 x5 := by kernel_rfl
def g107_8 (k0 : V0 → V0 → Int → V0 → Int → Int → Bool → Option R) (x0 x1 : V0) (x2 : Int) (x3 : V0) (x4 x5 : Int) := k0 x0 x1 x2 x3 x4 x5 (decide (x5 < x4))
theorem t107_8 (x0 x1 x2 x3 x4 x5) : exec cl N c107_8 (e231 x0 x1 x2 x3 x4 x5) K = g107_8 (fun y0 y1 y2 y3 y4 y5 y6 => K .normal (e232 y0 y1 y2 y3 y4 y5 y6)) x0 x1 x2 x3 x4 x5 := by kernel_rfl
theorem kp107_3 (x0 x1 x2 x3 x4 x5 x6) : keep [1, 5, 6, 20, 21, 22] (e232 x0 x1 x2 x3 x4 x5 x6) = e231 x0 x1 x2 x3 x4 x5 := by kernel_rfl
theorem hb107_1 (x0 x1 x2 x3 x4 x5 x6) : boolOf? (ent (e232 x0 x1 x2 x3 x4 x5 x6) (.t 23)) = some x6 := by kernel_rfl
def g107_19 (k0 : V0 → V0 → Int → Int → V0 → Int → Int → Option R) (x0 x1 : V0) (x2 : Int) (x3 : V0) (x4 x5 : Int) : Option R :=
if 0 ≤ x5 ∧ x5 < (x3.length : Int) then
k0 x0 x1 (IntKind.i64.wrap (x2 + (x3.getD x5.toNat (0 : Int)))) x5 x3 x4 x5
else none
theorem t107_19 (x0 x1 x2 x3 x4 x5) : exec cl N c107_19 (e231 x0 x1 x2 x3 x4 x5) K = g107_19 (fun y0 y1 y2 y3 y4 y5 y6 => exec cl N (.seq c107_15 c107_18) (e233 y0 y1 y2 y3 y4 y5 y6) K) x0 x1 x2 x3 x4 x5 := by kernel_rfl
def g107_12 (k0 : V0 → V0 → Int → Int → V0 → Int → Int → Bool → Option R) (x0 x1 : V0) (x2 x3 : Int) (x4 : V0) (x5 x6 : Int) := k0 x0 x1 x2 x3 x4 x5 x6 (decide (x3 < (x0.length : Int)))
theorem t107_12 (x0 x1 x2 x3 x4 x5 x6) : exec cl N c107_12 (e233 x0 x1 x2 x3 x4 x5 x6) K = g107_12 (fun y0 y1 y2 y3 y4 y5 y6 y7 => K .normal (e234 y0 y1 y2 y3 y4 y5 y6 y7)) x0 x1 x2 x3 x4 x5 x6 := by kernel_rfl
def g107_13 (k0 : K8 R) (x0 x1 : V0) (x2 x3 : Int) (x4 : V0) (x5 x6 : Int) (x7 : Bool) : Option R :=
if 0 ≤ x3 ∧ x3 < (x0.length : Int) then
k0 x0 x1 (IntKind.i64.wrap (x2 + (x0.getD x3.toNat (0 : Int)))) x4 x5 x6
else none
theorem t107_13 (x0 x1 x2 x3 x4 x5 x6 x7) : exec cl N c107_13 (e234 x0 x1 x2 x3 x4 x5 x6 x7) K = g107_13 (fun y0 y1 y2 y3 y4 y5 => K .normal (e231 y0 y1 y2 y3 y4 y5)) x0 x1 x2 x3 x4 x5 x6 x7 := by kernel_rfl
theorem kp107_4 (x0 x1 x2 x3 x4 x5 x6 x7) : keep [1, 5, 6, 20, 21, 22] (e234 x0 x1 x2 x3 x4 x5 x6 x7) = e231 x0 x1 x2 x4 x5 x6 := by kernel_rfl
theorem hb107_2 (x0 x1 x2 x3 x4 x5 x6 x7) : boolOf? (ent (e234 x0 x1 x2 x3 x4 x5 x6 x7) (.t 33)) = some x7 := by kernel_rfl
def g107_15 (k0 : K8 R) (x0 x1 : V0) (x2 x3 : Int) (x4 : V0) (x5 x6 : Int) := (g107_12 (fun y0 y1 y2 y3 y4 y5 y6 y7 => brB y7 (g107_13 k0 y0 y1 y2 y3 y4 y5 y6 y7) (k0 y0 y1 y2 y4 y5 y6)) x0 x1 x2 x3 x4 x5 x6)
theorem t107_15 (x0 x1 x2 x3 x4 x5 x6) : exec cl N c107_15 (e233 x0 x1 x2 x3 x4 x5 x6) K = g107_15 (fun y0 y1 y2 y3 y4 y5 => K .normal (e231 y0 y1 y2 y3 y4 y5)) x0 x1 x2 x3 x4 x5 x6 := by
 simp only [c107_15, B0, t107_12, c107_14, exec_out, B1, hb107_2, Option.bind_some, t107_13, kp107_2, kp107_4]
 rfl
def g107_18 (k0 : K8 R) (x0 x1 : V0) (x2 : Int) (x3 : V0) (x4 x5 : Int) : Option R :=
let v1026 : Int := (Int.tmod x2 (10000 : Int))
if x1.length + [v1026].length ≤ 17592186044416 then
k0 x0 (x1 ++ [v1026]) (IntKind.i64.wrap (Int.tdiv x2 (10000 : Int))) x3 x4 x5
else none
theorem t107_18 (x0 x1 x2 x3 x4 x5) : exec cl N c107_18 (e231 x0 x1 x2 x3 x4 x5) K = g107_18 (fun y0 y1 y2 y3 y4 y5 => K .normal (e231 y0 y1 y2 y3 y4 y5)) x0 x1 x2 x3 x4 x5 := by kernel_rfl
def g107_21 (k0 : K8 R) (x0 x1 : V0) (x2 : Int) (x3 : V0) (x4 x5 : Int) := k0 x0 x1 x2 x3 x4 (IntKind.i64.wrap (x5 + (1 : Int)))
theorem t107_21 (x0 x1 x2 x3 x4 x5) : exec cl N c107_21 (e231 x0 x1 x2 x3 x4 x5) K = g107_21 (fun y0 y1 y2 y3 y4 y5 => K .normal (e231 y0 y1 y2 y3 y4 y5)) x0 x1 x2 x3 x4 x5 := by kernel_rfl
def g107_22 (k0 : K8 R) (k1 : K8 R) (x0 x1 : V0) (x2 : Int) (x3 : V0) (x4 x5 : Int) := (g107_8 (fun y0 y1 y2 y3 y4 y5 y6 => brB y6 ((g107_19 (g107_15 (g107_18 ((g107_21 k0))))) y0 y1 y2 y3 y4 y5) (k1 y0 y1 y2 y3 y4 y5)) x0 x1 x2 x3 x4 x5)
theorem t107_22 (x0 x1 x2 x3 x4 x5) : exec cl N c107_22 (e231 x0 x1 x2 x3 x4 x5) K = g107_22 (fun y0 y1 y2 y3 y4 y5 => K .normal (e231 y0 y1 y2 y3 y4 y5)) (fun y0 y1 y2 y3 y4 y5 => K (.exit 0) (e231 y0 y1 y2 y3 y4 y5)) x0 x1 x2 x3 x4 x5 := by
 simp only [c107_22, B0, t107_8, c107_9, exec_out, B1, hb107_1, Option.bind_some, exec_exit, kp107_3, c107_20, B2, t107_19, t107_15, t107_18, kp107_2, t107_21]
 rfl
def l107_23 {R : Type} (k0 : K8 R) : Nat → V0 → V0 → Int → V0 → Int → Int → Option R
 | 0, _, _, _, _, _, _ => none
 | m + 1, x0, x1, x2, x3, x4, x5 => (g107_22 (l107_23 k0 m) k0 x0 x1 x2 x3 x4 x5)
theorem lt107_23 : ∀ (m) (x0 x1 x2 x3 x4 x5), iter [1, 5, 6, 20, 21, 22] (fun env K => exec cl N c107_22 env K) K m (e231 x0 x1 x2 x3 x4 x5) = l107_23 (fun y0 y1 y2 y3 y4 y5 => K (.exit 0) (e231 y0 y1 y2 y3 y4 y5)) m x0 x1 x2 x3 x4 x5 := by
 intro m
 induction m with
 | zero => intros; rfl
 | succ m ih =>
   intro x0 x1 x2 x3 x4 x5
   simp only [B3, t107_22, kp107_2, ih]
   rfl
theorem kp107_5 (x0 x1 x2 x3 x4 x5) : keep [5, 6] (e231 x0 x1 x2 x3 x4 x5) = e40 x1 x2 := by kernel_rfl
def g107_23 (N : Nat) (k0 : V0 → Int → Option R) (x0 x1 : V0) (x2 : Int) (x3 : V0) (x4 x5 : Int) : Option R :=
l107_23 (fun y0 y1 y2 y3 y4 y5 => k0 y1 y2) N x0 x1 x2 x3 x4 x5
theorem t107_23 (x0 x1 x2 x3 x4 x5) : exec cl N c107_23 (e231 x0 x1 x2 x3 x4 x5) K = g107_23 N (fun y0 y1 => K (.exit 0) (e40 y0 y1)) x0 x1 x2 x3 x4 x5 := by
 simp only [c107_23, exec_out, exec_loop, kp107_2, lt107_23, kp107_5]
 rfl
theorem kp107_6 (x0 x1) : keep [5, 6] (e40 x0 x1) = e40 x0 x1 := by kernel_rfl
def g107_25 (k0 : V0 → Int → Bool → Option R) (x0 : V0) (x1 : Int) := k0 x0 x1 (decide (x1 > (0 : Int)))
theorem t107_25 (x0 x1) : exec cl N c107_25 (e40 x0 x1) K = g107_25 (fun y0 y1 y2 => K .normal (e235 y0 y1 y2)) x0 x1 := by kernel_rfl
def g107_26 (k0 : K38 R) (x0 : V0) (x1 : Int) (x2 : Bool) : Option R :=
if x0.length + [x1].length ≤ 17592186044416 then
k0 (x0 ++ [x1])
else none
theorem t107_26 (x0 x1 x2) : exec cl N c107_26 (e235 x0 x1 x2) K = g107_26 (fun y0 => K .normal (e38 y0)) x0 x1 x2 := by kernel_rfl
theorem kp107_7 (x0) : keep [5] (e38 x0) = e38 x0 := by kernel_rfl
theorem kp107_8 (x0 x1 x2) : keep [5] (e235 x0 x1 x2) = e38 x0 := by kernel_rfl
theorem hb107_3 (x0 x1 x2) : boolOf? (ent (e235 x0 x1 x2) (.t 49)) = some x2 := by kernel_rfl
def g107_28 (k0 : K38 R) (x0 : V0) (x1 : Int) := (g107_25 (fun y0 y1 y2 => brB y2 (g107_26 k0 y0 y1 y2) (k0 y0)) x0 x1)
theorem t107_28 (x0 x1) : exec cl N c107_28 (e40 x0 x1) K = g107_28 (fun y0 => K .normal (e38 y0)) x0 x1 := by
 simp only [c107_28, B0, t107_25, c107_27, exec_out, B1, hb107_3, Option.bind_some, t107_26, kp107_7, kp107_8]
 rfl
def g107_29 (k0 : K38 R) (x0 : V0) := k0 x0
theorem t107_29 (x0) : exec cl N c107_29 (e38 x0) K = g107_29 (fun y0 => K .normal (e236 y0)) x0 := by kernel_rfl
def g107_31 (N : Nat) (k0 : K38 R) (x0 x1 : V0) := (g107_0 (g107_4 (g107_30 (g107_7 (g107_23 N ((g107_28 (g107_29 k0))))))) x0 x1)
theorem t107_31 (x0 x1) : exec cl N c107_31 (e20 x0 x1) K = g107_31 N (fun y0 => K .ret (e236 y0)) x0 x1 := by
 simp only [c107_31, B0, t107_0, t107_4, t107_30, t107_7, c107_24, exec_out, B2, t107_23, kp107_6, t107_28, t107_29, exec_ret]
 rfl
theorem rk107_0 (y0) : retK d107 .ret (e236 y0) = some [.own true 3 U1 .no y0] := by kernel_rfl
def g107 (N : Nat) (x0 x1 : V0) (k : V0 → Option R) := (g107_31 N k x0 x1)
theorem gen107 (x0 x1) (k : List E → Option R) : exec cl N c107 (e20 x0 x1) (fun e env => (retK d107 e env).bind k) = g107 N x0 x1 (fun r0 => k [.own true 3 U1 .no r0]) := by
 simp only [c107, t107_31, rk107_0, Option.bind_some]
 rfl
def ctr107 (S : s107) : Ctr := cv2 107 U2 U2 S fun b => [.own true 3 U1 .no b]
def S107 (N : Nat) (x0 : V0) (x1 : V0) : Option V2 := g107 N x0 x1 (fun r0 => some (r0))
def g82_0 (k0 : K35 R) (x0 x1 : V5) := k0 x0 x1 ([], ())
theorem t82_0 (x0 x1) : exec cl N c82_0 (e41 x0 x1) K = g82_0 (fun y0 y1 y2 => K .normal (e42 y0 y1 y2)) x0 x1 := by kernel_rfl
def g82_1 (S75 : s75) (k0 : K20 R) (x0 x1 x2 : V5) : Option R :=
(S75 x0).bind fun r1032 =>
brB (!r1032) (k0 x0 x1 x2 true) ((S75 x1).bind fun r1033 =>
k0 x0 x1 x2 (!r1033))
theorem t82_1 (S75) (h75 : (ctr75 S75).holds cl) (x0 x1 x2) : exec cl N c82_1 (e42 x0 x1 x2) K = g82_1 S75 (fun y0 y1 y2 y3 => K .normal (e150 y0 y1 y2 y3)) x0 x1 x2 := by
 rw [← put_eq h75]
 kernel_rfl
def g82_2 (k0 : K3 R) (x0 x1 x2 : V5) (x3 : Bool) := k0 ([], ()) (1 : Int)
theorem t82_2 (x0 x1 x2 x3) : exec cl N c82_2 (e150 x0 x1 x2 x3) K = g82_2 (fun y0 y1 => K .normal (e44 y0 y1)) x0 x1 x2 x3 := by kernel_rfl
theorem kp82_0 (x0 x1) : keep [2, 3, 4, 5] (e44 x0 x1) = e45 x0 x1 := by kernel_rfl
theorem kp82_1 (x0 x1 x2 x3) : keep [2, 3, 4, 5] (e150 x0 x1 x2 x3) = e46 x0 x1 x2 := by kernel_rfl
theorem hb82_0 (x0 x1 x2 x3) : boolOf? (ent (e150 x0 x1 x2 x3) (.t 13)) = some x3 := by kernel_rfl
def g82_4 (S106 : s106) (S107 : s107) (k0 : K3 R) (x0 x1 x2 : V5) : Option R :=
(S107 x0.1 x1.1).bind fun r1034 =>
(S106 r1034).bind fun r1035 =>
k0 r1035.1 r1035.2
theorem t82_4 (S106) (S107) (h106 : (ctr106 S106).holds cl) (h107 : (ctr107 S107).holds cl) (x0 x1 x2) : exec cl N c82_4 (e46 x0 x1 x2) K = g82_4 S106 S107 (fun y0 y1 => K .normal (e49 y0 y1)) x0 x1 x2 := by
 rw [← put_eq h106]
 rw [← put_eq h107]
 kernel_rfl
def g82_5 (S75 : s75) (S106 : s106) (S107 : s107) (k0 : K3 R) (k1 : K3 R) (x0 x1 : V5) := (g82_0 (g82_1 S75 (fun y0 y1 y2 y3 => brB y3 (g82_2 k0 y0 y1 y2 y3) ((g82_4 S106 S107 k1) y0 y1 y2))) x0 x1)
theorem t82_5 (S75) (S106) (S107) (h75 : (ctr75 S75).holds cl) (h106 : (ctr106 S106).holds cl) (h107 : (ctr107 S107).holds cl) (x0 x1) : exec cl N c82_5 (e41 x0 x1) K = g82_5 S75 S106 S107 (fun y0 y1 => K .ret (e45 y0 y1)) (fun y0 y1 => K .ret (e49 y0 y1)) x0 x1 := by
 simp only [c82_5, B0, t82_0, t82_1 S75 h75, c82_3, exec_out, B1, hb82_0, Option.bind_some, t82_2, exec_ret, kp82_0, kp82_1, t82_4 S106 S107 h106 h107]
 rfl
theorem rk82_0 (y0 y1) : retK d82 .ret (e45 y0 y1) = some [.v U5 y0, .v U1 y1] := by kernel_rfl
theorem rk82_1 (y0 y1) : retK d82 .ret (e49 y0 y1) = some [.v U5 y0, .v U1 y1] := by kernel_rfl
def g82 (S75 : s75) (S106 : s106) (S107 : s107) (x0 x1 : V5) (k : V5 → Int → Option R) := (g82_5 S75 S106 S107 k k x0 x1)
theorem gen82 (S75) (S106) (S107) (h75 : (ctr75 S75).holds cl) (h106 : (ctr106 S106).holds cl) (h107 : (ctr107 S107).holds cl) (x0 x1) (k : List E → Option R) : exec cl N c82 (e41 x0 x1) (fun e env => (retK d82 e env).bind k) = g82 S75 S106 S107 x0 x1 (fun r0 r1 => k [.v U5 r0, .v U1 r1]) := by
 simp only [c82, t82_5 S75 S106 S107 h75 h106 h107, rk82_0, rk82_1, Option.bind_some]
 rfl
def ctr82 (S : s82) : Ctr := cv2 82 U5 U5 S fun b => [.v U5 b.1, .v U1 b.2]
def S82 (N : Nat) (x0 : V5) (x1 : V5) : Option V9 := g82 (S75 N) (S106 N) (S107 N) x0 x1 (fun r0 r1 => some (r0, r1))
def g50_3 (S82 : s82) (k0 : K46 R) (x0 x1 : V5) : Option R :=
(S82 x0 x1).bind fun r1039 =>
k0 r1039.1
theorem t50_3 (S82) (h82 : (ctr82 S82).holds cl) (x0 x1) : exec cl N c50_3 (e41 x0 x1) K = g50_3 S82 (fun y0 => exec cl N .ret [(4, .loc U5 .no y0)] K) x0 x1 := by
 rw [← put_eq h82]
 kernel_rfl
def g50_3b (S82 : s82) (k0 : K46 R) (x0 x1 : V5) := (g50_3 S82 k0 x0 x1)
theorem t50_3b (S82) (h82 : (ctr82 S82).holds cl) (x0 x1) : exec cl N c50_3 (e41 x0 x1) K = g50_3b S82 (fun y0 => K .ret [(4, .loc U5 .no y0)]) x0 x1 := by
 simp only [B0, t50_3 S82 h82, exec_ret]
 rfl
theorem rk50_0 (y0) : retK d50 .ret [(4, .loc U5 .no y0)] = some [.v U5 y0] := by kernel_rfl
def g50 (S82 : s82) (x0 x1 : V5) (k : V5 → Option R) := (g50_3b S82 k x0 x1)
theorem gen50 (S82) (h82 : (ctr82 S82).holds cl) (x0 x1) (k : List E → Option R) : exec cl N c50 (e41 x0 x1) (fun e env => (retK d50 e env).bind k) = g50 S82 x0 x1 (fun r0 => k [.v U5 r0]) := by
 simp only [c50, t50_3b S82 h82, rk50_0, Option.bind_some]
 rfl
def ctr50 (S : s50) : Ctr := cv2 50 U5 U5 S fun b => [.v U5 b]
def S50 (N : Nat) (x0 : V5) (x1 : V5) : Option V7 := g50 (S82 N) x0 x1 (fun r0 => some (r0))
def g19_16 (S43 : s43) (k0 : Int → Int → V16 → Int → Int → Int → Option R) (x0 x1 : Int) (x2 : V16) : Option R :=
(S43 x0 x1 (200 : Int) x0 x2).bind fun r1044 =>
k0 x0 x1 (false, (([], ()), (([], ()), ()))) r1044.1 r1044.2.1 r1044.2.2
theorem t19_16 (S43) (h43 : (ctr43 S43).holds cl) (x0 x1 x2) : exec cl N c19_16 (e237 x0 x1 x2) K = g19_16 S43 (fun y0 y1 y2 y3 y4 y5 => exec cl N (.seq (.seq c19_2 c19_4) (.seq c19_5 (.seq (.seq c19_6 c19_14) (.seq c19_15 .ret)))) (e238 y0 y1 y2 y3 y4 y5) K) x0 x1 x2 := by
 rw [← put_eq h43]
 kernel_rfl
def g19_2 (k0 : Int → Int → V16 → Int → Int → Int → Bool → Option R) (x0 x1 : Int) (x2 : V16) (x3 x4 x5 : Int) := k0 x0 x1 x2 x3 x4 x5 (x5 != (0 : Int))
theorem t19_2 (x0 x1 x2 x3 x4 x5) : exec cl N c19_2 (e238 x0 x1 x2 x3 x4 x5) K = g19_2 (fun y0 y1 y2 y3 y4 y5 y6 => K .normal (e239 y0 y1 y2 y3 y4 y5 y6)) x0 x1 x2 x3 x4 x5 := by kernel_rfl
def g19_3 (k0 : K0 R) (x0 x1 : Int) (x2 : V16) (x3 x4 x5 : Int) (x6 : Bool) := k0 (false, ([], ()), ([], ()), ()) x5
theorem t19_3 (x0 x1 x2 x3 x4 x5 x6) : exec cl N c19_3 (e239 x0 x1 x2 x3 x4 x5 x6) K = g19_3 (fun y0 y1 => K .normal (e240 y0 y1)) x0 x1 x2 x3 x4 x5 x6 := by kernel_rfl
theorem kp19_0 (x0 x1) : keep [0, 1, 6, 7, 8, 9] (e240 x0 x1) = e241 x0 x1 := by kernel_rfl
theorem kp19_1 (x0 x1 x2 x3 x4 x5 x6) : keep [0, 1, 6, 7, 8, 9] (e239 x0 x1 x2 x3 x4 x5 x6) = e242 x0 x1 x2 x3 x4 := by kernel_rfl
theorem hb19_0 (x0 x1 x2 x3 x4 x5 x6) : boolOf? (ent (e239 x0 x1 x2 x3 x4 x5 x6) (.t 23)) = some x6 := by kernel_rfl
def g19_5 (S49 : s49) (k0 : Int → Int → V16 → Int → Int → V5 → Option R) (x0 x1 : Int) (x2 : V16) (x3 x4 : Int) : Option R :=
(S49 (0 : Int)).bind fun r1047 =>
k0 x0 x1 x2 x3 x4 r1047
theorem t19_5 (S49) (h49 : (ctr49 S49).holds cl) (x0 x1 x2 x3 x4) : exec cl N c19_5 (e242 x0 x1 x2 x3 x4) K = g19_5 S49 (fun y0 y1 y2 y3 y4 y5 => K .normal (e243 y0 y1 y2 y3 y4 y5)) x0 x1 x2 x3 x4 := by
 rw [← put_eq h49]
 kernel_rfl
def g19_6 (k0 : K14 R) (x0 x1 : Int) (x2 : V16) (x3 x4 : Int) (x5 : V5) := k0 x0 x2 x3 x4 x5 x1
theorem t19_6 (x0 x1 x2 x3 x4 x5) : exec cl N c19_6 (e243 x0 x1 x2 x3 x4 x5) K = g19_6 (fun y0 y1 y2 y3 y4 y5 => K .normal (e244 y0 y1 y2 y3 y4 y5)) x0 x1 x2 x3 x4 x5 := by kernel_rfl
theorem kp19_2 (x0 x1 x2 x3 x4 x5) : keep [0, 6, 8, 9, 11, 12] (e244 x0 x1 x2 x3 x4 x5) = e244 x0 x1 x2 x3 x4 x5 := by kernel_rfl
def g19_7 (k0 : Int → V16 → Int → Int → V5 → Int → Bool → Option R) (x0 : Int) (x1 : V16) (x2 x3 : Int) (x4 : V5) (x5 : Int) := k0 x0 x1 x2 x3 x4 x5 (decide (x5 ≤ x0))
theorem t19_7 (x0 x1 x2 x3 x4 x5) : exec cl N c19_7 (e244 x0 x1 x2 x3 x4 x5) K = g19_7 (fun y0 y1 y2 y3 y4 y5 y6 => K .normal (e245 y0 y1 y2 y3 y4 y5 y6)) x0 x1 x2 x3 x4 x5 := by kernel_rfl
theorem kp19_3 (x0 x1 x2 x3 x4 x5 x6) : keep [0, 6, 8, 9, 11, 12] (e245 x0 x1 x2 x3 x4 x5 x6) = e244 x0 x1 x2 x3 x4 x5 := by kernel_rfl
theorem hb19_1 (x0 x1 x2 x3 x4 x5 x6) : boolOf? (ent (e245 x0 x1 x2 x3 x4 x5 x6) (.t 30)) = some x6 := by kernel_rfl
def g19_9 (S45 : s45) (S50 : s50) (k0 : K14 R) (x0 : Int) (x1 : V16) (x2 x3 : Int) (x4 : V5) (x5 : Int) : Option R :=
(S45 x0 x5 x2 x3).bind fun r1049 =>
(S50 x4 r1049).bind fun r1050 =>
k0 x0 x1 x2 x3 r1050 x5
theorem t19_9 (S45) (S50) (h45 : (ctr45 S45).holds cl) (h50 : (ctr50 S50).holds cl) (x0 x1 x2 x3 x4 x5) : exec cl N c19_9 (e244 x0 x1 x2 x3 x4 x5) K = g19_9 S45 S50 (fun y0 y1 y2 y3 y4 y5 => K .normal (e244 y0 y1 y2 y3 y4 y5)) x0 x1 x2 x3 x4 x5 := by
 rw [← put_eq h45]
 rw [← put_eq h50]
 kernel_rfl
def g19_11 (k0 : K14 R) (x0 : Int) (x1 : V16) (x2 x3 : Int) (x4 : V5) (x5 : Int) := k0 x0 x1 x2 x3 x4 (IntKind.i64.wrap (x5 + (1 : Int)))
theorem t19_11 (x0 x1 x2 x3 x4 x5) : exec cl N c19_11 (e244 x0 x1 x2 x3 x4 x5) K = g19_11 (fun y0 y1 y2 y3 y4 y5 => K .normal (e244 y0 y1 y2 y3 y4 y5)) x0 x1 x2 x3 x4 x5 := by kernel_rfl
def g19_12 (S45 : s45) (S50 : s50) (k0 : K14 R) (k1 : K14 R) (x0 : Int) (x1 : V16) (x2 x3 : Int) (x4 : V5) (x5 : Int) := (g19_7 (fun y0 y1 y2 y3 y4 y5 y6 => brB y6 ((g19_9 S45 S50 ((g19_11 k0))) y0 y1 y2 y3 y4 y5) (k1 y0 y1 y2 y3 y4 y5)) x0 x1 x2 x3 x4 x5)
theorem t19_12 (S45) (S50) (h45 : (ctr45 S45).holds cl) (h50 : (ctr50 S50).holds cl) (x0 x1 x2 x3 x4 x5) : exec cl N c19_12 (e244 x0 x1 x2 x3 x4 x5) K = g19_12 S45 S50 (fun y0 y1 y2 y3 y4 y5 => K .normal (e244 y0 y1 y2 y3 y4 y5)) (fun y0 y1 y2 y3 y4 y5 => K (.exit 0) (e244 y0 y1 y2 y3 y4 y5)) x0 x1 x2 x3 x4 x5 := by
 simp only [c19_12, B0, t19_7, c19_8, exec_out, B1, hb19_1, Option.bind_some, exec_exit, kp19_3, c19_10, B2, t19_9 S45 S50 h45 h50, kp19_2, t19_11]
 rfl
def l19_13 {R : Type} (S45 : s45) (S50 : s50) (k0 : K14 R) : Nat → Int → V16 → Int → Int → V5 → Int → Option R
 | 0, _, _, _, _, _, _ => none
 | m + 1, x0, x1, x2, x3, x4, x5 => (g19_12 S45 S50 (l19_13 S45 S50 k0 m) k0 x0 x1 x2 x3 x4 x5)
theorem lt19_13 (S45) (S50) (h45 : (ctr45 S45).holds cl) (h50 : (ctr50 S50).holds cl) : ∀ (m) (x0 x1 x2 x3 x4 x5), iter [0, 6, 8, 9, 11, 12] (fun env K => exec cl N c19_12 env K) K m (e244 x0 x1 x2 x3 x4 x5) = l19_13 S45 S50 (fun y0 y1 y2 y3 y4 y5 => K (.exit 0) (e244 y0 y1 y2 y3 y4 y5)) m x0 x1 x2 x3 x4 x5 := by
 intro m
 induction m with
 | zero => intros; rfl
 | succ m ih =>
   intro x0 x1 x2 x3 x4 x5
   simp only [B3, t19_12 S45 S50 h45 h50, kp19_2, ih]
   rfl
theorem kp19_4 (x0 x1 x2 x3 x4 x5) : keep [0, 6, 9, 11] (e244 x0 x1 x2 x3 x4 x5) = e246 x0 x1 x3 x4 := by kernel_rfl
def g19_13 (N : Nat) (S45 : s45) (S50 : s50) (k0 : Int → V16 → Int → V5 → Option R) (x0 : Int) (x1 : V16) (x2 x3 : Int) (x4 : V5) (x5 : Int) : Option R :=
l19_13 S45 S50 (fun y0 y1 y2 y3 y4 y5 => k0 y0 y1 y3 y4) N x0 x1 x2 x3 x4 x5
theorem t19_13 (S45) (S50) (h45 : (ctr45 S45).holds cl) (h50 : (ctr50 S50).holds cl) (x0 x1 x2 x3 x4 x5) : exec cl N c19_13 (e244 x0 x1 x2 x3 x4 x5) K = g19_13 N S45 S50 (fun y0 y1 y2 y3 => K (.exit 0) (e246 y0 y1 y2 y3)) x0 x1 x2 x3 x4 x5 := by
 simp only [c19_13, exec_out, exec_loop, kp19_2, lt19_13 S45 S50 h45 h50, kp19_4]
 rfl
theorem kp19_5 (x0 x1 x2 x3) : keep [0, 6, 9, 11] (e246 x0 x1 x2 x3) = e246 x0 x1 x2 x3 := by kernel_rfl
def g19_15 (S44 : s44) (S46 : s46) (k0 : K0 R) (x0 : Int) (x1 : V16) (x2 : Int) (x3 : V5) : Option R :=
(S46 x2 x0).bind fun r1052 =>
(S44 x3 r1052).bind fun r1053 =>
k0 r1053.1 r1053.2
theorem t19_15 (S44) (S46) (h44 : (ctr44 S44).holds cl) (h46 : (ctr46 S46).holds cl) (x0 x1 x2 x3) : exec cl N c19_15 (e246 x0 x1 x2 x3) K = g19_15 S44 S46 (fun y0 y1 => K .normal (e240 y0 y1)) x0 x1 x2 x3 := by
 rw [← put_eq h44]
 rw [← put_eq h46]
 kernel_rfl
def g19_16b (N : Nat) (S43 : s43) (S44 : s44) (S45 : s45) (S46 : s46) (S49 : s49) (S50 : s50) (k0 : K0 R) (k1 : K0 R) (x0 x1 : Int) (x2 : V16) := (g19_16 S43 (g19_2 (fun y0 y1 y2 y3 y4 y5 y6 => brB y6 (g19_3 k0 y0 y1 y2 y3 y4 y5 y6) ((g19_5 S49 (g19_6 (g19_13 N S45 S50 ((g19_15 S44 S46 k1))))) y0 y1 y2 y3 y4))) x0 x1 x2)
theorem t19_16b (S43) (S44) (S45) (S46) (S49) (S50) (h43 : (ctr43 S43).holds cl) (h44 : (ctr44 S44).holds cl) (h45 : (ctr45 S45).holds cl) (h46 : (ctr46 S46).holds cl) (h49 : (ctr49 S49).holds cl) (h50 : (ctr50 S50).holds cl) (x0 x1 x2) : exec cl N c19_16 (e237 x0 x1 x2) K = g19_16b N S43 S44 S45 S46 S49 S50 (fun y0 y1 => K .ret (e241 y0 y1)) (fun y0 y1 => K .ret (e240 y0 y1)) x0 x1 x2 := by
 simp only [B0, t19_16 S43 h43, t19_2, c19_4, exec_out, B1, hb19_0, Option.bind_some, t19_3, exec_ret, kp19_0, kp19_1, t19_5 S49 h49, t19_6, c19_14, B2, t19_13 S45 S50 h45 h50, kp19_5, t19_15 S44 S46 h44 h46]
 rfl
theorem rk19_0 (y0 y1) : retK d19 .ret (e241 y0 y1) = some [.v U12 y0, .v U1 y1] := by kernel_rfl
theorem rk19_1 (y0 y1) : retK d19 .ret (e240 y0 y1) = some [.v U12 y0, .v U1 y1] := by kernel_rfl
def g19 (N : Nat) (S43 : s43) (S44 : s44) (S45 : s45) (S46 : s46) (S49 : s49) (S50 : s50) (x0 x1 : Int) (x2 : V16) (k : V16 → Int → Option R) := (g19_16b N S43 S44 S45 S46 S49 S50 k k x0 x1 x2)
theorem gen19 (S43) (S44) (S45) (S46) (S49) (S50) (h43 : (ctr43 S43).holds cl) (h44 : (ctr44 S44).holds cl) (h45 : (ctr45 S45).holds cl) (h46 : (ctr46 S46).holds cl) (h49 : (ctr49 S49).holds cl) (h50 : (ctr50 S50).holds cl) (x0 x1 x2) (k : List E → Option R) : exec cl N c19 (e237 x0 x1 x2) (fun e env => (retK d19 e env).bind k) = g19 N S43 S44 S45 S46 S49 S50 x0 x1 x2 (fun r0 r1 => k [.v U12 r0, .v U1 r1]) := by
 simp only [c19, t19_16b S43 S44 S45 S46 S49 S50 h43 h44 h45 h46 h49 h50, rk19_0, rk19_1, Option.bind_some]
 rfl
def ctr19 (S : s19) : Ctr := cv3 19 U1 U1 U12 S fun b => [.v U12 b.1, .v U1 b.2]
def S19 (N : Nat) (x0 : Int) (x1 : Int) (x2 : V16) : Option V19 := g19 N (S43 N) (S44 N) (S45 N) (S46 N) (S49 N) (S50 N) x0 x1 x2 (fun r0 r1 => some (r0, r1))
def g68_0 (k0 : Int → Int → V16 → Option R) (x0 x1 : Int) := k0 x0 x1 (false, (([], ()), (([], ()), ())))
theorem t68_0 (x0 x1) : exec cl N c68_0 (e83 x0 x1) K = g68_0 (fun y0 y1 y2 => K .normal (e84 y0 y1 y2)) x0 x1 := by kernel_rfl
def g68_1 (k0 : K12 R) (x0 x1 : Int) (x2 : V16) := k0 x0 x1 x2 (x1 == (0 : Int))
theorem t68_1 (x0 x1 x2) : exec cl N c68_1 (e84 x0 x1 x2) K = g68_1 (fun y0 y1 y2 y3 => K .normal (e247 y0 y1 y2 y3)) x0 x1 x2 := by kernel_rfl
def g68_2 (k0 : K0 R) (x0 x1 : Int) (x2 : V16) (x3 : Bool) := k0 (false, ([], ()), ([], ()), ()) (6 : Int)
theorem t68_2 (x0 x1 x2 x3) : exec cl N c68_2 (e247 x0 x1 x2 x3) K = g68_2 (fun y0 y1 => K .normal (e86 y0 y1)) x0 x1 x2 x3 := by kernel_rfl
theorem kp68_0 (x0 x1) : keep [0, 1, 4, 5] (e86 x0 x1) = e87 x0 x1 := by kernel_rfl
theorem kp68_1 (x0 x1 x2 x3) : keep [0, 1, 4, 5] (e247 x0 x1 x2 x3) = e88 x0 x1 x2 := by kernel_rfl
theorem hb68_0 (x0 x1 x2 x3) : boolOf? (ent (e247 x0 x1 x2 x3) (.t 7)) = some x3 := by kernel_rfl
def g68_4 (k0 : K12 R) (x0 x1 : Int) (x2 : V16) : Option R :=
brB (decide ((if x1 > x0 then x1 else x0) > (1000000000000000 : Int))) (k0 x0 x1 x2 true) (k0 x0 x1 x2 (decide ((if x1 < x0 then x1 else x0) < (-1000000000000000 : Int))))
theorem t68_4 (x0 x1 x2) : exec cl N c68_4 (e88 x0 x1 x2) K = g68_4 (fun y0 y1 y2 y3 => K .normal (e248 y0 y1 y2 y3)) x0 x1 x2 := by kernel_rfl
def g68_5 (k0 : K0 R) (x0 x1 : Int) (x2 : V16) (x3 : Bool) := k0 (false, ([], ()), ([], ()), ()) (3 : Int)
theorem t68_5 (x0 x1 x2 x3) : exec cl N c68_5 (e248 x0 x1 x2 x3) K = g68_5 (fun y0 y1 => K .normal (e86 y0 y1)) x0 x1 x2 x3 := by kernel_rfl
theorem kp68_2 (x0 x1 x2 x3) : keep [0, 1, 4, 5] (e248 x0 x1 x2 x3) = e88 x0 x1 x2 := by kernel_rfl
theorem hb68_1 (x0 x1 x2 x3) : boolOf? (ent (e248 x0 x1 x2 x3) (.t 18)) = some x3 := by kernel_rfl
def g68_7 (S77 : s77) (S95 : s95) (k0 : K0 R) (x0 x1 : Int) (x2 : V16) : Option R :=
let v1090 : Int := (IntKind.i64.wrap (0 - x0))
(S95 (if v1090 > x0 then v1090 else x0)).bind fun r1092 =>
let v1093 : Int := (IntKind.i64.wrap (0 - x1))
(S95 (if v1093 > x1 then v1093 else x1)).bind fun r1095 =>
(S77 (!((decide (x0 < (0 : Int))) == (decide (x1 < (0 : Int))))) r1092 r1095).bind fun r1096 =>
k0 r1096 (0 : Int)
theorem t68_7 (S77) (S95) (h77 : (ctr77 S77).holds cl) (h95 : (ctr95 S95).holds cl) (x0 x1 x2) : exec cl N c68_7 (e88 x0 x1 x2) K = g68_7 S77 S95 (fun y0 y1 => K .normal (e86 y0 y1)) x0 x1 x2 := by
 rw [← put_eq h77]
 rw [← put_eq h95]
 kernel_rfl
def g68_8 (S77 : s77) (S95 : s95) (k0 : K0 R) (k1 : K0 R) (x0 x1 : Int) := (g68_0 (g68_1 (fun y0 y1 y2 y3 => brB y3 (g68_2 k0 y0 y1 y2 y3) ((g68_4 (fun y0 y1 y2 y3 => brB y3 (g68_5 k0 y0 y1 y2 y3) ((g68_7 S77 S95 k1) y0 y1 y2))) y0 y1 y2))) x0 x1)
theorem t68_8 (S77) (S95) (h77 : (ctr77 S77).holds cl) (h95 : (ctr95 S95).holds cl) (x0 x1) : exec cl N c68_8 (e83 x0 x1) K = g68_8 S77 S95 (fun y0 y1 => K .ret (e87 y0 y1)) (fun y0 y1 => K .ret (e86 y0 y1)) x0 x1 := by
 simp only [c68_8, B0, t68_0, t68_1, c68_3, exec_out, B1, hb68_0, Option.bind_some, t68_2, exec_ret, kp68_0, kp68_1, t68_4, c68_6, hb68_1, t68_5, kp68_2, t68_7 S77 S95 h77 h95]
 rfl
theorem rk68_0 (y0 y1) : retK d68 .ret (e87 y0 y1) = some [.v U12 y0, .v U1 y1] := by kernel_rfl
theorem rk68_1 (y0 y1) : retK d68 .ret (e86 y0 y1) = some [.v U12 y0, .v U1 y1] := by kernel_rfl
def g68 (S77 : s77) (S95 : s95) (x0 x1 : Int) (k : V16 → Int → Option R) := (g68_8 S77 S95 k k x0 x1)
theorem gen68 (S77) (S95) (h77 : (ctr77 S77).holds cl) (h95 : (ctr95 S95).holds cl) (x0 x1) (k : List E → Option R) : exec cl N c68 (e83 x0 x1) (fun e env => (retK d68 e env).bind k) = g68 S77 S95 x0 x1 (fun r0 r1 => k [.v U12 r0, .v U1 r1]) := by
 simp only [c68, t68_8 S77 S95 h77 h95, rk68_0, rk68_1, Option.bind_some]
 rfl
def ctr68 (S : s68) : Ctr := cv2 68 U1 U1 S fun b => [.v U12 b.1, .v U1 b.2]
def S68 (N : Nat) (x0 : Int) (x1 : Int) : Option V19 := g68 (S77 N) (S95 N) x0 x1 (fun r0 r1 => some (r0, r1))
def g33_6 (S43 : s43) (k0 : Int → V16 → Int → Int → Int → Option R) (x0 : Int) (x1 : V16) : Option R :=
(S43 x0 (0 : Int) (200 : Int) (0 : Int) x1).bind fun r1098 =>
k0 x0 (false, (([], ()), (([], ()), ()))) r1098.1 r1098.2.1 r1098.2.2
theorem t33_6 (S43) (h43 : (ctr43 S43).holds cl) (x0 x1) : exec cl N c33_6 (e163 x0 x1) K = g33_6 S43 (fun y0 y1 y2 y3 y4 => exec cl N (.seq (.seq c33_2 c33_4) (.seq c33_5 .ret)) (e249 y0 y1 y2 y3 y4) K) x0 x1 := by
 rw [← put_eq h43]
 kernel_rfl
def g33_2 (k0 : Int → V16 → Int → Int → Int → Bool → Option R) (x0 : Int) (x1 : V16) (x2 x3 x4 : Int) := k0 x0 x1 x2 x3 x4 (x4 != (0 : Int))
theorem t33_2 (x0 x1 x2 x3 x4) : exec cl N c33_2 (e249 x0 x1 x2 x3 x4) K = g33_2 (fun y0 y1 y2 y3 y4 y5 => K .normal (e250 y0 y1 y2 y3 y4 y5)) x0 x1 x2 x3 x4 := by kernel_rfl
def g33_3 (k0 : K0 R) (x0 : Int) (x1 : V16) (x2 x3 x4 : Int) (x5 : Bool) := k0 (false, ([], ()), ([], ()), ()) x4
theorem t33_3 (x0 x1 x2 x3 x4 x5) : exec cl N c33_3 (e250 x0 x1 x2 x3 x4 x5) K = g33_3 (fun y0 y1 => K .normal (e86 y0 y1)) x0 x1 x2 x3 x4 x5 := by kernel_rfl
theorem kp33_0 (x0 x1) : keep [0, 4, 5, 6, 7] (e86 x0 x1) = e251 x0 x1 := by kernel_rfl
theorem kp33_1 (x0 x1 x2 x3 x4 x5) : keep [0, 4, 5, 6, 7] (e250 x0 x1 x2 x3 x4 x5) = e252 x0 x1 x2 x3 := by kernel_rfl
theorem hb33_0 (x0 x1 x2 x3 x4 x5) : boolOf? (ent (e250 x0 x1 x2 x3 x4 x5) (.t 17)) = some x5 := by kernel_rfl
def g33_5 (S68 : s68) (k0 : K0 R) (x0 : Int) (x1 : V16) (x2 x3 : Int) : Option R :=
(S68 (IntKind.i64.wrap (x0 * x2)) x3).bind fun r1102 =>
k0 r1102.1 r1102.2
theorem t33_5 (S68) (h68 : (ctr68 S68).holds cl) (x0 x1 x2 x3) : exec cl N c33_5 (e252 x0 x1 x2 x3) K = g33_5 S68 (fun y0 y1 => K .normal (e86 y0 y1)) x0 x1 x2 x3 := by
 rw [← put_eq h68]
 kernel_rfl
def g33_6b (S43 : s43) (S68 : s68) (k0 : K0 R) (k1 : K0 R) (x0 : Int) (x1 : V16) := (g33_6 S43 (g33_2 (fun y0 y1 y2 y3 y4 y5 => brB y5 (g33_3 k0 y0 y1 y2 y3 y4 y5) ((g33_5 S68 k1) y0 y1 y2 y3))) x0 x1)
theorem t33_6b (S43) (S68) (h43 : (ctr43 S43).holds cl) (h68 : (ctr68 S68).holds cl) (x0 x1) : exec cl N c33_6 (e163 x0 x1) K = g33_6b S43 S68 (fun y0 y1 => K .ret (e251 y0 y1)) (fun y0 y1 => K .ret (e86 y0 y1)) x0 x1 := by
 simp only [B0, t33_6 S43 h43, t33_2, c33_4, exec_out, B1, hb33_0, Option.bind_some, t33_3, exec_ret, kp33_0, kp33_1, t33_5 S68 h68]
 rfl
theorem rk33_0 (y0 y1) : retK d33 .ret (e251 y0 y1) = some [.v U12 y0, .v U1 y1] := by kernel_rfl
theorem rk33_1 (y0 y1) : retK d33 .ret (e86 y0 y1) = some [.v U12 y0, .v U1 y1] := by kernel_rfl
def g33 (S43 : s43) (S68 : s68) (x0 : Int) (x1 : V16) (k : V16 → Int → Option R) := (g33_6b S43 S68 k k x0 x1)
theorem gen33 (S43) (S68) (h43 : (ctr43 S43).holds cl) (h68 : (ctr68 S68).holds cl) (x0 x1) (k : List E → Option R) : exec cl N c33 (e163 x0 x1) (fun e env => (retK d33 e env).bind k) = g33 S43 S68 x0 x1 (fun r0 r1 => k [.v U12 r0, .v U1 r1]) := by
 simp only [c33, t33_6b S43 S68 h43 h68, rk33_0, rk33_1, Option.bind_some]
 rfl
def ctr33 (S : s33) : Ctr := cv2 33 U1 U12 S fun b => [.v U12 b.1, .v U1 b.2]
def S33 (N : Nat) (x0 : Int) (x1 : V16) : Option V19 := g33 (S43 N) (S68 N) x0 x1 (fun r0 r1 => some (r0, r1))
def g34_20 (S43 : s43) (k0 : Int → Int → Int → Int → Option R) (x0 : Int) (x1 : V16) : Option R :=
(S43 x0 (0 : Int) (200 : Int) (0 : Int) x1).bind fun r1118 =>
k0 x0 r1118.1 r1118.2.1 r1118.2.2
theorem t34_20 (S43) (h43 : (ctr43 S43).holds cl) (x0 x1) : exec cl N c34_20 (e163 x0 x1) K = g34_20 S43 (fun y0 y1 y2 y3 => exec cl N (.seq (.seq c34_2 c34_4) (.seq c34_5 (.seq (.seq c34_6 c34_18) (.seq c34_19 .ret)))) (e164 y0 y1 y2 y3) K) x0 x1 := by
 rw [← put_eq h43]
 kernel_rfl
def g34_2 (k0 : Int → Int → Int → Int → Bool → Option R) (x0 x1 x2 x3 : Int) := k0 x0 x1 x2 x3 (x3 != (0 : Int))
theorem t34_2 (x0 x1 x2 x3) : exec cl N c34_2 (e164 x0 x1 x2 x3) K = g34_2 (fun y0 y1 y2 y3 y4 => K .normal (e165 y0 y1 y2 y3 y4)) x0 x1 x2 x3 := by kernel_rfl
def g34_3 (k0 : Int → Int → Option R) (x0 x1 x2 x3 : Int) (x4 : Bool) := k0 (0 : Int) x3
theorem t34_3 (x0 x1 x2 x3 x4) : exec cl N c34_3 (e165 x0 x1 x2 x3 x4) K = g34_3 (fun y0 y1 => K .normal (e253 y0 y1)) x0 x1 x2 x3 x4 := by kernel_rfl
theorem kp34_0 (x0 x1) : keep [0, 4, 5, 6, 7] (e253 x0 x1) = e254 x0 x1 := by kernel_rfl
theorem kp34_1 (x0 x1 x2 x3 x4) : keep [0, 4, 5, 6, 7] (e165 x0 x1 x2 x3 x4) = e168 x0 x1 x2 := by kernel_rfl
theorem hb34_0 (x0 x1 x2 x3 x4) : boolOf? (ent (e165 x0 x1 x2 x3 x4) (.t 21)) = some x4 := by kernel_rfl
def g34_5 (S45 : s45) (k0 : Int → Int → Int → Int → V5 → Option R) (x0 x1 x2 : Int) : Option R :=
(S45 x0 (0 : Int) x1 x2).bind fun r1120 =>
k0 x0 x1 x2 (0 : Int) r1120
theorem t34_5 (S45) (h45 : (ctr45 S45).holds cl) (x0 x1 x2) : exec cl N c34_5 (e168 x0 x1 x2) K = g34_5 S45 (fun y0 y1 y2 y3 y4 => K .normal [(0, .v U1 y0), (6, .v U1 y1), (7, .v U1 y2), (9, .v U1 y3), (10, .loc U5 .no y4)]) x0 x1 x2 := by
 rw [← put_eq h45]
 kernel_rfl
def g34_6 (k0 : K10 R) (x0 x1 x2 x3 : Int) (x4 : V5) := k0 x0 x1 x2 x3 x4 (1 : Int)
theorem t34_6 (x0 x1 x2 x3 x4) : exec cl N c34_6 [(0, .v U1 x0), (6, .v U1 x1), (7, .v U1 x2), (9, .v U1 x3), (10, .loc U5 .no x4)] K = g34_6 (fun y0 y1 y2 y3 y4 y5 => K .normal (e255 y0 y1 y2 y3 y4 y5)) x0 x1 x2 x3 x4 := by kernel_rfl
theorem kp34_2 (x0 x1 x2 x3 x4 x5) : keep [0, 6, 7, 9, 10, 11] (e255 x0 x1 x2 x3 x4 x5) = e255 x0 x1 x2 x3 x4 x5 := by kernel_rfl
def g34_7 (k0 : Int → Int → Int → Int → V5 → Int → Bool → Option R) (x0 x1 x2 x3 : Int) (x4 : V5) (x5 : Int) := k0 x0 x1 x2 x3 x4 x5 (decide (x5 ≤ x0))
theorem t34_7 (x0 x1 x2 x3 x4 x5) : exec cl N c34_7 (e255 x0 x1 x2 x3 x4 x5) K = g34_7 (fun y0 y1 y2 y3 y4 y5 y6 => K .normal (e256 y0 y1 y2 y3 y4 y5 y6)) x0 x1 x2 x3 x4 x5 := by kernel_rfl
theorem kp34_3 (x0 x1 x2 x3 x4 x5 x6) : keep [0, 6, 7, 9, 10, 11] (e256 x0 x1 x2 x3 x4 x5 x6) = e255 x0 x1 x2 x3 x4 x5 := by kernel_rfl
theorem hb34_1 (x0 x1 x2 x3 x4 x5 x6) : boolOf? (ent (e256 x0 x1 x2 x3 x4 x5 x6) (.t 29)) = some x6 := by kernel_rfl
def g34_13 (S45 : s45) (S69 : s69) (k0 : Int → Int → Int → Int → V5 → Int → V5 → Bool → Option R) (x0 x1 x2 x3 : Int) (x4 : V5) (x5 : Int) : Option R :=
(S45 x0 x5 x1 x2).bind fun r1123 =>
(S69 r1123 x4).bind fun r1124 =>
k0 x0 x1 x2 x3 x4 x5 r1123 (decide (r1124 > (0 : Int)))
theorem t34_13 (S45) (S69) (h45 : (ctr45 S45).holds cl) (h69 : (ctr69 S69).holds cl) (x0 x1 x2 x3 x4 x5) : exec cl N c34_13 (e255 x0 x1 x2 x3 x4 x5) K = g34_13 S45 S69 (fun y0 y1 y2 y3 y4 y5 y6 y7 => exec cl N c34_12 (e257 y0 y1 y2 y3 y4 y5 y6 y7) K) x0 x1 x2 x3 x4 x5 := by
 rw [← put_eq h45]
 rw [← put_eq h69]
 kernel_rfl
def g34_11 (k0 : K10 R) (x0 x1 x2 x3 : Int) (x4 : V5) (x5 : Int) (x6 : V5) (x7 : Bool) := k0 x0 x1 x2 x5 x6 x5
theorem t34_11 (x0 x1 x2 x3 x4 x5 x6 x7) : exec cl N c34_11 (e257 x0 x1 x2 x3 x4 x5 x6 x7) K = g34_11 (fun y0 y1 y2 y3 y4 y5 => K .normal (e255 y0 y1 y2 y3 y4 y5)) x0 x1 x2 x3 x4 x5 x6 x7 := by kernel_rfl
theorem kp34_4 (x0 x1 x2 x3 x4 x5 x6 x7) : keep [0, 6, 7, 9, 10, 11] (e257 x0 x1 x2 x3 x4 x5 x6 x7) = e255 x0 x1 x2 x3 x4 x5 := by kernel_rfl
theorem hb34_2 (x0 x1 x2 x3 x4 x5 x6 x7) : boolOf? (ent (e257 x0 x1 x2 x3 x4 x5 x6 x7) (.t 40)) = some x7 := by kernel_rfl
def g34_14 (S45 : s45) (S69 : s69) (k0 : K10 R) (x0 x1 x2 x3 : Int) (x4 : V5) (x5 : Int) := (g34_13 S45 S69 (fun y0 y1 y2 y3 y4 y5 y6 y7 => brB y7 (g34_11 k0 y0 y1 y2 y3 y4 y5 y6 y7) (k0 y0 y1 y2 y3 y4 y5)) x0 x1 x2 x3 x4 x5)
theorem t34_14 (S45) (S69) (h45 : (ctr45 S45).holds cl) (h69 : (ctr69 S69).holds cl) (x0 x1 x2 x3 x4 x5) : exec cl N c34_14 (e255 x0 x1 x2 x3 x4 x5) K = g34_14 S45 S69 (fun y0 y1 y2 y3 y4 y5 => K .normal (e255 y0 y1 y2 y3 y4 y5)) x0 x1 x2 x3 x4 x5 := by
 simp only [c34_14, exec_out, B2, B0, t34_13 S45 S69 h45 h69, c34_12, B1, hb34_2, Option.bind_some, t34_11, kp34_2, kp34_4]
 rfl
def g34_15 (k0 : K10 R) (x0 x1 x2 x3 : Int) (x4 : V5) (x5 : Int) := k0 x0 x1 x2 x3 x4 (IntKind.i64.wrap (x5 + (1 : Int)))
theorem t34_15 (x0 x1 x2 x3 x4 x5) : exec cl N c34_15 (e255 x0 x1 x2 x3 x4 x5) K = g34_15 (fun y0 y1 y2 y3 y4 y5 => K .normal (e255 y0 y1 y2 y3 y4 y5)) x0 x1 x2 x3 x4 x5 := by kernel_rfl
def g34_16 (S45 : s45) (S69 : s69) (k0 : K10 R) (k1 : K10 R) (x0 x1 x2 x3 : Int) (x4 : V5) (x5 : Int) := (g34_7 (fun y0 y1 y2 y3 y4 y5 y6 => brB y6 ((g34_14 S45 S69 (g34_15 k0)) y0 y1 y2 y3 y4 y5) (k1 y0 y1 y2 y3 y4 y5)) x0 x1 x2 x3 x4 x5)
theorem t34_16 (S45) (S69) (h45 : (ctr45 S45).holds cl) (h69 : (ctr69 S69).holds cl) (x0 x1 x2 x3 x4 x5) : exec cl N c34_16 (e255 x0 x1 x2 x3 x4 x5) K = g34_16 S45 S69 (fun y0 y1 y2 y3 y4 y5 => K .normal (e255 y0 y1 y2 y3 y4 y5)) (fun y0 y1 y2 y3 y4 y5 => K (.exit 0) (e255 y0 y1 y2 y3 y4 y5)) x0 x1 x2 x3 x4 x5 := by
 simp only [c34_16, B0, t34_7, c34_8, exec_out, B1, hb34_1, Option.bind_some, exec_exit, kp34_3, t34_14 S45 S69 h45 h69, t34_15]
 rfl
def l34_17 {R : Type} (S45 : s45) (S69 : s69) (k0 : K10 R) : Nat → Int → Int → Int → Int → V5 → Int → Option R
 | 0, _, _, _, _, _, _ => none
 | m + 1, x0, x1, x2, x3, x4, x5 => (g34_16 S45 S69 (l34_17 S45 S69 k0 m) k0 x0 x1 x2 x3 x4 x5)
theorem lt34_17 (S45) (S69) (h45 : (ctr45 S45).holds cl) (h69 : (ctr69 S69).holds cl) : ∀ (m) (x0 x1 x2 x3 x4 x5), iter [0, 6, 7, 9, 10, 11] (fun env K => exec cl N c34_16 env K) K m (e255 x0 x1 x2 x3 x4 x5) = l34_17 S45 S69 (fun y0 y1 y2 y3 y4 y5 => K (.exit 0) (e255 y0 y1 y2 y3 y4 y5)) m x0 x1 x2 x3 x4 x5 := by
 intro m
 induction m with
 | zero => intros; rfl
 | succ m ih =>
   intro x0 x1 x2 x3 x4 x5
   simp only [B3, t34_16 S45 S69 h45 h69, kp34_2, ih]
   rfl
theorem kp34_5 (x0 x1 x2 x3 x4 x5) : keep [9] (e255 x0 x1 x2 x3 x4 x5) = [(9, .v U1 x3)] := by kernel_rfl
def g34_17 (N : Nat) (S45 : s45) (S69 : s69) (k0 : K21 R) (x0 x1 x2 x3 : Int) (x4 : V5) (x5 : Int) : Option R :=
l34_17 S45 S69 (fun y0 y1 y2 y3 y4 y5 => k0 y3) N x0 x1 x2 x3 x4 x5
theorem t34_17 (S45) (S69) (h45 : (ctr45 S45).holds cl) (h69 : (ctr69 S69).holds cl) (x0 x1 x2 x3 x4 x5) : exec cl N c34_17 (e255 x0 x1 x2 x3 x4 x5) K = g34_17 N S45 S69 (fun y0 => K (.exit 0) [(9, .v U1 y0)]) x0 x1 x2 x3 x4 x5 := by
 simp only [c34_17, exec_out, exec_loop, kp34_2, lt34_17 S45 S69 h45 h69, kp34_5]
 rfl
theorem kp34_6 (x0) : keep [9] [(9, .v U1 x0)] = [(9, .v U1 x0)] := by kernel_rfl
def g34_19 (k0 : Int → Int → Option R) (x0 : Int) := k0 x0 (0 : Int)
theorem t34_19 (x0) : exec cl N c34_19 [(9, .v U1 x0)] K = g34_19 (fun y0 y1 => K .normal (e253 y0 y1)) x0 := by kernel_rfl
def g34_20b (N : Nat) (S43 : s43) (S45 : s45) (S69 : s69) (k0 : Int → Int → Option R) (k1 : Int → Int → Option R) (x0 : Int) (x1 : V16) := (g34_20 S43 (g34_2 (fun y0 y1 y2 y3 y4 => brB y4 (g34_3 k0 y0 y1 y2 y3 y4) ((g34_5 S45 (g34_6 (g34_17 N S45 S69 ((g34_19 k1))))) y0 y1 y2))) x0 x1)
theorem t34_20b (S43) (S45) (S69) (h43 : (ctr43 S43).holds cl) (h45 : (ctr45 S45).holds cl) (h69 : (ctr69 S69).holds cl) (x0 x1) : exec cl N c34_20 (e163 x0 x1) K = g34_20b N S43 S45 S69 (fun y0 y1 => K .ret (e254 y0 y1)) (fun y0 y1 => K .ret (e253 y0 y1)) x0 x1 := by
 simp only [B0, t34_20 S43 h43, t34_2, c34_4, exec_out, B1, hb34_0, Option.bind_some, t34_3, exec_ret, kp34_0, kp34_1, t34_5 S45 h45, t34_6, c34_18, B2, t34_17 S45 S69 h45 h69, kp34_6, t34_19]
 rfl
theorem rk34_0 (y0 y1) : retK d34 .ret (e254 y0 y1) = some [.v U1 y0, .v U1 y1] := by kernel_rfl
theorem rk34_1 (y0 y1) : retK d34 .ret (e253 y0 y1) = some [.v U1 y0, .v U1 y1] := by kernel_rfl
def g34 (N : Nat) (S43 : s43) (S45 : s45) (S69 : s69) (x0 : Int) (x1 : V16) (k : Int → Int → Option R) := (g34_20b N S43 S45 S69 k k x0 x1)
theorem gen34 (S43) (S45) (S69) (h43 : (ctr43 S43).holds cl) (h45 : (ctr45 S45).holds cl) (h69 : (ctr69 S69).holds cl) (x0 x1) (k : List E → Option R) : exec cl N c34 (e163 x0 x1) (fun e env => (retK d34 e env).bind k) = g34 N S43 S45 S69 x0 x1 (fun r0 r1 => k [.v U1 r0, .v U1 r1]) := by
 simp only [c34, t34_20b S43 S45 S69 h43 h45 h69, rk34_0, rk34_1, Option.bind_some]
 rfl
def ctr34 (S : s34) : Ctr := cv2 34 U1 U12 S fun b => [.v U1 b.1, .v U1 b.2]
def S34 (N : Nat) (x0 : Int) (x1 : V16) : Option V1 := g34 N (S43 N) (S45 N) (S69 N) x0 x1 (fun r0 r1 => some (r0, r1))
def g25_0 (k0 : V16 → V16 → V16 → Option R) (x0 x1 : V16) := k0 x0 x1 (false, (([], ()), (([], ()), ())))
theorem t25_0 (x0 x1) : exec cl N c25_0 (e186 x0 x1) K = g25_0 (fun y0 y1 y2 => K .normal (e187 y0 y1 y2)) x0 x1 := by kernel_rfl
def g25_1 (S54 : s54) (k0 : V16 → V16 → V16 → Bool → Option R) (x0 x1 x2 : V16) : Option R :=
(S54 x0).bind fun r1147 =>
brB (!r1147) (k0 x0 x1 x2 true) ((S54 x1).bind fun r1148 =>
k0 x0 x1 x2 (!r1148))
theorem t25_1 (S54) (h54 : (ctr54 S54).holds cl) (x0 x1 x2) : exec cl N c25_1 (e187 x0 x1 x2) K = g25_1 S54 (fun y0 y1 y2 y3 => K .normal (e258 y0 y1 y2 y3)) x0 x1 x2 := by
 rw [← put_eq h54]
 kernel_rfl
def g25_2 (k0 : K0 R) (x0 x1 x2 : V16) (x3 : Bool) := k0 (false, ([], ()), ([], ()), ()) (1 : Int)
theorem t25_2 (x0 x1 x2 x3) : exec cl N c25_2 (e258 x0 x1 x2 x3) K = g25_2 (fun y0 y1 => K .normal (e86 y0 y1)) x0 x1 x2 x3 := by kernel_rfl
theorem kp25_0 (x0 x1) : keep [2, 3, 4, 5] (e86 x0 x1) = e160 x0 x1 := by kernel_rfl
theorem kp25_1 (x0 x1 x2 x3) : keep [2, 3, 4, 5] (e258 x0 x1 x2 x3) = e189 x0 x1 x2 := by kernel_rfl
theorem hb25_0 (x0 x1 x2 x3) : boolOf? (ent (e258 x0 x1 x2 x3) (.t 16)) = some x3 := by kernel_rfl
def g25_4 (S57 : s57) (k0 : V16 → V16 → V16 → V5 → V5 → Int → Option R) (x0 x1 x2 : V16) : Option R :=
(S57 x0.2.1 x1.2.1 x0.2.2.1 x1.2.2.1).bind fun r1150 =>
k0 x0 x1 x2 r1150.1 r1150.2.1 r1150.2.2
theorem t25_4 (S57) (h57 : (ctr57 S57).holds cl) (x0 x1 x2) : exec cl N c25_4 (e189 x0 x1 x2) K = g25_4 S57 (fun y0 y1 y2 y3 y4 y5 => K .normal (e190 y0 y1 y2 y3 y4 y5)) x0 x1 x2 := by
 rw [← put_eq h57]
 kernel_rfl
def g25_5 (k0 : V16 → V16 → V16 → V5 → V5 → Int → Bool → Option R) (x0 x1 x2 : V16) (x3 x4 : V5) (x5 : Int) := k0 x0 x1 x2 x3 x4 x5 (x5 != (0 : Int))
theorem t25_5 (x0 x1 x2 x3 x4 x5) : exec cl N c25_5 (e190 x0 x1 x2 x3 x4 x5) K = g25_5 (fun y0 y1 y2 y3 y4 y5 y6 => K .normal (e259 y0 y1 y2 y3 y4 y5 y6)) x0 x1 x2 x3 x4 x5 := by kernel_rfl
def g25_6 (k0 : K0 R) (x0 x1 x2 : V16) (x3 x4 : V5) (x5 : Int) (x6 : Bool) := k0 (false, ([], ()), ([], ()), ()) x5
theorem t25_6 (x0 x1 x2 x3 x4 x5 x6) : exec cl N c25_6 (e259 x0 x1 x2 x3 x4 x5 x6) K = g25_6 (fun y0 y1 => K .normal (e86 y0 y1)) x0 x1 x2 x3 x4 x5 x6 := by kernel_rfl
theorem kp25_2 (x0 x1) : keep [2, 3, 4, 5, 6, 7] (e86 x0 x1) = e192 x0 x1 := by kernel_rfl
theorem kp25_3 (x0 x1 x2 x3 x4 x5 x6) : keep [2, 3, 4, 5, 6, 7] (e259 x0 x1 x2 x3 x4 x5 x6) = e193 x0 x1 x2 x3 x4 := by kernel_rfl
theorem hb25_1 (x0 x1 x2 x3 x4 x5 x6) : boolOf? (ent (e259 x0 x1 x2 x3 x4 x5 x6) (.t 32)) = some x6 := by kernel_rfl
def g25_8 (S52 : s52) (k0 : K0 R) (x0 x1 x2 : V16) (x3 x4 : V5) : Option R :=
(S52 (!(x0.1 == x1.1)) x3 x4).bind fun r1154 =>
k0 r1154 (0 : Int)
theorem t25_8 (S52) (h52 : (ctr52 S52).holds cl) (x0 x1 x2 x3 x4) : exec cl N c25_8 (e193 x0 x1 x2 x3 x4) K = g25_8 S52 (fun y0 y1 => K .normal (e86 y0 y1)) x0 x1 x2 x3 x4 := by
 rw [← put_eq h52]
 kernel_rfl
def g25_9 (S52 : s52) (S54 : s54) (S57 : s57) (k0 : K0 R) (k1 : K0 R) (k2 : K0 R) (x0 x1 : V16) := (g25_0 (g25_1 S54 (fun y0 y1 y2 y3 => brB y3 (g25_2 k0 y0 y1 y2 y3) ((g25_4 S57 (g25_5 (fun y0 y1 y2 y3 y4 y5 y6 => brB y6 (g25_6 k1 y0 y1 y2 y3 y4 y5 y6) ((g25_8 S52 k2) y0 y1 y2 y3 y4)))) y0 y1 y2))) x0 x1)
theorem t25_9 (S52) (S54) (S57) (h52 : (ctr52 S52).holds cl) (h54 : (ctr54 S54).holds cl) (h57 : (ctr57 S57).holds cl) (x0 x1) : exec cl N c25_9 (e186 x0 x1) K = g25_9 S52 S54 S57 (fun y0 y1 => K .ret (e160 y0 y1)) (fun y0 y1 => K .ret (e192 y0 y1)) (fun y0 y1 => K .ret (e86 y0 y1)) x0 x1 := by
 simp only [c25_9, B0, t25_0, t25_1 S54 h54, c25_3, exec_out, B1, hb25_0, Option.bind_some, t25_2, exec_ret, kp25_0, kp25_1, t25_4 S57 h57, t25_5, c25_7, hb25_1, t25_6, kp25_2, kp25_3, t25_8 S52 h52]
 rfl
theorem rk25_0 (y0 y1) : retK d25 .ret (e160 y0 y1) = some [.v U12 y0, .v U1 y1] := by kernel_rfl
theorem rk25_1 (y0 y1) : retK d25 .ret (e192 y0 y1) = some [.v U12 y0, .v U1 y1] := by kernel_rfl
theorem rk25_2 (y0 y1) : retK d25 .ret (e86 y0 y1) = some [.v U12 y0, .v U1 y1] := by kernel_rfl
def g25 (S52 : s52) (S54 : s54) (S57 : s57) (x0 x1 : V16) (k : V16 → Int → Option R) := (g25_9 S52 S54 S57 k k k x0 x1)
theorem gen25 (S52) (S54) (S57) (h52 : (ctr52 S52).holds cl) (h54 : (ctr54 S54).holds cl) (h57 : (ctr57 S57).holds cl) (x0 x1) (k : List E → Option R) : exec cl N c25 (e186 x0 x1) (fun e env => (retK d25 e env).bind k) = g25 S52 S54 S57 x0 x1 (fun r0 r1 => k [.v U12 r0, .v U1 r1]) := by
 simp only [c25, t25_9 S52 S54 S57 h52 h54 h57, rk25_0, rk25_1, rk25_2, Option.bind_some]
 rfl
def ctr25 (S : s25) : Ctr := cv2 25 U12 U12 S fun b => [.v U12 b.1, .v U1 b.2]
def S25 (N : Nat) (x0 : V16) (x1 : V16) : Option V19 := g25 (S52 N) (S54 N) (S57 N) x0 x1 (fun r0 r1 => some (r0, r1))
def g70_12 (S84 : s84) (k0 : V5 → V5 → V5 → V5 → V5 → V5 → Option R) (x0 x1 x2 x3 : V5) : Option R :=
(S84 x0 x1).bind fun r1171 =>
(S84 x2 x3).bind fun r1172 =>
k0 x1 x3 r1171.1 r1171.2.1 r1172.1 r1172.2.1
theorem t70_12 (S84) (h84 : (ctr84 S84).holds cl) (x0 x1 x2 x3) : exec cl N c70_12 (e180 x0 x1 x2 x3) K = g70_12 S84 (fun y0 y1 y2 y3 y4 y5 => exec cl N (.seq c70_7 (.seq (.seq c70_8 c70_10) (.seq c70_11 .ret))) (e260 y0 y1 y2 y3 y4 y5) K) x0 x1 x2 x3 := by
 rw [← put_eq h84]
 kernel_rfl
def g70_7 (S60 : s60) (k0 : V5 → V5 → V5 → V5 → Int → Bool → Option R) (x0 x1 x2 x3 x4 x5 : V5) : Option R :=
(S60 x2 x4).bind fun r1174 =>
k0 x0 x1 x3 x5 r1174 (r1174 != (0 : Int))
theorem t70_7 (S60) (h60 : (ctr60 S60).holds cl) (x0 x1 x2 x3 x4 x5) : exec cl N c70_7 (e260 x0 x1 x2 x3 x4 x5) K = g70_7 S60 (fun y0 y1 y2 y3 y4 y5 => exec cl N c70_6 (e261 y0 y1 y2 y3 y4 y5) K) x0 x1 x2 x3 x4 x5 := by
 rw [← put_eq h60]
 kernel_rfl
def g70_5 (k0 : K21 R) (x0 x1 x2 x3 : V5) (x4 : Int) (x5 : Bool) := k0 x4
theorem t70_5 (x0 x1 x2 x3 x4 x5) : exec cl N c70_5 (e261 x0 x1 x2 x3 x4 x5) K = g70_5 (fun y0 => K .normal [(8, .v U1 y0)]) x0 x1 x2 x3 x4 x5 := by kernel_rfl
theorem kp70_0 (x0) : keep [5, 7, 8, 10, 13] [(8, .v U1 x0)] = e262 x0 := by kernel_rfl
theorem kp70_1 (x0 x1 x2 x3 x4 x5) : keep [5, 7, 8, 10, 13] (e261 x0 x1 x2 x3 x4 x5) = e263 x0 x1 x2 x3 := by kernel_rfl
theorem hb70_0 (x0 x1 x2 x3 x4 x5) : boolOf? (ent (e261 x0 x1 x2 x3 x4 x5) (.t 34)) = some x5 := by kernel_rfl
def g70_8 (S56 : s56) (k0 : K27 R) (x0 x1 x2 x3 : V5) : Option R :=
(S56 x2).bind fun r1176 =>
brB r1176 (k0 x0 x1 x2 x3 true) ((S56 x3).bind fun r1177 =>
k0 x0 x1 x2 x3 r1177)
theorem t70_8 (S56) (h56 : (ctr56 S56).holds cl) (x0 x1 x2 x3) : exec cl N c70_8 (e263 x0 x1 x2 x3) K = g70_8 S56 (fun y0 y1 y2 y3 y4 => K .normal (e264 y0 y1 y2 y3 y4)) x0 x1 x2 x3 := by
 rw [← put_eq h56]
 kernel_rfl
def g70_9 (S60 : s60) (k0 : K21 R) (x0 x1 x2 x3 : V5) (x4 : Bool) : Option R :=
(S60 x2 x3).bind fun r1178 =>
k0 r1178
theorem t70_9 (S60) (h60 : (ctr60 S60).holds cl) (x0 x1 x2 x3 x4) : exec cl N c70_9 (e264 x0 x1 x2 x3 x4) K = g70_9 S60 (fun y0 => K .normal [(8, .v U1 y0)]) x0 x1 x2 x3 x4 := by
 rw [← put_eq h60]
 kernel_rfl
theorem kp70_2 (x0 x1 x2 x3 x4) : keep [5, 7, 8, 10, 13] (e264 x0 x1 x2 x3 x4) = e263 x0 x1 x2 x3 := by kernel_rfl
theorem hb70_1 (x0 x1 x2 x3 x4) : boolOf? (ent (e264 x0 x1 x2 x3 x4) (.t 41)) = some x4 := by kernel_rfl
def g70_11 (S70 : s70) (k0 : K21 R) (x0 x1 x2 x3 : V5) : Option R :=
(S70 x1 x3 x0 x2).bind fun r1179 =>
k0 r1179
theorem t70_11 (S70) (h70 : (ctr70 S70).holds cl) (x0 x1 x2 x3) : exec cl N c70_11 (e263 x0 x1 x2 x3) K = g70_11 S70 (fun y0 => K .normal [(8, .v U1 y0)]) x0 x1 x2 x3 := by
 rw [← put_eq h70]
 kernel_rfl
def g70_12b (S56 : s56) (S60 : s60) (S70 : s70) (S84 : s84) (k0 : K21 R) (k1 : K21 R) (x0 x1 x2 x3 : V5) := (g70_12 S84 (g70_7 S60 (fun y0 y1 y2 y3 y4 y5 => brB y5 (g70_5 k0 y0 y1 y2 y3 y4 y5) ((g70_8 S56 (fun y0 y1 y2 y3 y4 => brB y4 (g70_9 S60 k0 y0 y1 y2 y3 y4) ((g70_11 S70 k1) y0 y1 y2 y3))) y0 y1 y2 y3))) x0 x1 x2 x3)
theorem t70_12b (S56) (S60) (S70) (S84) (h56 : (ctr56 S56).holds cl) (h60 : (ctr60 S60).holds cl) (h70 : (ctr70 S70).holds cl) (h84 : (ctr84 S84).holds cl) (x0 x1 x2 x3) : exec cl N c70_12 (e180 x0 x1 x2 x3) K = g70_12b S56 S60 S70 S84 (fun y0 => K .ret (e262 y0)) (fun y0 => K .ret [(8, .v U1 y0)]) x0 x1 x2 x3 := by
 simp only [B0, t70_12 S84 h84, t70_7 S60 h60, c70_6, exec_out, B1, hb70_0, Option.bind_some, t70_5, exec_ret, kp70_0, kp70_1, t70_8 S56 h56, c70_10, hb70_1, t70_9 S60 h60, kp70_2, t70_11 S70 h70]
 rfl
theorem rk70_0 (y0) : retK d70 .ret (e262 y0) = some [.v U1 y0] := by kernel_rfl
theorem rk70_1 (y0) : retK d70 .ret [(8, .v U1 y0)] = some [.v U1 y0] := by kernel_rfl
def g70 (S56 : s56) (S60 : s60) (S70 : s70) (S84 : s84) (x0 x1 x2 x3 : V5) (k : Int → Option R) := (g70_12b S56 S60 S70 S84 k k x0 x1 x2 x3)
theorem gen70 (S56) (S60) (S70) (S84) (h56 : (ctr56 S56).holds cl) (h60 : (ctr60 S60).holds cl) (h70 : (ctr70 S70).holds cl) (h84 : (ctr84 S84).holds cl) (x0 x1 x2 x3) (k : List E → Option R) : exec cl N c70 (e180 x0 x1 x2 x3) (fun e env => (retK d70 e env).bind k) = g70 S56 S60 S70 S84 x0 x1 x2 x3 (fun r0 => k [.v U1 r0]) := by
 simp only [c70, t70_12b S56 S60 S70 S84 h56 h60 h70 h84, rk70_0, rk70_1, Option.bind_some]
 rfl
def R70 (N : Nat) : Nat → V5 → V5 → V5 → V5 → Option (Int)
 | 0, _, _, _, _ => none
 | m + 1, x0, x1, x2, x3 => g70 (S56 N) (S60 N) (R70 N m) (S84 N) x0 x1 x2 x3 (fun (r0 : Int) => some (r0))
def S70 (N : Nat) (x0 : V5) (x1 : V5) (x2 : V5) (x3 : V5) : Option (Int) := R70 N 250 x0 x1 x2 x3
def g35_0 (k0 : V16 → V16 → Option R) (x0 x1 : V16) := k0 x0 x1
theorem t35_0 (x0 x1) : exec cl N c35_0 (e186 x0 x1) K = g35_0 (fun y0 y1 => K .normal [(2, .loc U12 .no y0), (3, .loc U12 .no y1)]) x0 x1 := by kernel_rfl
def g35_1 (S54 : s54) (k0 : K43 R) (x0 x1 : V16) : Option R :=
(S54 x0).bind fun r1182 =>
brB (!r1182) (k0 x0 x1 true) ((S54 x1).bind fun r1183 =>
k0 x0 x1 (!r1183))
theorem t35_1 (S54) (h54 : (ctr54 S54).holds cl) (x0 x1) : exec cl N c35_1 [(2, .loc U12 .no x0), (3, .loc U12 .no x1)] K = g35_1 S54 (fun y0 y1 y2 => K .normal (e265 y0 y1 y2)) x0 x1 := by
 rw [← put_eq h54]
 kernel_rfl
def g35_2 (k0 : K21 R) (x0 x1 : V16) (x2 : Bool) := k0 (0 : Int)
theorem t35_2 (x0 x1 x2) : exec cl N c35_2 (e265 x0 x1 x2) K = g35_2 (fun y0 => K .normal [(4, .v U1 y0)]) x0 x1 x2 := by kernel_rfl
theorem kp35_0 (x0) : keep [2, 3, 4] [(4, .v U1 x0)] = e266 x0 := by kernel_rfl
theorem kp35_1 (x0 x1 x2) : keep [2, 3, 4] (e265 x0 x1 x2) = e267 x0 x1 := by kernel_rfl
theorem hb35_0 (x0 x1 x2) : boolOf? (ent (e265 x0 x1 x2) (.t 12)) = some x2 := by kernel_rfl
def g35_4 (k0 : K43 R) (x0 x1 : V16) := k0 x0 x1 (!(x0.1 == x1.1))
theorem t35_4 (x0 x1) : exec cl N c35_4 (e267 x0 x1) K = g35_4 (fun y0 y1 y2 => K .normal (e268 y0 y1 y2)) x0 x1 := by kernel_rfl
def g35_5 (k0 : K11 R) (x0 x1 : V16) (x2 : Bool) := k0 x0.1
theorem t35_5 (x0 x1 x2) : exec cl N c35_5 (e268 x0 x1 x2) K = g35_5 (fun y0 => K .normal [(19, .v .bool y0)]) x0 x1 x2 := by kernel_rfl
def g35_6 (k0 : K21 R) (x0 : Bool) := k0 (-1 : Int)
theorem t35_6 (x0) : exec cl N c35_6 [(19, .v .bool x0)] K = g35_6 (fun y0 => K .normal [(4, .v U1 y0)]) x0 := by kernel_rfl
theorem kp35_2 (x0) : keep [4] [(4, .v U1 x0)] = [(4, .v U1 x0)] := by kernel_rfl
theorem kp35_3 (x0) : keep [4] [(19, .v .bool x0)] = [(4, .dead)] := by kernel_rfl
theorem hb35_1 (x0) : boolOf? (ent [(19, .v .bool x0)] (.t 19)) = some x0 := by kernel_rfl
def g35_8 (k0 : K21 R) := k0 (1 : Int)
theorem t35_8 : exec cl N c35_8 [(4, .dead)] K = g35_8 (fun y0 => K .normal [(4, .v U1 y0)]) := by kernel_rfl
theorem kp35_4 (x0 x1 x2) : keep [2, 3, 4] (e268 x0 x1 x2) = e267 x0 x1 := by kernel_rfl
theorem hb35_2 (x0 x1 x2) : boolOf? (ent (e268 x0 x1 x2) (.t 17)) = some x2 := by kernel_rfl
def g35_10 (k0 : K43 R) (x0 x1 : V16) := k0 x0 x1 x0.1
theorem t35_10 (x0 x1) : exec cl N c35_10 (e267 x0 x1) K = g35_10 (fun y0 y1 y2 => K .normal (e269 y0 y1 y2)) x0 x1 := by kernel_rfl
def g35_11 (S70 : s70) (k0 : K21 R) (x0 x1 : V16) (x2 : Bool) : Option R :=
(S70 x1.2.1 x1.2.2.1 x0.2.1 x0.2.2.1).bind fun r1185 =>
k0 r1185
theorem t35_11 (S70) (h70 : (ctr70 S70).holds cl) (x0 x1 x2) : exec cl N c35_11 (e269 x0 x1 x2) K = g35_11 S70 (fun y0 => K .normal [(4, .v U1 y0)]) x0 x1 x2 := by
 rw [← put_eq h70]
 kernel_rfl
theorem kp35_5 (x0 x1 x2) : keep [2, 3, 4] (e269 x0 x1 x2) = e267 x0 x1 := by kernel_rfl
theorem hb35_3 (x0 x1 x2) : boolOf? (ent (e269 x0 x1 x2) (.t 21)) = some x2 := by kernel_rfl
def g35_13 (S70 : s70) (k0 : K21 R) (x0 x1 : V16) : Option R :=
(S70 x0.2.1 x0.2.2.1 x1.2.1 x1.2.2.1).bind fun r1186 =>
k0 r1186
theorem t35_13 (S70) (h70 : (ctr70 S70).holds cl) (x0 x1) : exec cl N c35_13 (e267 x0 x1) K = g35_13 S70 (fun y0 => K .normal [(4, .v U1 y0)]) x0 x1 := by
 rw [← put_eq h70]
 kernel_rfl
def g35_14 (S54 : s54) (S70 : s70) (k0 : K21 R) (k1 : K21 R) (x0 x1 : V16) := (g35_0 (g35_1 S54 (fun y0 y1 y2 => brB y2 (g35_2 k0 y0 y1 y2) ((g35_4 (fun y0 y1 y2 => brB y2 (g35_5 (fun y0 => brB y0 (g35_6 k0 y0) (g35_8 k0)) y0 y1 y2) ((g35_10 (fun y0 y1 y2 => brB y2 (g35_11 S70 k0 y0 y1 y2) ((g35_13 S70 k1) y0 y1))) y0 y1))) y0 y1))) x0 x1)
theorem t35_14 (S54) (S70) (h54 : (ctr54 S54).holds cl) (h70 : (ctr70 S70).holds cl) (x0 x1) : exec cl N c35_14 (e186 x0 x1) K = g35_14 S54 S70 (fun y0 => K .ret (e266 y0)) (fun y0 => K .ret [(4, .v U1 y0)]) x0 x1 := by
 simp only [c35_14, B0, t35_0, t35_1 S54 h54, c35_3, exec_out, B1, hb35_0, Option.bind_some, t35_2, exec_ret, kp35_0, kp35_1, t35_4, c35_9, hb35_2, t35_5, c35_7, hb35_1, t35_6, kp35_2, kp35_3, t35_8, kp35_4, t35_10, c35_12, hb35_3, t35_11 S70 h70, kp35_5, t35_13 S70 h70]
 rfl
theorem rk35_0 (y0) : retK d35 .ret (e266 y0) = some [.v U1 y0] := by kernel_rfl
theorem rk35_1 (y0) : retK d35 .ret [(4, .v U1 y0)] = some [.v U1 y0] := by kernel_rfl
def g35 (S54 : s54) (S70 : s70) (x0 x1 : V16) (k : Int → Option R) := (g35_14 S54 S70 k k x0 x1)
theorem gen35 (S54) (S70) (h54 : (ctr54 S54).holds cl) (h70 : (ctr70 S70).holds cl) (x0 x1) (k : List E → Option R) : exec cl N c35 (e186 x0 x1) (fun e env => (retK d35 e env).bind k) = g35 S54 S70 x0 x1 (fun r0 => k [.v U1 r0]) := by
 simp only [c35, t35_14 S54 S70 h54 h70, rk35_0, rk35_1, Option.bind_some]
 rfl
def ctr35 (S : s35) : Ctr := cv2 35 U12 U12 S fun b => [.v U1 b]
def S35 (N : Nat) (x0 : V16) (x1 : V16) : Option (Int) := g35 (S54 N) (S70 N) x0 x1 (fun r0 => some (r0))
def g9_0 (k0 : V13 → Option R) (x0 : V13) := k0 x0
theorem t9_0 (x0) : exec cl N c9_0 [(0, .v U10 x0)] K = g9_0 (fun y0 => K .normal [(1, .loc U10 .no y0)]) x0 := by kernel_rfl
def g9_1 (S11 : s11) (k0 : V13 → Bool → Option R) (x0 : V13) : Option R :=
(S11).bind fun r1195 =>
k0 x0 (!r1195)
theorem t9_1 (S11) (h11 : (ctr11 S11).holds cl) (x0) : exec cl N c9_1 [(1, .loc U10 .no x0)] K = g9_1 S11 (fun y0 y1 => K .normal (e270 y0 y1)) x0 := by
 rw [← put_eq h11]
 kernel_rfl
def g9_2 (k0 : K11 R) (x0 : V13) (x1 : Bool) := k0 false
theorem t9_2 (x0 x1) : exec cl N c9_2 (e270 x0 x1) K = g9_2 (fun y0 => K .normal [(2, .v .bool y0)]) x0 x1 := by kernel_rfl
theorem kp9_0 (x0) : keep [1, 2] [(2, .v .bool x0)] = e122 x0 := by kernel_rfl
theorem kp9_1 (x0 x1) : keep [1, 2] (e270 x0 x1) = [(1, .loc U10 .no x0), (2, .dead)] := by kernel_rfl
theorem hb9_0 (x0 x1) : boolOf? (ent (e270 x0 x1) (.t 22)) = some x1 := by kernel_rfl
def g9_35 (S13 : s13) (S22 : s22) (k0 : V13 → Int → V16 → V18 → Int → Option R) (x0 : V13) : Option R :=
let v1200 : Int := (IntKind.i64.wrap (Int.tmod x0.1 (13 : Int)))
(S22 x0.2.2.1 x0.2.2.2.1).bind fun r1201 =>
(S13 v1200 r1201).bind fun r1202 =>
k0 x0 v1200 r1201 r1202.1 r1202.2
theorem t9_35 (S13) (S22) (h13 : (ctr13 S13).holds cl) (h22 : (ctr22 S22).holds cl) (x0) : exec cl N c9_35 [(1, .loc U10 .no x0), (2, .dead)] K = g9_35 S13 S22 (fun y0 y1 y2 y3 y4 => exec cl N (.seq (.seq c9_6 c9_8) c9_34) (e271 y0 y1 y2 y3 y4) K) x0 := by
 rw [← put_eq h13]
 rw [← put_eq h22]
 kernel_rfl
def g9_6 (S31 : s31) (S32 : s32) (k0 : V13 → Int → V16 → V18 → Bool → Option R) (x0 : V13) (x1 : Int) (x2 : V16) (x3 : V18) (x4 : Int) : Option R :=
brB (x4 != (0 : Int)) (k0 x0 x1 x2 x3 true) (brB ((x3.length : Int) != (IntKind.i64.wrap (x1 + (1 : Int)))) (k0 x0 x1 x2 x3 true) ((S32 x3).bind fun r1206 =>
(S31 r1206 (1 : Int)).bind fun r1207 =>
k0 x0 x1 x2 x3 (!r1207)))
theorem t9_6 (S31) (S32) (h31 : (ctr31 S31).holds cl) (h32 : (ctr32 S32).holds cl) (x0 x1 x2 x3 x4) : exec cl N c9_6 (e271 x0 x1 x2 x3 x4) K = g9_6 S31 S32 (fun y0 y1 y2 y3 y4 => K .normal (e272 y0 y1 y2 y3 y4)) x0 x1 x2 x3 x4 := by
 rw [← put_eq h31]
 rw [← put_eq h32]
 kernel_rfl
def g9_7 (k0 : K11 R) (x0 : V13) (x1 : Int) (x2 : V16) (x3 : V18) (x4 : Bool) := k0 false
theorem t9_7 (x0 x1 x2 x3 x4) : exec cl N c9_7 (e272 x0 x1 x2 x3 x4) K = g9_7 (fun y0 => K .normal [(2, .v .bool y0)]) x0 x1 x2 x3 x4 := by kernel_rfl
theorem kp9_2 (x0) : keep [1, 2, 3, 4, 5] [(2, .v .bool x0)] = e273 x0 := by kernel_rfl
theorem kp9_3 (x0 x1 x2 x3 x4) : keep [1, 2, 3, 4, 5] (e272 x0 x1 x2 x3 x4) = e274 x0 x1 x2 x3 := by kernel_rfl
theorem hb9_1 (x0 x1 x2 x3 x4) : boolOf? (ent (e272 x0 x1 x2 x3 x4) (.t 52)) = some x4 := by kernel_rfl
def g9_34 (S19 : s19) (S33 : s33) (S34 : s34) (k0 : Int → V18 → Int → V16 → Int → V16 → Int → Int → Int → Option R) (x0 : V13) (x1 : Int) (x2 : V16) (x3 : V18) : Option R :=
let v1221 : Int := (IntKind.i64.wrap (x1 + (1 : Int)))
if v1221 = 0 then none else
let v1222 : Int := (Int.tmod (IntKind.i64.wrap x0.2.1) v1221)
(S19 x1 v1222 x2).bind fun r1223 =>
(S33 x1 x2).bind fun r1224 =>
(S34 x1 x2).bind fun r1225 =>
k0 x1 x3 v1222 r1223.1 r1223.2 r1224.1 r1224.2 r1225.1 r1225.2
theorem t9_34 (S19) (S33) (S34) (h19 : (ctr19 S19).holds cl) (h33 : (ctr33 S33).holds cl) (h34 : (ctr34 S34).holds cl) (x0 x1 x2 x3) : exec cl N c9_34 (e274 x0 x1 x2 x3) K = g9_34 S19 S33 S34 (fun y0 y1 y2 y3 y4 y5 y6 y7 y8 => exec cl N (.seq (.seq c9_13 c9_15) (.seq c9_16 (.seq (.seq c9_17 c9_32) (.seq c9_33 .ret)))) (e275 y0 y1 y2 y3 y4 y5 y6 y7 y8) K) x0 x1 x2 x3 := by
 rw [← put_eq h19]
 rw [← put_eq h33]
 rw [← put_eq h34]
 kernel_rfl
def g9_13 (S21 : s21) (S32 : s32) (k0 : K42 R) (x0 : Int) (x1 : V18) (x2 : Int) (x3 : V16) (x4 : Int) (x5 : V16) (x6 x7 x8 : Int) : Option R :=
brB (x4 != (0 : Int)) (k0 x1 x5 x7 true) (brB (x6 != (0 : Int)) (k0 x1 x5 x7 true) (brB (x8 != (0 : Int)) (k0 x1 x5 x7 true) (brB (decide (x7 < (0 : Int))) (k0 x1 x5 x7 true) (brB (decide (x7 > x0)) (k0 x1 x5 x7 true) (if 0 ≤ x2 ∧ x2 ≤ (x1.length : Int) ∧ (x1.length : Int) ≤ (x1.length : Int) ∧ (x1.length : Int) ≤ (x1.length : Int) then
(S32 ((x1.drop x2.toNat).take ((x1.length : Int).toNat - x2.toNat))).bind fun r1232 =>
(S21 x3 r1232).bind fun r1233 =>
k0 x1 x5 x7 (!r1233)
else none)))))
theorem t9_13 (S21) (S32) (h21 : (ctr21 S21).holds cl) (h32 : (ctr32 S32).holds cl) (x0 x1 x2 x3 x4 x5 x6 x7 x8) : exec cl N c9_13 (e275 x0 x1 x2 x3 x4 x5 x6 x7 x8) K = g9_13 S21 S32 (fun y0 y1 y2 y3 => K .normal (e276 y0 y1 y2 y3)) x0 x1 x2 x3 x4 x5 x6 x7 x8 := by
 rw [← put_eq h21]
 rw [← put_eq h32]
 kernel_rfl
def g9_14 (k0 : K11 R) (x0 : V18) (x1 : V16) (x2 : Int) (x3 : Bool) := k0 false
theorem t9_14 (x0 x1 x2 x3) : exec cl N c9_14 (e276 x0 x1 x2 x3) K = g9_14 (fun y0 => K .normal [(2, .v .bool y0)]) x0 x1 x2 x3 := by kernel_rfl
theorem kp9_4 (x0) : keep [2, 5, 10, 12] [(2, .v .bool x0)] = e277 x0 := by kernel_rfl
theorem kp9_5 (x0 x1 x2 x3) : keep [2, 5, 10, 12] (e276 x0 x1 x2 x3) = [(2, .dead), (5, .v U13 x0), (10, .loc U12 .no x1), (12, .v U1 x2)] := by kernel_rfl
theorem hb9_2 (x0 x1 x2 x3) : boolOf? (ent (e276 x0 x1 x2 x3) (.t 105)) = some x3 := by kernel_rfl
def g9_16 (k0 : V18 → V16 → Int → V18 → Option R) (x0 : V18) (x1 : V16) (x2 : Int) := k0 x0 x1 x2 []
theorem t9_16 (x0 x1 x2) : exec cl N c9_16 [(2, .dead), (5, .v U13 x0), (10, .loc U12 .no x1), (12, .v U1 x2)] K = g9_16 (fun y0 y1 y2 y3 => K .normal (e278 y0 y1 y2 y3)) x0 x1 x2 := by kernel_rfl
def g9_17 (k0 : K9 R) (x0 : V18) (x1 : V16) (x2 : Int) (x3 : V18) := k0 x0 x1 x2 x3 x0 (x0.length : Int) (0 : Int)
theorem t9_17 (x0 x1 x2 x3) : exec cl N c9_17 (e278 x0 x1 x2 x3) K = g9_17 (fun y0 y1 y2 y3 y4 y5 y6 => K .normal (e279 y0 y1 y2 y3 y4 y5 y6)) x0 x1 x2 x3 := by kernel_rfl
theorem kp9_6 (x0 x1 x2 x3 x4 x5 x6) : keep [5, 10, 12, 14, 106, 107, 108] (e279 x0 x1 x2 x3 x4 x5 x6) = e279 x0 x1 x2 x3 x4 x5 x6 := by kernel_rfl
def g9_18 (k0 : V18 → V16 → Int → V18 → V18 → Int → Int → Bool → Option R) (x0 : V18) (x1 : V16) (x2 : Int) (x3 x4 : V18) (x5 x6 : Int) := k0 x0 x1 x2 x3 x4 x5 x6 (decide (x6 < x5))
theorem t9_18 (x0 x1 x2 x3 x4 x5 x6) : exec cl N c9_18 (e279 x0 x1 x2 x3 x4 x5 x6) K = g9_18 (fun y0 y1 y2 y3 y4 y5 y6 y7 => K .normal (e280 y0 y1 y2 y3 y4 y5 y6 y7)) x0 x1 x2 x3 x4 x5 x6 := by kernel_rfl
theorem kp9_7 (x0 x1 x2 x3 x4 x5 x6 x7) : keep [5, 10, 12, 14, 106, 107, 108] (e280 x0 x1 x2 x3 x4 x5 x6 x7) = e279 x0 x1 x2 x3 x4 x5 x6 := by kernel_rfl
theorem hb9_3 (x0 x1 x2 x3 x4 x5 x6 x7) : boolOf? (ent (e280 x0 x1 x2 x3 x4 x5 x6 x7) (.t 109)) = some x7 := by kernel_rfl
def g9_27 (S23 : s23) (S25 : s25) (k0 : V18 → V16 → Int → V18 → Int → V16 → V16 → Int → V18 → Int → Int → Option R) (x0 : V18) (x1 : V16) (x2 : Int) (x3 x4 : V18) (x5 x6 : Int) : Option R :=
if 0 ≤ x6 ∧ x6 < (x4.length : Int) then
(S23 x6 (1 : Int)).bind fun r1236 =>
(S25 r1236.1 (x4.getD x6.toNat (false, (([], ()), (([], ()), ()))))).bind fun r1237 =>
k0 x0 x1 x2 x3 x6 (x4.getD x6.toNat (false, (([], ()), (([], ()), ())))) r1237.1 r1237.2 x4 x5 x6
else none
theorem t9_27 (S23) (S25) (h23 : (ctr23 S23).holds cl) (h25 : (ctr25 S25).holds cl) (x0 x1 x2 x3 x4 x5 x6) : exec cl N c9_27 (e279 x0 x1 x2 x3 x4 x5 x6) K = g9_27 S23 S25 (fun y0 y1 y2 y3 y4 y5 y6 y7 y8 y9 y10 => exec cl N (.seq (.seq c9_23 c9_25) c9_26) (e281 y0 y1 y2 y3 y4 y5 y6 y7 y8 y9 y10) K) x0 x1 x2 x3 x4 x5 x6 := by
 rw [← put_eq h23]
 rw [← put_eq h25]
 kernel_rfl
def g9_23 (S35 : s35) (k0 : V18 → V16 → Int → V18 → V16 → V18 → Int → Int → Bool → Option R) (x0 : V18) (x1 : V16) (x2 : Int) (x3 : V18) (x4 : Int) (x5 x6 : V16) (x7 : Int) (x8 : V18) (x9 x10 : Int) : Option R :=
brB (x7 != (0 : Int)) (k0 x0 x1 x2 x3 x6 x8 x9 x10 true) (if 0 ≤ x2 ∧ x2 < (x0.length : Int) then
(S35 x5 (x0.getD x2.toNat (false, (([], ()), (([], ()), ()))))).bind fun r1239 =>
brB (decide (r1239 > (0 : Int))) (k0 x0 x1 x2 x3 x6 x8 x9 x10 true) (brB (decide (x4 < x2)) (if 0 ≤ x2 ∧ x2 < (x0.length : Int) then
(S35 x5 (x0.getD x2.toNat (false, (([], ()), (([], ()), ()))))).bind fun r1242 =>
k0 x0 x1 x2 x3 x6 x8 x9 x10 (r1242 == (0 : Int))
else none) (k0 x0 x1 x2 x3 x6 x8 x9 x10 false))
else none)
theorem t9_23 (S35) (h35 : (ctr35 S35).holds cl) (x0 x1 x2 x3 x4 x5 x6 x7 x8 x9 x10) : exec cl N c9_23 (e281 x0 x1 x2 x3 x4 x5 x6 x7 x8 x9 x10) K = g9_23 S35 (fun y0 y1 y2 y3 y4 y5 y6 y7 y8 => K .normal (e282 y0 y1 y2 y3 y4 y5 y6 y7 y8)) x0 x1 x2 x3 x4 x5 x6 x7 x8 x9 x10 := by
 rw [← put_eq h35]
 kernel_rfl
def g9_24 (k0 : K11 R) (x0 : V18) (x1 : V16) (x2 : Int) (x3 : V18) (x4 : V16) (x5 : V18) (x6 x7 : Int) (x8 : Bool) := k0 false
theorem t9_24 (x0 x1 x2 x3 x4 x5 x6 x7 x8) : exec cl N c9_24 (e282 x0 x1 x2 x3 x4 x5 x6 x7 x8) K = g9_24 (fun y0 => K .normal [(2, .v .bool y0)]) x0 x1 x2 x3 x4 x5 x6 x7 x8 := by kernel_rfl
theorem kp9_8 (x0) : keep [2, 5, 10, 12, 14, 19, 106, 107, 108] [(2, .v .bool x0)] = e283 x0 := by kernel_rfl
theorem kp9_9 (x0 x1 x2 x3 x4 x5 x6 x7 x8) : keep [2, 5, 10, 12, 14, 19, 106, 107, 108] (e282 x0 x1 x2 x3 x4 x5 x6 x7 x8) = e284 x0 x1 x2 x3 x4 x5 x6 x7 := by kernel_rfl
theorem hb9_4 (x0 x1 x2 x3 x4 x5 x6 x7 x8) : boolOf? (ent (e282 x0 x1 x2 x3 x4 x5 x6 x7 x8) (.t 148)) = some x8 := by kernel_rfl
def g9_26 (k0 : K9 R) (x0 : V18) (x1 : V16) (x2 : Int) (x3 : V18) (x4 : V16) (x5 : V18) (x6 x7 : Int) : Option R :=
if x3.length + [x4].length ≤ 2513169434916 then
k0 x0 x1 x2 (x3 ++ [x4]) x5 x6 x7
else none
theorem t9_26 (x0 x1 x2 x3 x4 x5 x6 x7) : exec cl N c9_26 (e284 x0 x1 x2 x3 x4 x5 x6 x7) K = g9_26 (fun y0 y1 y2 y3 y4 y5 y6 => K .normal (e279 y0 y1 y2 y3 y4 y5 y6)) x0 x1 x2 x3 x4 x5 x6 x7 := by kernel_rfl
theorem kp9_10 (x0) : keep [2, 5, 10, 12, 14, 106, 107, 108] (e283 x0) = e285 x0 := by kernel_rfl
theorem kp9_11 (x0 x1 x2 x3 x4 x5 x6) : keep [2, 5, 10, 12, 14, 106, 107, 108] (e279 x0 x1 x2 x3 x4 x5 x6) = e286 x0 x1 x2 x3 x4 x5 x6 := by kernel_rfl
def g9_29 (k0 : K9 R) (x0 : V18) (x1 : V16) (x2 : Int) (x3 x4 : V18) (x5 x6 : Int) := k0 x0 x1 x2 x3 x4 x5 (IntKind.i64.wrap (x6 + (1 : Int)))
theorem t9_29 (x0 x1 x2 x3 x4 x5 x6) : exec cl N c9_29 (e286 x0 x1 x2 x3 x4 x5 x6) K = g9_29 (fun y0 y1 y2 y3 y4 y5 y6 => K .normal (e279 y0 y1 y2 y3 y4 y5 y6)) x0 x1 x2 x3 x4 x5 x6 := by kernel_rfl
def g9_30 (S23 : s23) (S25 : s25) (S35 : s35) (k0 : K11 R) (k1 : K9 R) (k2 : K9 R) (x0 : V18) (x1 : V16) (x2 : Int) (x3 x4 : V18) (x5 x6 : Int) := (g9_18 (fun y0 y1 y2 y3 y4 y5 y6 y7 => brB y7 ((g9_27 S23 S25 (g9_23 S35 (fun y0 y1 y2 y3 y4 y5 y6 y7 y8 => brB y8 (g9_24 k0 y0 y1 y2 y3 y4 y5 y6 y7 y8) ((g9_26 ((g9_29 k1))) y0 y1 y2 y3 y4 y5 y6 y7)))) y0 y1 y2 y3 y4 y5 y6) (k2 y0 y1 y2 y3 y4 y5 y6)) x0 x1 x2 x3 x4 x5 x6)
theorem t9_30 (S23) (S25) (S35) (h23 : (ctr23 S23).holds cl) (h25 : (ctr25 S25).holds cl) (h35 : (ctr35 S35).holds cl) (x0 x1 x2 x3 x4 x5 x6) : exec cl N c9_30 (e279 x0 x1 x2 x3 x4 x5 x6) K = g9_30 S23 S25 S35 (fun y0 => K .ret (e285 y0)) (fun y0 y1 y2 y3 y4 y5 y6 => K .normal (e279 y0 y1 y2 y3 y4 y5 y6)) (fun y0 y1 y2 y3 y4 y5 y6 => K (.exit 0) (e279 y0 y1 y2 y3 y4 y5 y6)) x0 x1 x2 x3 x4 x5 x6 := by
 simp only [c9_30, B0, t9_18, c9_19, exec_out, B1, hb9_3, Option.bind_some, exec_exit, kp9_7, c9_28, B2, t9_27 S23 S25 h23 h25, t9_23 S35 h35, c9_25, hb9_4, t9_24, exec_ret, kp9_8, kp9_9, t9_26, kp9_10, kp9_11, t9_29]
 rfl
def l9_31 {R : Type} (S23 : s23) (S25 : s25) (S35 : s35) (k0 : K11 R) (k1 : K9 R) : Nat → V18 → V16 → Int → V18 → V18 → Int → Int → Option R
 | 0, _, _, _, _, _, _, _ => none
 | m + 1, x0, x1, x2, x3, x4, x5, x6 => (g9_30 S23 S25 S35 k0 (l9_31 S23 S25 S35 k0 k1 m) k1 x0 x1 x2 x3 x4 x5 x6)
theorem lt9_31 (S23) (S25) (S35) (h23 : (ctr23 S23).holds cl) (h25 : (ctr25 S25).holds cl) (h35 : (ctr35 S35).holds cl) : ∀ (m) (x0 x1 x2 x3 x4 x5 x6), iter [5, 10, 12, 14, 106, 107, 108] (fun env K => exec cl N c9_30 env K) K m (e279 x0 x1 x2 x3 x4 x5 x6) = l9_31 S23 S25 S35 (fun y0 => K .ret (e285 y0)) (fun y0 y1 y2 y3 y4 y5 y6 => K (.exit 0) (e279 y0 y1 y2 y3 y4 y5 y6)) m x0 x1 x2 x3 x4 x5 x6 := by
 intro m
 induction m with
 | zero => intros; rfl
 | succ m ih =>
   intro x0 x1 x2 x3 x4 x5 x6
   simp only [B3, t9_30 S23 S25 S35 h23 h25 h35, kp9_6, ih]
   rfl
theorem kp9_12 (x0) : keep [2, 10, 14] (e285 x0) = e287 x0 := by kernel_rfl
theorem kp9_13 (x0 x1 x2 x3 x4 x5 x6) : keep [2, 10, 14] (e279 x0 x1 x2 x3 x4 x5 x6) = e288 x1 x3 := by kernel_rfl
def g9_31 (N : Nat) (S23 : s23) (S25 : s25) (S35 : s35) (k0 : K11 R) (k1 : V16 → V18 → Option R) (x0 : V18) (x1 : V16) (x2 : Int) (x3 x4 : V18) (x5 x6 : Int) : Option R :=
l9_31 S23 S25 S35 k0 (fun y0 y1 y2 y3 y4 y5 y6 => k1 y1 y3) N x0 x1 x2 x3 x4 x5 x6
theorem t9_31 (S23) (S25) (S35) (h23 : (ctr23 S23).holds cl) (h25 : (ctr25 S25).holds cl) (h35 : (ctr35 S35).holds cl) (x0 x1 x2 x3 x4 x5 x6) : exec cl N c9_31 (e279 x0 x1 x2 x3 x4 x5 x6) K = g9_31 N S23 S25 S35 (fun y0 => K .ret (e287 y0)) (fun y0 y1 => K (.exit 0) (e288 y0 y1)) x0 x1 x2 x3 x4 x5 x6 := by
 simp only [c9_31, exec_out, exec_loop, kp9_6, lt9_31 S23 S25 S35 h23 h25 h35, kp9_12, kp9_13]
 rfl
theorem kp9_14 (x0) : keep [2, 10, 14] (e287 x0) = e287 x0 := by kernel_rfl
theorem kp9_15 (x0 x1) : keep [2, 10, 14] (e288 x0 x1) = e288 x0 x1 := by kernel_rfl
def g9_33 (S21 : s21) (S32 : s32) (k0 : K11 R) (x0 : V16) (x1 : V18) : Option R :=
(S32 x1).bind fun r1245 =>
(S21 r1245 x0).bind fun r1246 =>
k0 r1246
theorem t9_33 (S21) (S32) (h21 : (ctr21 S21).holds cl) (h32 : (ctr32 S32).holds cl) (x0 x1) : exec cl N c9_33 (e288 x0 x1) K = g9_33 S21 S32 (fun y0 => K .normal [(2, .v .bool y0)]) x0 x1 := by
 rw [← put_eq h21]
 rw [← put_eq h32]
 kernel_rfl
def g9_36 (N : Nat) (S11 : s11) (S13 : s13) (S19 : s19) (S21 : s21) (S22 : s22) (S23 : s23) (S25 : s25) (S31 : s31) (S32 : s32) (S33 : s33) (S34 : s34) (S35 : s35) (k0 : K11 R) (k1 : K11 R) (k2 : K11 R) (k3 : K11 R) (k4 : K11 R) (x0 : V13) := (g9_0 (g9_1 S11 (fun y0 y1 => brB y1 (g9_2 k0 y0 y1) ((g9_35 S13 S22 (g9_6 S31 S32 (fun y0 y1 y2 y3 y4 => brB y4 (g9_7 k1 y0 y1 y2 y3 y4) ((g9_34 S19 S33 S34 (g9_13 S21 S32 (fun y0 y1 y2 y3 => brB y3 (g9_14 k2 y0 y1 y2 y3) ((g9_16 (g9_17 (g9_31 N S23 S25 S35 k3 ((g9_33 S21 S32 k4))))) y0 y1 y2)))) y0 y1 y2 y3)))) y0))) x0)
theorem t9_36 (S11) (S13) (S19) (S21) (S22) (S23) (S25) (S31) (S32) (S33) (S34) (S35) (h11 : (ctr11 S11).holds cl) (h13 : (ctr13 S13).holds cl) (h19 : (ctr19 S19).holds cl) (h21 : (ctr21 S21).holds cl) (h22 : (ctr22 S22).holds cl) (h23 : (ctr23 S23).holds cl) (h25 : (ctr25 S25).holds cl) (h31 : (ctr31 S31).holds cl) (h32 : (ctr32 S32).holds cl) (h33 : (ctr33 S33).holds cl) (h34 : (ctr34 S34).holds cl) (h35 : (ctr35 S35).holds cl) (x0) : exec cl N c9_36 [(0, .v U10 x0)] K = g9_36 N S11 S13 S19 S21 S22 S23 S25 S31 S32 S33 S34 S35 (fun y0 => K .ret (e122 y0)) (fun y0 => K .ret (e273 y0)) (fun y0 => K .ret (e277 y0)) (fun y0 => K .ret (e287 y0)) (fun y0 => K .ret [(2, .v .bool y0)]) x0 := by
 simp only [c9_36, B0, t9_0, t9_1 S11 h11, c9_3, exec_out, B1, hb9_0, Option.bind_some, t9_2, exec_ret, kp9_0, kp9_1, t9_35 S13 S22 h13 h22, t9_6 S31 S32 h31 h32, c9_8, hb9_1, t9_7, kp9_2, kp9_3, t9_34 S19 S33 S34 h19 h33 h34, t9_13 S21 S32 h21 h32, c9_15, hb9_2, t9_14, kp9_4, kp9_5, t9_16, t9_17, c9_32, B2, t9_31 S23 S25 S35 h23 h25 h35, kp9_14, kp9_15, t9_33 S21 S32 h21 h32]
 rfl
theorem rk9_0 (y0) : retK d9 .ret (e122 y0) = some [.v .bool y0] := by kernel_rfl
theorem rk9_1 (y0) : retK d9 .ret (e273 y0) = some [.v .bool y0] := by kernel_rfl
theorem rk9_2 (y0) : retK d9 .ret (e277 y0) = some [.v .bool y0] := by kernel_rfl
theorem rk9_3 (y0) : retK d9 .ret (e287 y0) = some [.v .bool y0] := by kernel_rfl
theorem rk9_4 (y0) : retK d9 .ret [(2, .v .bool y0)] = some [.v .bool y0] := by kernel_rfl
def g9 (N : Nat) (S11 : s11) (S13 : s13) (S19 : s19) (S21 : s21) (S22 : s22) (S23 : s23) (S25 : s25) (S31 : s31) (S32 : s32) (S33 : s33) (S34 : s34) (S35 : s35) (x0 : V13) (k : Bool → Option R) := (g9_36 N S11 S13 S19 S21 S22 S23 S25 S31 S32 S33 S34 S35 k k k k k x0)
theorem gen9 (S11) (S13) (S19) (S21) (S22) (S23) (S25) (S31) (S32) (S33) (S34) (S35) (h11 : (ctr11 S11).holds cl) (h13 : (ctr13 S13).holds cl) (h19 : (ctr19 S19).holds cl) (h21 : (ctr21 S21).holds cl) (h22 : (ctr22 S22).holds cl) (h23 : (ctr23 S23).holds cl) (h25 : (ctr25 S25).holds cl) (h31 : (ctr31 S31).holds cl) (h32 : (ctr32 S32).holds cl) (h33 : (ctr33 S33).holds cl) (h34 : (ctr34 S34).holds cl) (h35 : (ctr35 S35).holds cl) (x0) (k : List E → Option R) : exec cl N c9 [(0, .v U10 x0)] (fun e env => (retK d9 e env).bind k) = g9 N S11 S13 S19 S21 S22 S23 S25 S31 S32 S33 S34 S35 x0 (fun r0 => k [.v .bool r0]) := by
 simp only [c9, t9_36 S11 S13 S19 S21 S22 S23 S25 S31 S32 S33 S34 S35 h11 h13 h19 h21 h22 h23 h25 h31 h32 h33 h34 h35, rk9_0, rk9_1, rk9_2, rk9_3, rk9_4, Option.bind_some]
 rfl
def ctr9 (S : V13 → Option (Bool)) : Ctr := cv1 9 U10 S fun b => [.v .bool b]
def S9 (N : Nat) (x0 : V13) : Option (Bool) := g9 N (S11 N) (S13 N) (S19 N) (S21 N) (S22 N) (S23 N) (S25 N) (S31 N) (S32 N) (S33 N) (S34 N) (S35 N) x0 (fun r0 => some (r0))
end Go.Fw.L51
