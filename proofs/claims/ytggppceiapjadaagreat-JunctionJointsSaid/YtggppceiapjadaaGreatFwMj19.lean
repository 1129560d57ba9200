/- Printed by an own program for this claim: the machine's code of functions, or their typed forms with their equations; no conditions. -/
import Derived.Test.YtggppceiapjadaaGreatFwMj19b
import Derived.Test.YtggppceiapjadaaGreatFwB1
set_option linter.unusedVariables false
set_option linter.unusedSimpArgs false
namespace Go.Fw.L19
open Go Go.Fw
set_option maxRecDepth 100000
set_option linter.unusedVariables false
set_option linter.unusedSimpArgs false
variable {N : Nat} {cl : Cal} {R : Type} {K : KE R}
def g17_0 (x0 : V28) (x1 x2 : V1) (x3 x4 : V20) (k0 : V1 → V1 → V20 → V20 → V28 → Option R) : Option R :=
k0 x1 x2 x3 x4 x0
theorem t17_0 (x0 x1 x2 x3 x4) : exec cl N c17_0 (e146 x0 x1 x2 x3 x4) K = (g17_0 x0 x1 x2 x3 x4 (fun y0 y1 y2 y3 y4 => K .normal (e147 y0 y1 y2 y3 y4))) := by
  kernel_rfl
def g17_1 (S38 : V28 → Option (Int)) (x0 x1 : V1) (x2 x3 : V20) (x4 : V28) (k0 : V1 → V1 → V20 → V20 → V28 → Int → Option R) : Option R :=
(S38 x4).bind fun r740 =>
k0 x0 x1 x2 x3 x4 r740
theorem t17_1 (S38) (h38 : (ctr38 S38).holds cl) (x0 x1 x2 x3 x4) : exec cl N c17_1 (e147 x0 x1 x2 x3 x4) K = (g17_1 S38 x0 x1 x2 x3 x4 (fun y0 y1 y2 y3 y4 y5 => K .normal (e148 y0 y1 y2 y3 y4 y5))) := by
  rw [← put_eq h38]
  kernel_rfl
def g17_2 (x0 x1 : V1) (x2 x3 : V20) (x4 : V28) (x5 : Int) (k0 : V1 → V1 → V20 → V20 → V28 → Int → Bool → Option R) : Option R :=
k0 x0 x1 x2 x3 x4 x5 (x5 != (0 : Int))
theorem t17_2 (x0 x1 x2 x3 x4 x5) : exec cl N c17_2 (e148 x0 x1 x2 x3 x4 x5) K = (g17_2 x0 x1 x2 x3 x4 x5 (fun y0 y1 y2 y3 y4 y5 y6 => K .normal (e149 y0 y1 y2 y3 y4 y5 y6))) := by
  kernel_rfl
def g17_3 (x0 x1 : V1) (x2 x3 : V20) (x4 : V28) (x5 : Int) (x6 : Bool) (k0 : V11 → Int → Option R) : Option R :=
k0 [] x5
theorem t17_3 (x0 x1 x2 x3 x4 x5 x6) : exec cl N c17_3 (e149 x0 x1 x2 x3 x4 x5 x6) K = (g17_3 x0 x1 x2 x3 x4 x5 x6 (fun y0 y1 => K .normal (e150 y0 y1))) := by
  kernel_rfl
theorem kp17_0 (x0 x1) : keep [1, 2, 3, 4, 5, 10, 11] (e150 x0 x1) = (e151 x0 x1) := by kernel_rfl
theorem kp17_1 (x0 x1 x2 x3 x4 x5 x6) : keep [1, 2, 3, 4, 5, 10, 11] (e149 x0 x1 x2 x3 x4 x5 x6) = (e152 x0 x1 x2 x3 x4) := by kernel_rfl
theorem hb17_0 (x0 x1 x2 x3 x4 x5 x6) : boolOf? (ent (e149 x0 x1 x2 x3 x4 x5 x6) (.t 23)) = some x6 := by kernel_rfl
def g17_5 (S39 : V20 → V20 → Option (Int)) (x0 x1 : V1) (x2 x3 : V20) (x4 : V28) (k0 : V1 → V1 → V20 → V20 → V28 → Int → Option R) : Option R :=
(S39 x2 x3).bind fun r742 =>
k0 x0 x1 x2 x3 x4 r742
theorem t17_5 (S39) (h39 : (ctr39 S39).holds cl) (x0 x1 x2 x3 x4) : exec cl N c17_5 (e152 x0 x1 x2 x3 x4) K = (g17_5 S39 x0 x1 x2 x3 x4 (fun y0 y1 y2 y3 y4 y5 => K .normal (e153 y0 y1 y2 y3 y4 y5))) := by
  rw [← put_eq h39]
  kernel_rfl
def g17_6 (x0 x1 : V1) (x2 x3 : V20) (x4 : V28) (x5 : Int) (k0 : V1 → V1 → V20 → V20 → V28 → Int → Bool → Option R) : Option R :=
k0 x0 x1 x2 x3 x4 x5 (x5 != (0 : Int))
theorem t17_6 (x0 x1 x2 x3 x4 x5) : exec cl N c17_6 (e153 x0 x1 x2 x3 x4 x5) K = (g17_6 x0 x1 x2 x3 x4 x5 (fun y0 y1 y2 y3 y4 y5 y6 => K .normal (e154 y0 y1 y2 y3 y4 y5 y6))) := by
  kernel_rfl
def g17_7 (x0 x1 : V1) (x2 x3 : V20) (x4 : V28) (x5 : Int) (x6 : Bool) (k0 : V11 → Int → Option R) : Option R :=
k0 [] x5
theorem t17_7 (x0 x1 x2 x3 x4 x5 x6) : exec cl N c17_7 (e154 x0 x1 x2 x3 x4 x5 x6) K = (g17_7 x0 x1 x2 x3 x4 x5 x6 (fun y0 y1 => K .normal (e150 y0 y1))) := by
  kernel_rfl
theorem kp17_2 (x0 x1 x2 x3 x4 x5 x6) : keep [1, 2, 3, 4, 5, 10, 11] (e154 x0 x1 x2 x3 x4 x5 x6) = (e152 x0 x1 x2 x3 x4) := by kernel_rfl
theorem hb17_1 (x0 x1 x2 x3 x4 x5 x6) : boolOf? (ent (e154 x0 x1 x2 x3 x4 x5 x6) (.t 29)) = some x6 := by kernel_rfl
def g17_9 (x0 x1 : V1) (x2 x3 : V20) (x4 : V28) (k0 : V1 → V1 → V20 → V20 → V28 → V11 → Option R) : Option R :=
k0 x0 x1 x2 x3 x4 []
theorem t17_9 (x0 x1 x2 x3 x4) : exec cl N c17_9 (e152 x0 x1 x2 x3 x4) K = (g17_9 x0 x1 x2 x3 x4 (fun y0 y1 y2 y3 y4 y5 => K .normal (e155 y0 y1 y2 y3 y4 y5))) := by
  kernel_rfl
def g17_10 (S40 : V20 → V20 → Option V3) (x0 x1 : V1) (x2 x3 : V20) (x4 : V28) (x5 : V11) (k0 : V1 → V1 → V20 → V28 → V11 → V0 → Option R) : Option R :=
(S40 x2 x3).bind fun r744 =>
k0 x0 x1 x2 x4 x5 r744
theorem t17_10 (S40) (h40 : (ctr40 S40).holds cl) (x0 x1 x2 x3 x4 x5) : exec cl N c17_10 (e155 x0 x1 x2 x3 x4 x5) K = (g17_10 S40 x0 x1 x2 x3 x4 x5 (fun y0 y1 y2 y3 y4 y5 => K .normal (e232 y0 y1 y2 y3 y4 y5))) := by
  rw [← put_eq h40]
  kernel_rfl
def g17_11 (x0 x1 : V1) (x2 : V20) (x3 : V28) (x4 : V11) (x5 : V0) (k0 : V1 → V1 → V20 → V28 → V11 → V0 → Int → Option R) : Option R :=
k0 x0 x1 x2 x3 x4 x5 (0 : Int)
theorem t17_11 (x0 x1 x2 x3 x4 x5) : exec cl N c17_11 (e232 x0 x1 x2 x3 x4 x5) K = (g17_11 x0 x1 x2 x3 x4 x5 (fun y0 y1 y2 y3 y4 y5 y6 => K .normal (e233 y0 y1 y2 y3 y4 y5 y6))) := by
  kernel_rfl
theorem kp17_3 (x0 x1 x2 x3 x4 x5 x6) : keep [1, 2, 3, 5, 14, 15, 16] (e233 x0 x1 x2 x3 x4 x5 x6) = (e233 x0 x1 x2 x3 x4 x5 x6) := by kernel_rfl
def g17_12 (x0 x1 : V1) (x2 : V20) (x3 : V28) (x4 : V11) (x5 : V0) (x6 : Int) (k0 : V1 → V1 → V20 → V28 → V11 → V0 → Int → Bool → Option R) : Option R :=
k0 x0 x1 x2 x3 x4 x5 x6 (decide (x6 < (x5.length : Int)))
theorem t17_12 (x0 x1 x2 x3 x4 x5 x6) : exec cl N c17_12 (e233 x0 x1 x2 x3 x4 x5 x6) K = (g17_12 x0 x1 x2 x3 x4 x5 x6 (fun y0 y1 y2 y3 y4 y5 y6 y7 => K .normal (e234 y0 y1 y2 y3 y4 y5 y6 y7))) := by
  kernel_rfl
theorem kp17_4 (x0 x1 x2 x3 x4 x5 x6 x7) : keep [1, 2, 3, 5, 14, 15, 16] (e234 x0 x1 x2 x3 x4 x5 x6 x7) = (e233 x0 x1 x2 x3 x4 x5 x6) := by kernel_rfl
theorem hb17_2 (x0 x1 x2 x3 x4 x5 x6 x7) : boolOf? (ent (e234 x0 x1 x2 x3 x4 x5 x6 x7) (.t 37)) = some x7 := by kernel_rfl
def g17_14 (x0 x1 : V1) (x2 : V20) (x3 : V28) (x4 : V11) (x5 : V0) (x6 : Int) (k0 : V1 → V1 → V20 → V28 → V11 → V0 → Int → Bool → Option R) : Option R :=
if 0 ≤ x6 ∧ x6 < (x5.length : Int) then
if x6.toNat < x5.length then
k0 x0 x1 x2 x3 x4 x5 x6 ((x5.getD x6.toNat (0 : Int)) == (0 : Int))
else none
else none
theorem t17_14 (x0 x1 x2 x3 x4 x5 x6) : exec cl N c17_14 (e233 x0 x1 x2 x3 x4 x5 x6) K = (g17_14 x0 x1 x2 x3 x4 x5 x6 (fun y0 y1 y2 y3 y4 y5 y6 y7 => K .normal (e235 y0 y1 y2 y3 y4 y5 y6 y7))) := by
  kernel_rfl
def g17_15 (x0 x1 : V1) (x2 : V20) (x3 : V28) (x4 : V11) (x5 : V0) (x6 : Int) (x7 : Bool) (k0 : V1 → V1 → V20 → V28 → V11 → V0 → Int → Option R) : Option R :=
let v748 : V7 := ((0 : Int), (0 : Int), ())
if x4.length + [v748].length ≤ 8796093022208 then
k0 x0 x1 x2 x3 (x4 ++ [v748]) x5 x6
else none
theorem t17_15 (x0 x1 x2 x3 x4 x5 x6 x7) : exec cl N c17_15 (e235 x0 x1 x2 x3 x4 x5 x6 x7) K = (g17_15 x0 x1 x2 x3 x4 x5 x6 x7 (fun y0 y1 y2 y3 y4 y5 y6 => K .normal (e233 y0 y1 y2 y3 y4 y5 y6))) := by
  kernel_rfl
theorem kp17_5 (x0 x1 x2 x3 x4 x5 x6 x7) : keep [1, 2, 3, 5, 14, 15, 16] (e235 x0 x1 x2 x3 x4 x5 x6 x7) = (e233 x0 x1 x2 x3 x4 x5 x6) := by kernel_rfl
theorem hb17_3 (x0 x1 x2 x3 x4 x5 x6 x7) : boolOf? (ent (e235 x0 x1 x2 x3 x4 x5 x6 x7) (.t 44)) = some x7 := by kernel_rfl
def g17_17 (x0 x1 : V1) (x2 : V20) (x3 : V28) (x4 : V11) (x5 : V0) (x6 : Int) (k0 : V1 → V1 → V20 → V28 → V11 → V0 → Int → V1 → Option R) : Option R :=
k0 x0 x1 x2 x3 x4 x5 x6 x0
theorem t17_17 (x0 x1 x2 x3 x4 x5 x6) : exec cl N c17_17 (e233 x0 x1 x2 x3 x4 x5 x6) K = (g17_17 x0 x1 x2 x3 x4 x5 x6 (fun y0 y1 y2 y3 y4 y5 y6 y7 => K .normal (e236 y0 y1 y2 y3 y4 y5 y6 y7))) := by
  kernel_rfl
def g17_18 (x0 x1 : V1) (x2 : V20) (x3 : V28) (x4 : V11) (x5 : V0) (x6 : Int) (x7 : V1) (k0 : V1 → V1 → V20 → V28 → V11 → V0 → Int → V1 → Bool → Option R) : Option R :=
if 0 ≤ x6 ∧ x6 < (x5.length : Int) then
if x6.toNat < x5.length then
k0 x0 x1 x2 x3 x4 x5 x6 x7 ((x5.getD x6.toNat (0 : Int)) == (2 : Int))
else none
else none
theorem t17_18 (x0 x1 x2 x3 x4 x5 x6 x7) : exec cl N c17_18 (e236 x0 x1 x2 x3 x4 x5 x6 x7) K = (g17_18 x0 x1 x2 x3 x4 x5 x6 x7 (fun y0 y1 y2 y3 y4 y5 y6 y7 y8 => K .normal (e237 y0 y1 y2 y3 y4 y5 y6 y7 y8))) := by
  kernel_rfl
def g17_19 (x0 x1 : V1) (x2 : V20) (x3 : V28) (x4 : V11) (x5 : V0) (x6 : Int) (x7 : V1) (x8 : Bool) (k0 : V1 → V1 → V20 → V28 → V11 → V0 → Int → V1 → Option R) : Option R :=
k0 x0 x1 x2 x3 x4 x5 x6 x1
theorem t17_19 (x0 x1 x2 x3 x4 x5 x6 x7 x8) : exec cl N c17_19 (e237 x0 x1 x2 x3 x4 x5 x6 x7 x8) K = (g17_19 x0 x1 x2 x3 x4 x5 x6 x7 x8 (fun y0 y1 y2 y3 y4 y5 y6 y7 => K .normal (e236 y0 y1 y2 y3 y4 y5 y6 y7))) := by
  kernel_rfl
theorem kp17_6 (x0 x1 x2 x3 x4 x5 x6 x7) : keep [1, 2, 3, 5, 14, 15, 16, 17] (e236 x0 x1 x2 x3 x4 x5 x6 x7) = (e236 x0 x1 x2 x3 x4 x5 x6 x7) := by kernel_rfl
theorem kp17_7 (x0 x1 x2 x3 x4 x5 x6 x7 x8) : keep [1, 2, 3, 5, 14, 15, 16, 17] (e237 x0 x1 x2 x3 x4 x5 x6 x7 x8) = (e236 x0 x1 x2 x3 x4 x5 x6 x7) := by kernel_rfl
theorem hb17_4 (x0 x1 x2 x3 x4 x5 x6 x7 x8) : boolOf? (ent (e237 x0 x1 x2 x3 x4 x5 x6 x7 x8) (.t 54)) = some x8 := by kernel_rfl
def g17_21 (x0 x1 : V1) (x2 : V20) (x3 : V28) (x4 : V11) (x5 : V0) (x6 : Int) (x7 : V1) (k0 : V1 → V1 → V20 → V28 → V11 → V0 → Int → V1 → Option R) : Option R :=
(g17_18 x0 x1 x2 x3 x4 x5 x6 x7 (fun y0 y1 y2 y3 y4 y5 y6 y7 y8 => brB y8 (g17_19 y0 y1 y2 y3 y4 y5 y6 y7 y8 (fun y0 y1 y2 y3 y4 y5 y6 y7 => (k0 y0 y1 y2 y3 y4 y5 y6 y7))) (k0 y0 y1 y2 y3 y4 y5 y6 y7)))
theorem t17_21 (x0 x1 x2 x3 x4 x5 x6 x7) : exec cl N c17_21 (e236 x0 x1 x2 x3 x4 x5 x6 x7) K = (g17_21 x0 x1 x2 x3 x4 x5 x6 x7 (fun y0 y1 y2 y3 y4 y5 y6 y7 => K .normal (e236 y0 y1 y2 y3 y4 y5 y6 y7))) := by
  simp only [c17_21, exec_seq, seqK_normal, seqK_exit, seqK_ret, t17_18, c17_20, exec_out, exec_cond', hb17_4, Option.bind_some, brB_true, brB_false, t17_19, exec_skip, kp17_6, kp17_7]
  rfl
def g17_22 (S41 : V28 → Int → V1 → Option V4) (S42 : Int → Int → Option (Int)) (S43 : V20 → Option (Int)) (x0 x1 : V1) (x2 : V20) (x3 : V28) (x4 : V11) (x5 : V0) (x6 : Int) (x7 : V1) (k0 : V1 → V1 → V20 → V28 → V11 → V0 → Int → Int → Bool → Option R) : Option R :=
if 0 ≤ x6 ∧ x6 < (x5.length : Int) then
if x6.toNat < x5.length then
(S43 x2).bind fun r752 =>
(S42 (x5.getD x6.toNat (0 : Int)) r752).bind fun r753 =>
(S41 x3 r753 x7).bind fun r754 =>
k0 x0 x1 x2 x3 x4 x5 x6 r754.1 r754.2
else none
else none
theorem t17_22 (S41) (S42) (S43) (h41 : (ctr41 S41).holds cl) (h42 : (ctr42 S42).holds cl) (h43 : (ctr43 S43).holds cl) (x0 x1 x2 x3 x4 x5 x6 x7) : exec cl N c17_22 (e236 x0 x1 x2 x3 x4 x5 x6 x7) K = (g17_22 S41 S42 S43 x0 x1 x2 x3 x4 x5 x6 x7 (fun y0 y1 y2 y3 y4 y5 y6 y7 y8 => K .normal (e238 y0 y1 y2 y3 y4 y5 y6 y7 y8))) := by
  rw [← put_eq h41]
  rw [← put_eq h42]
  rw [← put_eq h43]
  kernel_rfl
def g17_23 (x0 x1 : V1) (x2 : V20) (x3 : V28) (x4 : V11) (x5 : V0) (x6 x7 : Int) (x8 : Bool) (k0 : V1 → V1 → V20 → V28 → V11 → V0 → Int → Int → Bool → Option R) : Option R :=
k0 x0 x1 x2 x3 x4 x5 x6 x7 x8
theorem t17_23 (x0 x1 x2 x3 x4 x5 x6 x7 x8) : exec cl N c17_23 (e238 x0 x1 x2 x3 x4 x5 x6 x7 x8) K = (g17_23 x0 x1 x2 x3 x4 x5 x6 x7 x8 (fun y0 y1 y2 y3 y4 y5 y6 y7 y8 => K .normal (e239 y0 y1 y2 y3 y4 y5 y6 y7 y8))) := by
  kernel_rfl
def g17_24 (x0 x1 : V1) (x2 : V20) (x3 : V28) (x4 : V11) (x5 : V0) (x6 x7 : Int) (x8 : Bool) (k0 : V1 → V1 → V20 → V28 → V11 → V0 → Int → Option R) : Option R :=
if 0 ≤ x6 ∧ x6 < (x5.length : Int) then
if x6.toNat < x5.length then
let v756 : V7 := ((x5.getD x6.toNat (0 : Int)), x7, ())
if x4.length + [v756].length ≤ 8796093022208 then
k0 x0 x1 x2 x3 (x4 ++ [v756]) x5 x6
else none
else none
else none
theorem t17_24 (x0 x1 x2 x3 x4 x5 x6 x7 x8) : exec cl N c17_24 (e239 x0 x1 x2 x3 x4 x5 x6 x7 x8) K = (g17_24 x0 x1 x2 x3 x4 x5 x6 x7 x8 (fun y0 y1 y2 y3 y4 y5 y6 => K .normal (e233 y0 y1 y2 y3 y4 y5 y6))) := by
  kernel_rfl
theorem kp17_8 (x0 x1 x2 x3 x4 x5 x6 x7 x8) : keep [1, 2, 3, 5, 14, 15, 16] (e239 x0 x1 x2 x3 x4 x5 x6 x7 x8) = (e233 x0 x1 x2 x3 x4 x5 x6) := by kernel_rfl
theorem hb17_5 (x0 x1 x2 x3 x4 x5 x6 x7 x8) : boolOf? (ent (e239 x0 x1 x2 x3 x4 x5 x6 x7 x8) (.t 69)) = some x8 := by kernel_rfl
def g17_26 (S41 : V28 → Int → V1 → Option V4) (S42 : Int → Int → Option (Int)) (S43 : V20 → Option (Int)) (x0 x1 : V1) (x2 : V20) (x3 : V28) (x4 : V11) (x5 : V0) (x6 : Int) (k0 : V1 → V1 → V20 → V28 → V11 → V0 → Int → Option R) : Option R :=
(g17_14 x0 x1 x2 x3 x4 x5 x6 (fun y0 y1 y2 y3 y4 y5 y6 y7 => brB y7 (g17_15 y0 y1 y2 y3 y4 y5 y6 y7 (fun y0 y1 y2 y3 y4 y5 y6 => ((fun y0 y1 y2 y3 y4 y5 y6 => (k0 y0 y1 y2 y3 y4 y5 y6)) y0 y1 y2 y3 y4 y5 y6))) ((fun y0 y1 y2 y3 y4 y5 y6 => (g17_17 y0 y1 y2 y3 y4 y5 y6 (fun y0 y1 y2 y3 y4 y5 y6 y7 => (g17_21 y0 y1 y2 y3 y4 y5 y6 y7 (fun y0 y1 y2 y3 y4 y5 y6 y7 => (g17_22 S41 S42 S43 y0 y1 y2 y3 y4 y5 y6 y7 (fun y0 y1 y2 y3 y4 y5 y6 y7 y8 => (g17_23 y0 y1 y2 y3 y4 y5 y6 y7 y8 (fun y0 y1 y2 y3 y4 y5 y6 y7 y8 => brB y8 (g17_24 y0 y1 y2 y3 y4 y5 y6 y7 y8 (fun y0 y1 y2 y3 y4 y5 y6 => (k0 y0 y1 y2 y3 y4 y5 y6))) (k0 y0 y1 y2 y3 y4 y5 y6)))))))))) y0 y1 y2 y3 y4 y5 y6)))
theorem t17_26 (S41) (S42) (S43) (h41 : (ctr41 S41).holds cl) (h42 : (ctr42 S42).holds cl) (h43 : (ctr43 S43).holds cl) (x0 x1 x2 x3 x4 x5 x6) : exec cl N c17_26 (e233 x0 x1 x2 x3 x4 x5 x6) K = (g17_26 S41 S42 S43 x0 x1 x2 x3 x4 x5 x6 (fun y0 y1 y2 y3 y4 y5 y6 => K .normal (e233 y0 y1 y2 y3 y4 y5 y6))) := by
  simp only [c17_26, exec_out, exec_block, exec_seq, seqK_normal, seqK_exit, seqK_ret, t17_14, c17_16, exec_cond', hb17_3, Option.bind_some, brB_true, brB_false, t17_15, exec_exit, exec_skip, kp17_3, kp17_5, t17_17, t17_21, t17_22 S41 S42 S43 h41 h42 h43, t17_23, c17_25, hb17_5, t17_24, kp17_8, blockK_normal, blockK_ret, blockK_eq]
  rfl
def g17_27 (x0 x1 : V1) (x2 : V20) (x3 : V28) (x4 : V11) (x5 : V0) (x6 : Int) (k0 : V1 → V1 → V20 → V28 → V11 → V0 → Int → Option R) : Option R :=
k0 x0 x1 x2 x3 x4 x5 (IntKind.i64.wrap (x6 + (1 : Int)))
theorem t17_27 (x0 x1 x2 x3 x4 x5 x6) : exec cl N c17_27 (e233 x0 x1 x2 x3 x4 x5 x6) K = (g17_27 x0 x1 x2 x3 x4 x5 x6 (fun y0 y1 y2 y3 y4 y5 y6 => K .normal (e233 y0 y1 y2 y3 y4 y5 y6))) := by
  kernel_rfl
def g17_28 (S41 : V28 → Int → V1 → Option V4) (S42 : Int → Int → Option (Int)) (S43 : V20 → Option (Int)) (x0 x1 : V1) (x2 : V20) (x3 : V28) (x4 : V11) (x5 : V0) (x6 : Int) (k0 : V1 → V1 → V20 → V28 → V11 → V0 → Int → Option R) (k1 : V1 → V1 → V20 → V28 → V11 → V0 → Int → Option R) : Option R :=
(g17_12 x0 x1 x2 x3 x4 x5 x6 (fun y0 y1 y2 y3 y4 y5 y6 y7 => brB y7 ((fun y0 y1 y2 y3 y4 y5 y6 => (g17_26 S41 S42 S43 y0 y1 y2 y3 y4 y5 y6 (fun y0 y1 y2 y3 y4 y5 y6 => (g17_27 y0 y1 y2 y3 y4 y5 y6 k0)))) y0 y1 y2 y3 y4 y5 y6) (k1 y0 y1 y2 y3 y4 y5 y6)))
theorem t17_28 (S41) (S42) (S43) (h41 : (ctr41 S41).holds cl) (h42 : (ctr42 S42).holds cl) (h43 : (ctr43 S43).holds cl) (x0 x1 x2 x3 x4 x5 x6) : exec cl N c17_28 (e233 x0 x1 x2 x3 x4 x5 x6) K = (g17_28 S41 S42 S43 x0 x1 x2 x3 x4 x5 x6 (fun y0 y1 y2 y3 y4 y5 y6 => K .normal (e233 y0 y1 y2 y3 y4 y5 y6)) (fun y0 y1 y2 y3 y4 y5 y6 => K (.exit 0) (e233 y0 y1 y2 y3 y4 y5 y6))) := by
  simp only [c17_28, exec_seq, seqK_normal, seqK_exit, seqK_ret, t17_12, c17_13, exec_out, exec_cond', hb17_2, Option.bind_some, brB_true, brB_false, exec_skip, exec_exit, kp17_4, t17_26 S41 S42 S43 h41 h42 h43, t17_27]
  rfl
def l17_29 {R : Type} (S41 : V28 → Int → V1 → Option V4) (S42 : Int → Int → Option (Int)) (S43 : V20 → Option (Int)) (k0 : V1 → V1 → V20 → V28 → V11 → V0 → Int → Option R) : Nat → V1 → V1 → V20 → V28 → V11 → V0 → Int → Option R
  | 0, _, _, _, _, _, _, _ => none
  | m + 1, x0, x1, x2, x3, x4, x5, x6 => (g17_28 S41 S42 S43 x0 x1 x2 x3 x4 x5 x6 (fun y0 y1 y2 y3 y4 y5 y6 => l17_29 S41 S42 S43 k0 m y0 y1 y2 y3 y4 y5 y6) k0)
theorem lt17_29 (S41) (S42) (S43) (h41 : (ctr41 S41).holds cl) (h42 : (ctr42 S42).holds cl) (h43 : (ctr43 S43).holds cl) : ∀ (m) (x0 x1 x2 x3 x4 x5 x6), iter [1, 2, 3, 5, 14, 15, 16] (fun env K => exec cl N c17_28 env K) K m (e233 x0 x1 x2 x3 x4 x5 x6) = l17_29 S41 S42 S43 (fun y0 y1 y2 y3 y4 y5 y6 => K (.exit 0) (e233 y0 y1 y2 y3 y4 y5 y6)) m x0 x1 x2 x3 x4 x5 x6 := by
  intro m
  induction m with
  | zero => intros; rfl
  | succ m ih =>
    intro x0 x1 x2 x3 x4 x5 x6
    simp only [iter_succ, t17_28 S41 S42 S43 h41 h42 h43, loopK_normal, loopK_exit, loopK_ret, kp17_3, ih]
    rfl
theorem kp17_9 (x0 x1 x2 x3 x4 x5 x6) : keep [14] (e233 x0 x1 x2 x3 x4 x5 x6) = (e165 x4) := by kernel_rfl
def g17_29 (N : Nat) (S41 : V28 → Int → V1 → Option V4) (S42 : Int → Int → Option (Int)) (S43 : V20 → Option (Int)) (x0 x1 : V1) (x2 : V20) (x3 : V28) (x4 : V11) (x5 : V0) (x6 : Int) (k0 : V11 → Option R) : Option R :=
l17_29 S41 S42 S43 (fun y0 y1 y2 y3 y4 y5 y6 => k0 y4) N x0 x1 x2 x3 x4 x5 x6
theorem t17_29 (S41) (S42) (S43) (h41 : (ctr41 S41).holds cl) (h42 : (ctr42 S42).holds cl) (h43 : (ctr43 S43).holds cl) (x0 x1 x2 x3 x4 x5 x6) : exec cl N c17_29 (e233 x0 x1 x2 x3 x4 x5 x6) K = (g17_29 N S41 S42 S43 x0 x1 x2 x3 x4 x5 x6 (fun y0 => K (.exit 0) (e165 y0))) := by
  simp only [c17_29, exec_out, exec_loop, kp17_3, lt17_29 S41 S42 S43 h41 h42 h43, kp17_9]
  rfl
theorem kp17_10 (x0) : keep [14] (e165 x0) = (e165 x0) := by kernel_rfl
def g17_31 (x0 : V11) (k0 : Int → V11 → Option R) : Option R :=
k0 (0 : Int) x0
theorem t17_31 (x0) : exec cl N c17_31 (e165 x0) K = (g17_31 x0 (fun y0 y1 => K .normal (e166 y0 y1))) := by
  kernel_rfl
def g17_32 (N : Nat) (S38 : V28 → Option (Int)) (S39 : V20 → V20 → Option (Int)) (S40 : V20 → V20 → Option V3) (S41 : V28 → Int → V1 → Option V4) (S42 : Int → Int → Option (Int)) (S43 : V20 → Option (Int)) (x0 : V28) (x1 x2 : V1) (x3 x4 : V20) (k0 : V11 → Int → Option R) (k1 : Int → V11 → Option R) : Option R :=
(g17_0 x0 x1 x2 x3 x4 (fun y0 y1 y2 y3 y4 => (g17_1 S38 y0 y1 y2 y3 y4 (fun y0 y1 y2 y3 y4 y5 => (g17_2 y0 y1 y2 y3 y4 y5 (fun y0 y1 y2 y3 y4 y5 y6 => brB y6 (g17_3 y0 y1 y2 y3 y4 y5 y6 (fun y0 y1 => ((fun y0 y1 => (k0 y0 y1)) y0 y1))) ((fun y0 y1 y2 y3 y4 => (g17_5 S39 y0 y1 y2 y3 y4 (fun y0 y1 y2 y3 y4 y5 => (g17_6 y0 y1 y2 y3 y4 y5 (fun y0 y1 y2 y3 y4 y5 y6 => brB y6 (g17_7 y0 y1 y2 y3 y4 y5 y6 (fun y0 y1 => ((fun y0 y1 => (k0 y0 y1)) y0 y1))) ((fun y0 y1 y2 y3 y4 => (g17_9 y0 y1 y2 y3 y4 (fun y0 y1 y2 y3 y4 y5 => (g17_10 S40 y0 y1 y2 y3 y4 y5 (fun y0 y1 y2 y3 y4 y5 => (g17_11 y0 y1 y2 y3 y4 y5 (fun y0 y1 y2 y3 y4 y5 y6 => (g17_29 N S41 S42 S43 y0 y1 y2 y3 y4 y5 y6 (fun y0 => ((fun y0 => (g17_31 y0 (fun y0 y1 => (k1 y0 y1)))) y0)))))))))) y0 y1 y2 y3 y4)))))) y0 y1 y2 y3 y4)))))))
theorem t17_32 (S38) (S39) (S40) (S41) (S42) (S43) (h38 : (ctr38 S38).holds cl) (h39 : (ctr39 S39).holds cl) (h40 : (ctr40 S40).holds cl) (h41 : (ctr41 S41).holds cl) (h42 : (ctr42 S42).holds cl) (h43 : (ctr43 S43).holds cl) (x0 x1 x2 x3 x4) : exec cl N c17_32 (e146 x0 x1 x2 x3 x4) K = (g17_32 N S38 S39 S40 S41 S42 S43 x0 x1 x2 x3 x4 (fun y0 y1 => K .ret (e151 y0 y1)) (fun y0 y1 => K .ret (e166 y0 y1))) := by
  simp only [c17_32, exec_seq, seqK_normal, seqK_exit, seqK_ret, t17_0, t17_1 S38 h38, t17_2, c17_4, exec_out, exec_cond', hb17_0, Option.bind_some, brB_true, brB_false, t17_3, exec_ret, exec_skip, kp17_0, kp17_1, t17_5 S39 h39, t17_6, c17_8, hb17_1, t17_7, kp17_2, t17_9, t17_10 S40 h40, t17_11, c17_30, exec_block, t17_29 S41 S42 S43 h41 h42 h43, blockK_normal, blockK_ret, blockK_eq, kp17_10, t17_31]
  rfl
theorem rk17_0 (y0 y1) : retK d17 .ret (e151 y0 y1) = some [.own true 45 U15 .no y0, .v U2 y1] := by kernel_rfl
theorem rk17_1 (y0 y1) : retK d17 .ret (e166 y0 y1) = some [.own true 45 U15 .no y1, .v U2 y0] := by kernel_rfl
def g17 (N : Nat) (S38 : V28 → Option (Int)) (S39 : V20 → V20 → Option (Int)) (S40 : V20 → V20 → Option V3) (S41 : V28 → Int → V1 → Option V4) (S42 : Int → Int → Option (Int)) (S43 : V20 → Option (Int)) (x0 : V28) (x1 x2 : V1) (x3 x4 : V20) (k : V11 → Int → Option R) : Option R :=
(g17_32 N S38 S39 S40 S41 S42 S43 x0 x1 x2 x3 x4 (fun y0 y1 => k y0 y1) (fun y0 y1 => k y1 y0))
theorem gen17 {N : Nat} {cl : Cal} (S38 : V28 → Option (Int)) (S39 : V20 → V20 → Option (Int)) (S40 : V20 → V20 → Option V3) (S41 : V28 → Int → V1 → Option V4) (S42 : Int → Int → Option (Int)) (S43 : V20 → Option (Int)) (h38 : (ctr38 S38).holds cl) (h39 : (ctr39 S39).holds cl) (h40 : (ctr40 S40).holds cl) (h41 : (ctr41 S41).holds cl) (h42 : (ctr42 S42).holds cl) (h43 : (ctr43 S43).holds cl) (x0 : V28) (x1 : V1) (x2 : V1) (x3 : V20) (x4 : V20) {R : Type} (k : List E → Option R) : exec cl N c17 (params 0 [.v U27 x0, .v .str x1, .v .str x2, .v U21 x3, .v U21 x4]) (fun e env => (retK d17 e env).bind k) = g17 N S38 S39 S40 S41 S42 S43 x0 x1 x2 x3 x4 (fun (r0 : V11) (r1 : Int) => k [.own true 45 U15 .no r0, .v U2 r1]) := by
  have e0 : params 0 [.v U27 x0, .v .str x1, .v .str x2, .v U21 x3, .v U21 x4] = (e146 x0 x1 x2 x3 x4) := by kernel_rfl
  simp only [c17, e0, t17_32 S38 S39 S40 S41 S42 S43 h38 h39 h40 h41 h42 h43, rk17_0, rk17_1, Option.bind_some]
  rfl
def ctr17 (S : V28 → V1 → V1 → V20 → V20 → Option V17) : Ctr := { A := V28 × V1 × V1 × V20 × V20 × Unit, B := V11 × Int, f := 17, enc := fun a => [.v U27 a.1, .v .str a.2.1, .v .str a.2.2.1, .v U21 a.2.2.2.1, .v U21 a.2.2.2.2.1], dec := (decC (decV U27) (decC (decV .str) (decC (decV .str) (decC (decV U21) (decC (decV U21) dec0))))), S := fun a => S a.1 a.2.1 a.2.2.1 a.2.2.2.1 a.2.2.2.2.1, ent := fun b => [.own true 45 U15 .no b.1, .v U2 b.2], ok := (decV_cons (T := U27) (decV_cons (T := .str) (decV_cons (T := .str) (decV_cons (T := U21) (decV_cons (T := U21) (fun es b h => dec0_some h)))))) }
def S17 (N : Nat) (x0 : V28) (x1 : V1) (x2 : V1) (x3 : V20) (x4 : V20) : Option V17 := g17 N (S38 N) (S39 N) (S40 N) (S41 N) (S42 N) (S43 N) x0 x1 x2 x3 x4 (fun (r0 : V11) (r1 : Int) => some (r0, r1))
def g45_0 (x0 x1 : V7) (k0 : V7 → V7 → Option R) : Option R :=
k0 x0 x1
theorem t45_0 (x0 x1) : exec cl N c45_0 [(0, .v U15 x0), (1, .v U15 x1)] K = (g45_0 x0 x1 (fun y0 y1 => K .normal [(2, .loc U15 .no y0), (3, .loc U15 .no y1)])) := by
  kernel_rfl
def g45_1 (x0 x1 : V7) (k0 : Int → Option R) : Option R :=
k0 (IntKind.i64.wrap (x0.2.1 - x1.2.1))
theorem t45_1 (x0 x1) : exec cl N c45_1 [(2, .loc U15 .no x0), (3, .loc U15 .no x1)] K = (g45_1 x0 x1 (fun y0 => K .normal [(4, .v U2 y0)])) := by
  kernel_rfl
def g45_2 (x0 x1 : V7) (k0 : Int → Option R) : Option R :=
(g45_0 x0 x1 (fun y0 y1 => (g45_1 y0 y1 (fun y0 => (k0 y0)))))
theorem t45_2 (x0 x1) : exec cl N c45_2 [(0, .v U15 x0), (1, .v U15 x1)] K = (g45_2 x0 x1 (fun y0 => K .ret [(4, .v U2 y0)])) := by
  simp only [c45_2, exec_seq, seqK_normal, seqK_exit, seqK_ret, t45_0, t45_1, exec_ret]
  rfl
theorem rk45_0 (y0) : retK d45 .ret [(4, .v U2 y0)] = some [.v U2 y0] := by kernel_rfl
def g45 (x0 x1 : V7) (k : Int → Option R) : Option R :=
(g45_2 x0 x1 (fun y0 => k y0))
theorem gen45 {N : Nat} {cl : Cal} (x0 : V7) (x1 : V7) {R : Type} (k : List E → Option R) : exec cl N c45 (params 0 [.v U15 x0, .v U15 x1]) (fun e env => (retK d45 e env).bind k) = g45 x0 x1 (fun (r0 : Int) => k [.v U2 r0]) := by
  have e0 : params 0 [.v U15 x0, .v U15 x1] = [(0, .v U15 x0), (1, .v U15 x1)] := by kernel_rfl
  simp only [c45, e0, t45_2, rk45_0, Option.bind_some]
  rfl
def ctr45 (S : V7 → V7 → Option (Int)) : Ctr := { A := V7 × V7 × Unit, B := Int, f := 45, enc := fun a => [.v U15 a.1, .v U15 a.2.1], dec := (decC (decV U15) (decC (decV U15) dec0)), S := fun a => S a.1 a.2.1, ent := fun b => [.v U2 b], ok := (decV_cons (T := U15) (decV_cons (T := U15) (fun es b h => dec0_some h))) }
def S45 (N : Nat) (x0 : V7) (x1 : V7) : Option (Int) := g45 x0 x1 (fun (r0 : Int) => some (r0))
def g44_0 (x0 : V11) (x1 : V27) (k0 : V11 → V27 → V7 → Option R) : Option R :=
k0 x0 x1 ((0 : Int), ((0 : Int), ()))
theorem t44_0 (x0 x1) : exec cl N c44_0 [(0, .v U16 x0), (1, .v U29 x1)] K = (g44_0 x0 x1 (fun y0 y1 y2 => K .normal (e240 y0 y1 y2))) := by
  kernel_rfl
def g44_1 (x0 : V11) (x1 : V27) (x2 : V7) (k0 : V11 → V27 → V7 → Bool → Option R) : Option R :=
k0 x0 x1 x2 (decide ((x0.length : Int) < (1 : Int)))
theorem t44_1 (x0 x1 x2) : exec cl N c44_1 (e240 x0 x1 x2) K = (g44_1 x0 x1 x2 (fun y0 y1 y2 y3 => K .normal (e241 y0 y1 y2 y3))) := by
  kernel_rfl
def g44_2 (x0 : V11) (x1 : V27) (x2 : V7) (x3 : Bool) : Option R :=
none /- operation makeInterface -/
theorem t44_2 (x0 x1 x2 x3) : exec cl N c44_2 (e241 x0 x1 x2 x3) K = (g44_2 x0 x1 x2 x3) := by
  kernel_rfl
theorem kp44_0 (x0 x1 x2 x3) : keep [0, 1, 4] (e241 x0 x1 x2 x3) = (e240 x0 x1 x2) := by kernel_rfl
theorem hb44_0 (x0 x1 x2 x3) : boolOf? (ent (e241 x0 x1 x2 x3) (.t 9)) = some x3 := by kernel_rfl
def g44_4 (x0 : V11) (x1 : V27) (x2 : V7) (k0 : V11 → V27 → V7 → V7 → Option R) : Option R :=
if 0 ≤ (0 : Int) ∧ (0 : Int) < (x0.length : Int) then
k0 x0 x1 x2 (x0.getD (0 : Int).toNat ((0 : Int), ((0 : Int), ())))
else none
theorem t44_4 (x0 x1 x2) : exec cl N c44_4 (e240 x0 x1 x2) K = (g44_4 x0 x1 x2 (fun y0 y1 y2 y3 => K .normal [(0, .v U16 y0), (1, .v U29 y1), (4, .loc U15 .no y2), (5, .loc U15 .no y3)])) := by
  kernel_rfl
def g44_5 (x0 : V11) (x1 : V27) (x2 x3 : V7) (k0 : V11 → V27 → V7 → V7 → Int → Option R) : Option R :=
k0 x0 x1 x2 x3 (1 : Int)
theorem t44_5 (x0 x1 x2 x3) : exec cl N c44_5 [(0, .v U16 x0), (1, .v U29 x1), (4, .loc U15 .no x2), (5, .loc U15 .no x3)] K = (g44_5 x0 x1 x2 x3 (fun y0 y1 y2 y3 y4 => K .normal (e242 y0 y1 y2 y3 y4))) := by
  kernel_rfl
theorem kp44_1 (x0 x1 x2 x3 x4) : keep [0, 1, 4, 5, 6] (e242 x0 x1 x2 x3 x4) = (e242 x0 x1 x2 x3 x4) := by kernel_rfl
def g44_6 (x0 : V11) (x1 : V27) (x2 x3 : V7) (x4 : Int) (k0 : V11 → V27 → V7 → V7 → Int → Bool → Option R) : Option R :=
k0 x0 x1 x2 x3 x4 (decide (x4 < (x0.length : Int)))
theorem t44_6 (x0 x1 x2 x3 x4) : exec cl N c44_6 (e242 x0 x1 x2 x3 x4) K = (g44_6 x0 x1 x2 x3 x4 (fun y0 y1 y2 y3 y4 y5 => K .normal (e243 y0 y1 y2 y3 y4 y5))) := by
  kernel_rfl
theorem kp44_2 (x0 x1 x2 x3 x4 x5) : keep [0, 1, 4, 5, 6] (e243 x0 x1 x2 x3 x4 x5) = (e242 x0 x1 x2 x3 x4) := by kernel_rfl
theorem hb44_1 (x0 x1 x2 x3 x4 x5) : boolOf? (ent (e243 x0 x1 x2 x3 x4 x5) (.t 17)) = some x5 := by kernel_rfl
def g44_8 (x0 : V11) (x1 : V27) (x2 x3 : V7) (x4 : Int) (k0 : V11 → V27 → V7 → V7 → Int → Bool → Option R) : Option R :=
if 0 ≤ x4 ∧ x4 < (x0.length : Int) then
(x1 ((x0.getD x4.toNat ((0 : Int), ((0 : Int), ()))), x3, ())).bind fun r777 =>
k0 x0 x1 x2 x3 x4 (decide (r777 < (0 : Int)))
else none
theorem t44_8 (x0 x1 x2 x3 x4) : exec cl N c44_8 (e242 x0 x1 x2 x3 x4) K = (g44_8 x0 x1 x2 x3 x4 (fun y0 y1 y2 y3 y4 y5 => K .normal (e244 y0 y1 y2 y3 y4 y5))) := by
  kernel_rfl
def g44_9 (x0 : V11) (x1 : V27) (x2 x3 : V7) (x4 : Int) (x5 : Bool) (k0 : V11 → V27 → V7 → V7 → Int → Option R) : Option R :=
if 0 ≤ x4 ∧ x4 < (x0.length : Int) then
k0 x0 x1 x2 (x0.getD x4.toNat ((0 : Int), ((0 : Int), ()))) x4
else none
theorem t44_9 (x0 x1 x2 x3 x4 x5) : exec cl N c44_9 (e244 x0 x1 x2 x3 x4 x5) K = (g44_9 x0 x1 x2 x3 x4 x5 (fun y0 y1 y2 y3 y4 => K .normal (e242 y0 y1 y2 y3 y4))) := by
  kernel_rfl
theorem kp44_3 (x0 x1 x2 x3 x4 x5) : keep [0, 1, 4, 5, 6] (e244 x0 x1 x2 x3 x4 x5) = (e242 x0 x1 x2 x3 x4) := by kernel_rfl
theorem hb44_2 (x0 x1 x2 x3 x4 x5) : boolOf? (ent (e244 x0 x1 x2 x3 x4 x5) (.t 27)) = some x5 := by kernel_rfl
def g44_11 (x0 : V11) (x1 : V27) (x2 x3 : V7) (x4 : Int) (k0 : V11 → V27 → V7 → V7 → Int → Option R) : Option R :=
(g44_8 x0 x1 x2 x3 x4 (fun y0 y1 y2 y3 y4 y5 => brB y5 (g44_9 y0 y1 y2 y3 y4 y5 (fun y0 y1 y2 y3 y4 => (k0 y0 y1 y2 y3 y4))) (k0 y0 y1 y2 y3 y4)))
theorem t44_11 (x0 x1 x2 x3 x4) : exec cl N c44_11 (e242 x0 x1 x2 x3 x4) K = (g44_11 x0 x1 x2 x3 x4 (fun y0 y1 y2 y3 y4 => K .normal (e242 y0 y1 y2 y3 y4))) := by
  simp only [c44_11, exec_out, exec_block, exec_seq, seqK_normal, seqK_exit, seqK_ret, t44_8, c44_10, exec_cond', hb44_2, Option.bind_some, brB_true, brB_false, t44_9, exec_skip, kp44_1, kp44_3, blockK_normal, blockK_ret, blockK_eq]
  rfl
def g44_12 (x0 : V11) (x1 : V27) (x2 x3 : V7) (x4 : Int) (k0 : V11 → V27 → V7 → V7 → Int → Option R) : Option R :=
k0 x0 x1 x2 x3 (IntKind.i64.wrap (x4 + (1 : Int)))
theorem t44_12 (x0 x1 x2 x3 x4) : exec cl N c44_12 (e242 x0 x1 x2 x3 x4) K = (g44_12 x0 x1 x2 x3 x4 (fun y0 y1 y2 y3 y4 => K .normal (e242 y0 y1 y2 y3 y4))) := by
  kernel_rfl
def g44_13 (x0 : V11) (x1 : V27) (x2 x3 : V7) (x4 : Int) (k0 : V11 → V27 → V7 → V7 → Int → Option R) (k1 : V11 → V27 → V7 → V7 → Int → Option R) : Option R :=
(g44_6 x0 x1 x2 x3 x4 (fun y0 y1 y2 y3 y4 y5 => brB y5 ((fun y0 y1 y2 y3 y4 => (g44_11 y0 y1 y2 y3 y4 (fun y0 y1 y2 y3 y4 => (g44_12 y0 y1 y2 y3 y4 k0)))) y0 y1 y2 y3 y4) (k1 y0 y1 y2 y3 y4)))
theorem t44_13 (x0 x1 x2 x3 x4) : exec cl N c44_13 (e242 x0 x1 x2 x3 x4) K = (g44_13 x0 x1 x2 x3 x4 (fun y0 y1 y2 y3 y4 => K .normal (e242 y0 y1 y2 y3 y4)) (fun y0 y1 y2 y3 y4 => K (.exit 0) (e242 y0 y1 y2 y3 y4))) := by
  simp only [c44_13, exec_seq, seqK_normal, seqK_exit, seqK_ret, t44_6, c44_7, exec_out, exec_cond', hb44_1, Option.bind_some, brB_true, brB_false, exec_skip, exec_exit, kp44_2, t44_11, t44_12]
  rfl
def l44_14 {R : Type} (k0 : V11 → V27 → V7 → V7 → Int → Option R) : Nat → V11 → V27 → V7 → V7 → Int → Option R
  | 0, _, _, _, _, _ => none
  | m + 1, x0, x1, x2, x3, x4 => (g44_13 x0 x1 x2 x3 x4 (fun y0 y1 y2 y3 y4 => l44_14 k0 m y0 y1 y2 y3 y4) k0)
theorem lt44_14 : ∀ (m) (x0 x1 x2 x3 x4), iter [0, 1, 4, 5, 6] (fun env K => exec cl N c44_13 env K) K m (e242 x0 x1 x2 x3 x4) = l44_14 (fun y0 y1 y2 y3 y4 => K (.exit 0) (e242 y0 y1 y2 y3 y4)) m x0 x1 x2 x3 x4 := by
  intro m
  induction m with
  | zero => intros; rfl
  | succ m ih =>
    intro x0 x1 x2 x3 x4
    simp only [iter_succ, t44_13, loopK_normal, loopK_exit, loopK_ret, kp44_1, ih]
    rfl
theorem kp44_4 (x0 x1 x2 x3 x4) : keep [4, 5] (e242 x0 x1 x2 x3 x4) = (e245 x2 x3) := by kernel_rfl
def g44_14 (N : Nat) (x0 : V11) (x1 : V27) (x2 x3 : V7) (x4 : Int) (k0 : V7 → V7 → Option R) : Option R :=
l44_14 (fun y0 y1 y2 y3 y4 => k0 y2 y3) N x0 x1 x2 x3 x4
theorem t44_14 (x0 x1 x2 x3 x4) : exec cl N c44_14 (e242 x0 x1 x2 x3 x4) K = (g44_14 N x0 x1 x2 x3 x4 (fun y0 y1 => K (.exit 0) (e245 y0 y1))) := by
  simp only [c44_14, exec_out, exec_loop, kp44_1, lt44_14, kp44_4]
  rfl
theorem kp44_5 (x0 x1) : keep [4, 5] (e245 x0 x1) = (e245 x0 x1) := by kernel_rfl
def g44_16 (x0 x1 : V7) (k0 : V7 → Option R) : Option R :=
k0 x1
theorem t44_16 (x0 x1) : exec cl N c44_16 (e245 x0 x1) K = (g44_16 x0 x1 (fun y0 => K .normal [(4, .loc U15 .no y0)])) := by
  kernel_rfl
def g44_17 (N : Nat) (x0 : V11) (x1 : V27) (k0 : V7 → Option R) : Option R :=
(g44_0 x0 x1 (fun y0 y1 y2 => (g44_1 y0 y1 y2 (fun y0 y1 y2 y3 => brB y3 (g44_2 y0 y1 y2 y3) ((fun y0 y1 y2 => (g44_4 y0 y1 y2 (fun y0 y1 y2 y3 => (g44_5 y0 y1 y2 y3 (fun y0 y1 y2 y3 y4 => (g44_14 N y0 y1 y2 y3 y4 (fun y0 y1 => ((fun y0 y1 => (g44_16 y0 y1 (fun y0 => (k0 y0)))) y0 y1)))))))) y0 y1 y2)))))
theorem t44_17 (x0 x1) : exec cl N c44_17 [(0, .v U16 x0), (1, .v U29 x1)] K = (g44_17 N x0 x1 (fun y0 => K .ret [(4, .loc U15 .no y0)])) := by
  simp only [c44_17, exec_seq, seqK_normal, seqK_exit, seqK_ret, t44_0, t44_1, c44_3, exec_out, exec_cond', hb44_0, Option.bind_some, brB_true, brB_false, t44_2, exec_skip, kp44_0, t44_4, t44_5, c44_15, exec_block, t44_14, blockK_normal, blockK_ret, blockK_eq, kp44_5, t44_16, exec_ret]
  rfl
theorem rk44_0 (y0) : retK d44 .ret [(4, .loc U15 .no y0)] = some [.v U15 y0] := by kernel_rfl
def g44 (N : Nat) (x0 : V11) (x1 : V27) (k : V7 → Option R) : Option R :=
(g44_17 N x0 x1 (fun y0 => k y0))
theorem gen44 {N : Nat} {cl : Cal} (x0 : V11) (x1 : V27) {R : Type} (k : List E → Option R) : exec cl N c44 (params 0 [.v U16 x0, .v U29 x1]) (fun e env => (retK d44 e env).bind k) = g44 N x0 x1 (fun (r0 : V7) => k [.v U15 r0]) := by
  have e0 : params 0 [.v U16 x0, .v U29 x1] = [(0, .v U16 x0), (1, .v U29 x1)] := by kernel_rfl
  simp only [c44, e0, t44_17, rk44_0, Option.bind_some]
  rfl
def ctr44 (S : V11 → V27 → Option V10) : Ctr := { A := V11 × V27 × Unit, B := V7, f := 44, enc := fun a => [.v U16 a.1, .v U29 a.2.1], dec := (decC (decV U16) (decC (decV U29) dec0)), S := fun a => S a.1 a.2.1, ent := fun b => [.v U15 b], ok := (decV_cons (T := U16) (decV_cons (T := U29) (fun es b h => dec0_some h))) }
def S44 (N : Nat) (x0 : V11) (x1 : V27) : Option V10 := g44 N x0 x1 (fun (r0 : V7) => some (r0))
def g18_0 (x0 : V28) (x1 x2 : V1) (x3 x4 : V20) (k0 : V1 → V1 → V20 → V20 → V28 → V7 → Option R) : Option R :=
k0 x1 x2 x3 x4 x0 ((0 : Int), ((0 : Int), ()))
theorem t18_0 (x0 x1 x2 x3 x4) : exec cl N c18_0 (e146 x0 x1 x2 x3 x4) K = (g18_0 x0 x1 x2 x3 x4 (fun y0 y1 y2 y3 y4 y5 => K .normal (e246 y0 y1 y2 y3 y4 y5))) := by
  kernel_rfl
def g18_1 (S16 : V28 → V1 → V1 → V20 → V20 → Option V17) (x0 x1 : V1) (x2 x3 : V20) (x4 : V28) (x5 : V7) (k0 : V7 → V11 → Int → Option R) : Option R :=
(S16 x4 x0 x1 x2 x3).bind fun r781 =>
k0 x5 r781.1 r781.2
theorem t18_1 (S16) (h16 : (ctr16 S16).holds cl) (x0 x1 x2 x3 x4 x5) : exec cl N c18_1 (e246 x0 x1 x2 x3 x4 x5) K = (g18_1 S16 x0 x1 x2 x3 x4 x5 (fun y0 y1 y2 => K .normal (e247 y0 y1 y2))) := by
  rw [← put_eq h16]
  kernel_rfl
def g18_2 (x0 : V7) (x1 : V11) (x2 : Int) (k0 : V7 → V11 → Int → Bool → Option R) : Option R :=
k0 x0 x1 x2 (x2 != (0 : Int))
theorem t18_2 (x0 x1 x2) : exec cl N c18_2 (e247 x0 x1 x2) K = (g18_2 x0 x1 x2 (fun y0 y1 y2 y3 => K .normal (e248 y0 y1 y2 y3))) := by
  kernel_rfl
def g18_3 (x0 : V7) (x1 : V11) (x2 : Int) (x3 : Bool) (k0 : V7 → Int → Option R) : Option R :=
k0 ((0 : Int), (0 : Int), ()) x2
theorem t18_3 (x0 x1 x2 x3) : exec cl N c18_3 (e248 x0 x1 x2 x3) K = (g18_3 x0 x1 x2 x3 (fun y0 y1 => K .normal (e249 y0 y1))) := by
  kernel_rfl
theorem kp18_0 (x0 x1) : keep [10, 11, 12] (e249 x0 x1) = (e250 x0 x1) := by kernel_rfl
theorem kp18_1 (x0 x1 x2 x3) : keep [10, 11, 12] (e248 x0 x1 x2 x3) = (e251 x0 x1) := by kernel_rfl
theorem hb18_0 (x0 x1 x2 x3) : boolOf? (ent (e248 x0 x1 x2 x3) (.t 24)) = some x3 := by kernel_rfl
def g18_5 (x0 : V7) (x1 : V11) (k0 : V7 → V11 → Bool → Option R) : Option R :=
k0 x0 x1 ((x1.length : Int) == (0 : Int))
theorem t18_5 (x0 x1) : exec cl N c18_5 (e251 x0 x1) K = (g18_5 x0 x1 (fun y0 y1 y2 => K .normal (e252 y0 y1 y2))) := by
  kernel_rfl
def g18_6 (x0 : V7) (x1 : V11) (x2 : Bool) (k0 : V7 → Int → Option R) : Option R :=
k0 ((0 : Int), (0 : Int), ()) (10 : Int)
theorem t18_6 (x0 x1 x2) : exec cl N c18_6 (e252 x0 x1 x2) K = (g18_6 x0 x1 x2 (fun y0 y1 => K .normal (e249 y0 y1))) := by
  kernel_rfl
theorem kp18_2 (x0 x1 x2) : keep [10, 11, 12] (e252 x0 x1 x2) = (e251 x0 x1) := by kernel_rfl
theorem hb18_1 (x0 x1 x2) : boolOf? (ent (e252 x0 x1 x2) (.t 29)) = some x2 := by kernel_rfl
def g18_8 (S44 : V11 → V27 → Option V10) (S45 : V7 → V7 → Option (Int)) (x0 : V7) (x1 : V11) (k0 : V7 → Int → Option R) : Option R :=
(S44 x1 (fun (x786 : (V7 × V16)) => ((S45 x786.1 x786.2.1).bind fun b787 => some [.v U2 b787]).bind (unE U2))).bind fun r788 =>
k0 r788 (0 : Int)
theorem t18_8 (S44) (S45) (h44 : (ctr44 S44).holds cl) (h45 : (ctr45 S45).holds cl) (x0 x1) : exec cl N c18_8 (e251 x0 x1) K = (g18_8 S44 S45 x0 x1 (fun y0 y1 => K .normal (e249 y0 y1))) := by
  rw [← put_eq h44]
  rw [← put_eq h45]
  kernel_rfl
def g18_9 (S16 : V28 → V1 → V1 → V20 → V20 → Option V17) (S44 : V11 → V27 → Option V10) (S45 : V7 → V7 → Option (Int)) (x0 : V28) (x1 x2 : V1) (x3 x4 : V20) (k0 : V7 → Int → Option R) (k1 : V7 → Int → Option R) : Option R :=
(g18_0 x0 x1 x2 x3 x4 (fun y0 y1 y2 y3 y4 y5 => (g18_1 S16 y0 y1 y2 y3 y4 y5 (fun y0 y1 y2 => (g18_2 y0 y1 y2 (fun y0 y1 y2 y3 => brB y3 (g18_3 y0 y1 y2 y3 (fun y0 y1 => ((fun y0 y1 => (k0 y0 y1)) y0 y1))) ((fun y0 y1 => (g18_5 y0 y1 (fun y0 y1 y2 => brB y2 (g18_6 y0 y1 y2 (fun y0 y1 => ((fun y0 y1 => (k0 y0 y1)) y0 y1))) ((fun y0 y1 => (g18_8 S44 S45 y0 y1 (fun y0 y1 => (k1 y0 y1)))) y0 y1)))) y0 y1)))))))
theorem t18_9 (S16) (S44) (S45) (h16 : (ctr16 S16).holds cl) (h44 : (ctr44 S44).holds cl) (h45 : (ctr45 S45).holds cl) (x0 x1 x2 x3 x4) : exec cl N c18_9 (e146 x0 x1 x2 x3 x4) K = (g18_9 S16 S44 S45 x0 x1 x2 x3 x4 (fun y0 y1 => K .ret (e250 y0 y1)) (fun y0 y1 => K .ret (e249 y0 y1))) := by
  simp only [c18_9, exec_seq, seqK_normal, seqK_exit, seqK_ret, t18_0, t18_1 S16 h16, t18_2, c18_4, exec_out, exec_cond', hb18_0, Option.bind_some, brB_true, brB_false, t18_3, exec_ret, exec_skip, kp18_0, kp18_1, t18_5, c18_7, hb18_1, t18_6, kp18_2, t18_8 S44 S45 h44 h45]
  rfl
theorem rk18_0 (y0 y1) : retK d18 .ret (e250 y0 y1) = some [.v U15 y0, .v U2 y1] := by kernel_rfl
theorem rk18_1 (y0 y1) : retK d18 .ret (e249 y0 y1) = some [.v U15 y0, .v U2 y1] := by kernel_rfl
def g18 (S16 : V28 → V1 → V1 → V20 → V20 → Option V17) (S44 : V11 → V27 → Option V10) (S45 : V7 → V7 → Option (Int)) (x0 : V28) (x1 x2 : V1) (x3 x4 : V20) (k : V7 → Int → Option R) : Option R :=
(g18_9 S16 S44 S45 x0 x1 x2 x3 x4 (fun y0 y1 => k y0 y1) (fun y0 y1 => k y0 y1))
theorem gen18 {N : Nat} {cl : Cal} (S16 : V28 → V1 → V1 → V20 → V20 → Option V17) (S44 : V11 → V27 → Option V10) (S45 : V7 → V7 → Option (Int)) (h16 : (ctr16 S16).holds cl) (h44 : (ctr44 S44).holds cl) (h45 : (ctr45 S45).holds cl) (x0 : V28) (x1 : V1) (x2 : V1) (x3 : V20) (x4 : V20) {R : Type} (k : List E → Option R) : exec cl N c18 (params 0 [.v U27 x0, .v .str x1, .v .str x2, .v U21 x3, .v U21 x4]) (fun e env => (retK d18 e env).bind k) = g18 S16 S44 S45 x0 x1 x2 x3 x4 (fun (r0 : V7) (r1 : Int) => k [.v U15 r0, .v U2 r1]) := by
  have e0 : params 0 [.v U27 x0, .v .str x1, .v .str x2, .v U21 x3, .v U21 x4] = (e146 x0 x1 x2 x3 x4) := by kernel_rfl
  simp only [c18, e0, t18_9 S16 S44 S45 h16 h44 h45, rk18_0, rk18_1, Option.bind_some]
  rfl
def ctr18 (S : V28 → V1 → V1 → V20 → V20 → Option V14) : Ctr := { A := V28 × V1 × V1 × V20 × V20 × Unit, B := V7 × Int, f := 18, enc := fun a => [.v U27 a.1, .v .str a.2.1, .v .str a.2.2.1, .v U21 a.2.2.2.1, .v U21 a.2.2.2.2.1], dec := (decC (decV U27) (decC (decV .str) (decC (decV .str) (decC (decV U21) (decC (decV U21) dec0))))), S := fun a => S a.1 a.2.1 a.2.2.1 a.2.2.2.1 a.2.2.2.2.1, ent := fun b => [.v U15 b.1, .v U2 b.2], ok := (decV_cons (T := U27) (decV_cons (T := .str) (decV_cons (T := .str) (decV_cons (T := U21) (decV_cons (T := U21) (fun es b h => dec0_some h)))))) }
def S18 (N : Nat) (x0 : V28) (x1 : V1) (x2 : V1) (x3 : V20) (x4 : V20) : Option V14 := g18 (S16 N) (S44 N) (S45 N) x0 x1 x2 x3 x4 (fun (r0 : V7) (r1 : Int) => some (r0, r1))
def g19_0 (x0 : V28) (x1 x2 : V1) (x3 x4 : V20) (k0 : V1 → V1 → V20 → V20 → V28 → V7 → Option R) : Option R :=
k0 x1 x2 x3 x4 x0 ((0 : Int), ((0 : Int), ()))
theorem t19_0 (x0 x1 x2 x3 x4) : exec cl N c19_0 (e146 x0 x1 x2 x3 x4) K = (g19_0 x0 x1 x2 x3 x4 (fun y0 y1 y2 y3 y4 y5 => K .normal (e246 y0 y1 y2 y3 y4 y5))) := by
  kernel_rfl
def g19_1 (S17 : V28 → V1 → V1 → V20 → V20 → Option V17) (x0 x1 : V1) (x2 x3 : V20) (x4 : V28) (x5 : V7) (k0 : V7 → V11 → Int → Option R) : Option R :=
(S17 x4 x0 x1 x2 x3).bind fun r801 =>
k0 x5 r801.1 r801.2
theorem t19_1 (S17) (h17 : (ctr17 S17).holds cl) (x0 x1 x2 x3 x4 x5) : exec cl N c19_1 (e246 x0 x1 x2 x3 x4 x5) K = (g19_1 S17 x0 x1 x2 x3 x4 x5 (fun y0 y1 y2 => K .normal (e247 y0 y1 y2))) := by
  rw [← put_eq h17]
  kernel_rfl
def g19_2 (x0 : V7) (x1 : V11) (x2 : Int) (k0 : V7 → V11 → Int → Bool → Option R) : Option R :=
k0 x0 x1 x2 (x2 != (0 : Int))
theorem t19_2 (x0 x1 x2) : exec cl N c19_2 (e247 x0 x1 x2) K = (g19_2 x0 x1 x2 (fun y0 y1 y2 y3 => K .normal (e253 y0 y1 y2 y3))) := by
  kernel_rfl
def g19_3 (x0 : V7) (x1 : V11) (x2 : Int) (x3 : Bool) (k0 : V7 → Int → Option R) : Option R :=
k0 ((0 : Int), (0 : Int), ()) x2
theorem t19_3 (x0 x1 x2 x3) : exec cl N c19_3 (e253 x0 x1 x2 x3) K = (g19_3 x0 x1 x2 x3 (fun y0 y1 => K .normal (e249 y0 y1))) := by
  kernel_rfl
theorem kp19_0 (x0 x1) : keep [10, 11, 12] (e249 x0 x1) = (e250 x0 x1) := by kernel_rfl
theorem kp19_1 (x0 x1 x2 x3) : keep [10, 11, 12] (e253 x0 x1 x2 x3) = (e251 x0 x1) := by kernel_rfl
theorem hb19_0 (x0 x1 x2 x3) : boolOf? (ent (e253 x0 x1 x2 x3) (.t 26)) = some x3 := by kernel_rfl
def g19_5 (x0 : V7) (x1 : V11) (k0 : V7 → V11 → Bool → Option R) : Option R :=
k0 x0 x1 ((x1.length : Int) == (0 : Int))
theorem t19_5 (x0 x1) : exec cl N c19_5 (e251 x0 x1) K = (g19_5 x0 x1 (fun y0 y1 y2 => K .normal (e254 y0 y1 y2))) := by
  kernel_rfl
def g19_6 (x0 : V7) (x1 : V11) (x2 : Bool) (k0 : V7 → Int → Option R) : Option R :=
k0 ((0 : Int), (0 : Int), ()) (10 : Int)
theorem t19_6 (x0 x1 x2) : exec cl N c19_6 (e254 x0 x1 x2) K = (g19_6 x0 x1 x2 (fun y0 y1 => K .normal (e249 y0 y1))) := by
  kernel_rfl
theorem kp19_2 (x0 x1 x2) : keep [10, 11, 12] (e254 x0 x1 x2) = (e251 x0 x1) := by kernel_rfl
theorem hb19_1 (x0 x1 x2) : boolOf? (ent (e254 x0 x1 x2) (.t 31)) = some x2 := by kernel_rfl
def g19_8 (x0 : V7) (x1 : V11) (k0 : V7 → V11 → V7 → Option R) : Option R :=
if 0 ≤ (0 : Int) ∧ (0 : Int) < (x1.length : Int) then
if ((0 : Int).toNat) < x1.length then
k0 x0 x1 (x1.getD ((0 : Int).toNat) ((0 : Int), ((0 : Int), ())))
else none
else none
theorem t19_8 (x0 x1) : exec cl N c19_8 (e251 x0 x1) K = (g19_8 x0 x1 (fun y0 y1 y2 => K .normal (e255 y0 y1 y2))) := by
  kernel_rfl
def g19_9 (x0 : V7) (x1 : V11) (x2 : V7) (k0 : V7 → V11 → V7 → Int → Option R) : Option R :=
k0 x0 x1 x2 (1 : Int)
theorem t19_9 (x0 x1 x2) : exec cl N c19_9 (e255 x0 x1 x2) K = (g19_9 x0 x1 x2 (fun y0 y1 y2 y3 => K .normal (e256 y0 y1 y2 y3))) := by
  kernel_rfl
theorem kp19_3 (x0 x1 x2 x3) : keep [10, 12, 14, 15] (e256 x0 x1 x2 x3) = (e256 x0 x1 x2 x3) := by kernel_rfl
def g19_10 (x0 : V7) (x1 : V11) (x2 : V7) (x3 : Int) (k0 : V7 → V11 → V7 → Int → Bool → Option R) : Option R :=
k0 x0 x1 x2 x3 (decide (x3 < (x1.length : Int)))
theorem t19_10 (x0 x1 x2 x3) : exec cl N c19_10 (e256 x0 x1 x2 x3) K = (g19_10 x0 x1 x2 x3 (fun y0 y1 y2 y3 y4 => K .normal (e257 y0 y1 y2 y3 y4))) := by
  kernel_rfl
theorem kp19_4 (x0 x1 x2 x3 x4) : keep [10, 12, 14, 15] (e257 x0 x1 x2 x3 x4) = (e256 x0 x1 x2 x3) := by kernel_rfl
theorem hb19_2 (x0 x1 x2 x3 x4) : boolOf? (ent (e257 x0 x1 x2 x3 x4) (.t 39)) = some x4 := by kernel_rfl
def g19_12 (x0 : V7) (x1 : V11) (x2 : V7) (x3 : Int) (k0 : V7 → V11 → V7 → Int → Bool → Option R) : Option R :=
if 0 ≤ x3 ∧ x3 < (x1.length : Int) then
if x3.toNat < x1.length then
k0 x0 x1 x2 x3 (decide (((x1.getD x3.toNat ((0 : Int), ((0 : Int), ()))).2.1) < x2.2.1))
else none
else none
theorem t19_12 (x0 x1 x2 x3) : exec cl N c19_12 (e256 x0 x1 x2 x3) K = (g19_12 x0 x1 x2 x3 (fun y0 y1 y2 y3 y4 => K .normal (e258 y0 y1 y2 y3 y4))) := by
  kernel_rfl
def g19_13 (x0 : V7) (x1 : V11) (x2 : V7) (x3 : Int) (x4 : Bool) (k0 : V7 → V11 → V7 → Int → Option R) : Option R :=
if 0 ≤ x3 ∧ x3 < (x1.length : Int) then
if x3.toNat < x1.length then
k0 x0 x1 (x1.getD x3.toNat ((0 : Int), ((0 : Int), ()))) x3
else none
else none
theorem t19_13 (x0 x1 x2 x3 x4) : exec cl N c19_13 (e258 x0 x1 x2 x3 x4) K = (g19_13 x0 x1 x2 x3 x4 (fun y0 y1 y2 y3 => K .normal (e256 y0 y1 y2 y3))) := by
  kernel_rfl
theorem kp19_5 (x0 x1 x2 x3 x4) : keep [10, 12, 14, 15] (e258 x0 x1 x2 x3 x4) = (e256 x0 x1 x2 x3) := by kernel_rfl
theorem hb19_3 (x0 x1 x2 x3 x4) : boolOf? (ent (e258 x0 x1 x2 x3 x4) (.t 49)) = some x4 := by kernel_rfl
def g19_15 (x0 : V7) (x1 : V11) (x2 : V7) (x3 : Int) (k0 : V7 → V11 → V7 → Int → Option R) : Option R :=
(g19_12 x0 x1 x2 x3 (fun y0 y1 y2 y3 y4 => brB y4 (g19_13 y0 y1 y2 y3 y4 (fun y0 y1 y2 y3 => (k0 y0 y1 y2 y3))) (k0 y0 y1 y2 y3)))
theorem t19_15 (x0 x1 x2 x3) : exec cl N c19_15 (e256 x0 x1 x2 x3) K = (g19_15 x0 x1 x2 x3 (fun y0 y1 y2 y3 => K .normal (e256 y0 y1 y2 y3))) := by
  simp only [c19_15, exec_out, exec_block, exec_seq, seqK_normal, seqK_exit, seqK_ret, t19_12, c19_14, exec_cond', hb19_3, Option.bind_some, brB_true, brB_false, t19_13, exec_skip, kp19_3, kp19_5, blockK_normal, blockK_ret, blockK_eq]
  rfl
def g19_16 (x0 : V7) (x1 : V11) (x2 : V7) (x3 : Int) (k0 : V7 → V11 → V7 → Int → Option R) : Option R :=
k0 x0 x1 x2 (IntKind.i64.wrap (x3 + (1 : Int)))
theorem t19_16 (x0 x1 x2 x3) : exec cl N c19_16 (e256 x0 x1 x2 x3) K = (g19_16 x0 x1 x2 x3 (fun y0 y1 y2 y3 => K .normal (e256 y0 y1 y2 y3))) := by
  kernel_rfl
def g19_17 (x0 : V7) (x1 : V11) (x2 : V7) (x3 : Int) (k0 : V7 → V11 → V7 → Int → Option R) (k1 : V7 → V11 → V7 → Int → Option R) : Option R :=
(g19_10 x0 x1 x2 x3 (fun y0 y1 y2 y3 y4 => brB y4 ((fun y0 y1 y2 y3 => (g19_15 y0 y1 y2 y3 (fun y0 y1 y2 y3 => (g19_16 y0 y1 y2 y3 k0)))) y0 y1 y2 y3) (k1 y0 y1 y2 y3)))
theorem t19_17 (x0 x1 x2 x3) : exec cl N c19_17 (e256 x0 x1 x2 x3) K = (g19_17 x0 x1 x2 x3 (fun y0 y1 y2 y3 => K .normal (e256 y0 y1 y2 y3)) (fun y0 y1 y2 y3 => K (.exit 0) (e256 y0 y1 y2 y3))) := by
  simp only [c19_17, exec_seq, seqK_normal, seqK_exit, seqK_ret, t19_10, c19_11, exec_out, exec_cond', hb19_2, Option.bind_some, brB_true, brB_false, exec_skip, exec_exit, kp19_4, t19_15, t19_16]
  rfl
def l19_18 {R : Type} (k0 : V7 → V11 → V7 → Int → Option R) : Nat → V7 → V11 → V7 → Int → Option R
  | 0, _, _, _, _ => none
  | m + 1, x0, x1, x2, x3 => (g19_17 x0 x1 x2 x3 (fun y0 y1 y2 y3 => l19_18 k0 m y0 y1 y2 y3) k0)
theorem lt19_18 : ∀ (m) (x0 x1 x2 x3), iter [10, 12, 14, 15] (fun env K => exec cl N c19_17 env K) K m (e256 x0 x1 x2 x3) = l19_18 (fun y0 y1 y2 y3 => K (.exit 0) (e256 y0 y1 y2 y3)) m x0 x1 x2 x3 := by
  intro m
  induction m with
  | zero => intros; rfl
  | succ m ih =>
    intro x0 x1 x2 x3
    simp only [iter_succ, t19_17, loopK_normal, loopK_exit, loopK_ret, kp19_3, ih]
    rfl
theorem kp19_6 (x0 x1 x2 x3) : keep [10, 14] (e256 x0 x1 x2 x3) = (e259 x0 x2) := by kernel_rfl
def g19_18 (N : Nat) (x0 : V7) (x1 : V11) (x2 : V7) (x3 : Int) (k0 : V7 → V7 → Option R) : Option R :=
l19_18 (fun y0 y1 y2 y3 => k0 y0 y2) N x0 x1 x2 x3
theorem t19_18 (x0 x1 x2 x3) : exec cl N c19_18 (e256 x0 x1 x2 x3) K = (g19_18 N x0 x1 x2 x3 (fun y0 y1 => K (.exit 0) (e259 y0 y1))) := by
  simp only [c19_18, exec_out, exec_loop, kp19_3, lt19_18, kp19_6]
  rfl
theorem kp19_7 (x0 x1) : keep [10, 14] (e259 x0 x1) = (e259 x0 x1) := by kernel_rfl
def g19_20 (x0 x1 : V7) (k0 : V7 → Int → Option R) : Option R :=
k0 x1 (0 : Int)
theorem t19_20 (x0 x1) : exec cl N c19_20 (e259 x0 x1) K = (g19_20 x0 x1 (fun y0 y1 => K .normal (e249 y0 y1))) := by
  kernel_rfl
def g19_21 (N : Nat) (S17 : V28 → V1 → V1 → V20 → V20 → Option V17) (x0 : V28) (x1 x2 : V1) (x3 x4 : V20) (k0 : V7 → Int → Option R) (k1 : V7 → Int → Option R) : Option R :=
(g19_0 x0 x1 x2 x3 x4 (fun y0 y1 y2 y3 y4 y5 => (g19_1 S17 y0 y1 y2 y3 y4 y5 (fun y0 y1 y2 => (g19_2 y0 y1 y2 (fun y0 y1 y2 y3 => brB y3 (g19_3 y0 y1 y2 y3 (fun y0 y1 => ((fun y0 y1 => (k0 y0 y1)) y0 y1))) ((fun y0 y1 => (g19_5 y0 y1 (fun y0 y1 y2 => brB y2 (g19_6 y0 y1 y2 (fun y0 y1 => ((fun y0 y1 => (k0 y0 y1)) y0 y1))) ((fun y0 y1 => (g19_8 y0 y1 (fun y0 y1 y2 => (g19_9 y0 y1 y2 (fun y0 y1 y2 y3 => (g19_18 N y0 y1 y2 y3 (fun y0 y1 => ((fun y0 y1 => (g19_20 y0 y1 (fun y0 y1 => (k1 y0 y1)))) y0 y1)))))))) y0 y1)))) y0 y1)))))))
theorem t19_21 (S17) (h17 : (ctr17 S17).holds cl) (x0 x1 x2 x3 x4) : exec cl N c19_21 (e146 x0 x1 x2 x3 x4) K = (g19_21 N S17 x0 x1 x2 x3 x4 (fun y0 y1 => K .ret (e250 y0 y1)) (fun y0 y1 => K .ret (e249 y0 y1))) := by
  simp only [c19_21, exec_seq, seqK_normal, seqK_exit, seqK_ret, t19_0, t19_1 S17 h17, t19_2, c19_4, exec_out, exec_cond', hb19_0, Option.bind_some, brB_true, brB_false, t19_3, exec_ret, exec_skip, kp19_0, kp19_1, t19_5, c19_7, hb19_1, t19_6, kp19_2, t19_8, t19_9, c19_19, exec_block, t19_18, blockK_normal, blockK_ret, blockK_eq, kp19_7, t19_20]
  rfl
theorem rk19_0 (y0 y1) : retK d19 .ret (e250 y0 y1) = some [.v U15 y0, .v U2 y1] := by kernel_rfl
theorem rk19_1 (y0 y1) : retK d19 .ret (e249 y0 y1) = some [.v U15 y0, .v U2 y1] := by kernel_rfl
def g19 (N : Nat) (S17 : V28 → V1 → V1 → V20 → V20 → Option V17) (x0 : V28) (x1 x2 : V1) (x3 x4 : V20) (k : V7 → Int → Option R) : Option R :=
(g19_21 N S17 x0 x1 x2 x3 x4 (fun y0 y1 => k y0 y1) (fun y0 y1 => k y0 y1))
theorem gen19 {N : Nat} {cl : Cal} (S17 : V28 → V1 → V1 → V20 → V20 → Option V17) (h17 : (ctr17 S17).holds cl) (x0 : V28) (x1 : V1) (x2 : V1) (x3 : V20) (x4 : V20) {R : Type} (k : List E → Option R) : exec cl N c19 (params 0 [.v U27 x0, .v .str x1, .v .str x2, .v U21 x3, .v U21 x4]) (fun e env => (retK d19 e env).bind k) = g19 N S17 x0 x1 x2 x3 x4 (fun (r0 : V7) (r1 : Int) => k [.v U15 r0, .v U2 r1]) := by
  have e0 : params 0 [.v U27 x0, .v .str x1, .v .str x2, .v U21 x3, .v U21 x4] = (e146 x0 x1 x2 x3 x4) := by kernel_rfl
  simp only [c19, e0, t19_21 S17 h17, rk19_0, rk19_1, Option.bind_some]
  rfl
def ctr19 (S : V28 → V1 → V1 → V20 → V20 → Option V14) : Ctr := { A := V28 × V1 × V1 × V20 × V20 × Unit, B := V7 × Int, f := 19, enc := fun a => [.v U27 a.1, .v .str a.2.1, .v .str a.2.2.1, .v U21 a.2.2.2.1, .v U21 a.2.2.2.2.1], dec := (decC (decV U27) (decC (decV .str) (decC (decV .str) (decC (decV U21) (decC (decV U21) dec0))))), S := fun a => S a.1 a.2.1 a.2.2.1 a.2.2.2.1 a.2.2.2.2.1, ent := fun b => [.v U15 b.1, .v U2 b.2], ok := (decV_cons (T := U27) (decV_cons (T := .str) (decV_cons (T := .str) (decV_cons (T := U21) (decV_cons (T := U21) (fun es b h => dec0_some h)))))) }
def S19 (N : Nat) (x0 : V28) (x1 : V1) (x2 : V1) (x3 : V20) (x4 : V20) : Option V14 := g19 N (S17 N) x0 x1 x2 x3 x4 (fun (r0 : V7) (r1 : Int) => some (r0, r1))
def g20_0 (x0 x1 : V11) (k0 : V11 → V11 → Option R) : Option R :=
k0 x0 x1
theorem t20_0 (x0 x1) : exec cl N c20_0 (e260 x0 x1) K = (g20_0 x0 x1 (fun y0 y1 => K .normal (e260 y0 y1))) := by
  kernel_rfl
def g20_1 (x0 x1 : V11) (k0 : V11 → V11 → Bool → Option R) : Option R :=
k0 x0 x1 ((x0.length : Int) != (x1.length : Int))
theorem t20_1 (x0 x1) : exec cl N c20_1 (e260 x0 x1) K = (g20_1 x0 x1 (fun y0 y1 y2 => K .normal (e261 y0 y1 y2))) := by
  kernel_rfl
def g20_2 (x0 x1 : V11) (x2 : Bool) (k0 : Bool → Option R) : Option R :=
k0 false
theorem t20_2 (x0 x1 x2) : exec cl N c20_2 (e261 x0 x1 x2) K = (g20_2 x0 x1 x2 (fun y0 => K .normal [(4, .v .bool y0)])) := by
  kernel_rfl
theorem kp20_0 (x0) : keep [0, 1, 4] [(4, .v .bool x0)] = (e262 x0) := by kernel_rfl
theorem kp20_1 (x0 x1 x2) : keep [0, 1, 4] (e261 x0 x1 x2) = [(0, .v U16 x0), (1, .v U16 x1), (4, .dead)] := by kernel_rfl
theorem hb20_0 (x0 x1 x2) : boolOf? (ent (e261 x0 x1 x2) (.t 10)) = some x2 := by kernel_rfl
def g20_4 (x0 x1 : V11) (k0 : V11 → V11 → Int → Option R) : Option R :=
k0 x0 x1 (0 : Int)
theorem t20_4 (x0 x1) : exec cl N c20_4 [(0, .v U16 x0), (1, .v U16 x1), (4, .dead)] K = (g20_4 x0 x1 (fun y0 y1 y2 => K .normal (e263 y0 y1 y2))) := by
  kernel_rfl
theorem kp20_2 (x0 x1 x2) : keep [0, 1, 5] (e263 x0 x1 x2) = (e263 x0 x1 x2) := by kernel_rfl
def g20_5 (x0 x1 : V11) (x2 : Int) (k0 : V11 → V11 → Int → Bool → Option R) : Option R :=
k0 x0 x1 x2 (decide (x2 < (x0.length : Int)))
theorem t20_5 (x0 x1 x2) : exec cl N c20_5 (e263 x0 x1 x2) K = (g20_5 x0 x1 x2 (fun y0 y1 y2 y3 => K .normal (e264 y0 y1 y2 y3))) := by
  kernel_rfl
theorem kp20_3 (x0 x1 x2 x3) : keep [0, 1, 5] (e264 x0 x1 x2 x3) = (e263 x0 x1 x2) := by kernel_rfl
theorem hb20_1 (x0 x1 x2 x3) : boolOf? (ent (e264 x0 x1 x2 x3) (.t 14)) = some x3 := by kernel_rfl
def g20_7 (x0 x1 : V11) (x2 : Int) (k0 : V11 → V11 → Int → Bool → Option R) : Option R :=
if 0 ≤ x2 ∧ x2 < (x0.length : Int) then
if 0 ≤ x2 ∧ x2 < (x1.length : Int) then
k0 x0 x1 x2 (!(((x0.getD x2.toNat ((0 : Int), ((0 : Int), ()))).1 == (x1.getD x2.toNat ((0 : Int), ((0 : Int), ()))).1) && (((x0.getD x2.toNat ((0 : Int), ((0 : Int), ()))).2.1 == (x1.getD x2.toNat ((0 : Int), ((0 : Int), ()))).2.1) && true)))
else none
else none
theorem t20_7 (x0 x1 x2) : exec cl N c20_7 (e263 x0 x1 x2) K = (g20_7 x0 x1 x2 (fun y0 y1 y2 y3 => K .normal (e265 y0 y1 y2 y3))) := by
  kernel_rfl
def g20_8 (x0 x1 : V11) (x2 : Int) (x3 : Bool) (k0 : Bool → Option R) : Option R :=
k0 false
theorem t20_8 (x0 x1 x2 x3) : exec cl N c20_8 (e265 x0 x1 x2 x3) K = (g20_8 x0 x1 x2 x3 (fun y0 => K .normal [(4, .v .bool y0)])) := by
  kernel_rfl
theorem kp20_4 (x0) : keep [0, 1, 4, 5] [(4, .v .bool x0)] = (e186 x0) := by kernel_rfl
theorem kp20_5 (x0 x1 x2 x3) : keep [0, 1, 4, 5] (e265 x0 x1 x2 x3) = (e266 x0 x1 x2) := by kernel_rfl
theorem hb20_2 (x0 x1 x2 x3) : boolOf? (ent (e265 x0 x1 x2 x3) (.t 25)) = some x3 := by kernel_rfl
theorem kp20_6 (x0) : keep [0, 1, 4, 5] (e186 x0) = (e186 x0) := by kernel_rfl
theorem kp20_7 (x0 x1 x2) : keep [0, 1, 4, 5] (e266 x0 x1 x2) = (e266 x0 x1 x2) := by kernel_rfl
def g20_11 (x0 x1 : V11) (x2 : Int) (k0 : V11 → V11 → Int → Option R) : Option R :=
k0 x0 x1 (IntKind.i64.wrap (x2 + (1 : Int)))
theorem t20_11 (x0 x1 x2) : exec cl N c20_11 (e266 x0 x1 x2) K = (g20_11 x0 x1 x2 (fun y0 y1 y2 => K .normal (e263 y0 y1 y2))) := by
  kernel_rfl
def g20_12 (x0 x1 : V11) (x2 : Int) (k0 : Bool → Option R) (k1 : V11 → V11 → Int → Option R) (k2 : V11 → V11 → Int → Option R) : Option R :=
(g20_5 x0 x1 x2 (fun y0 y1 y2 y3 => brB y3 ((fun y0 y1 y2 => (g20_7 y0 y1 y2 (fun y0 y1 y2 y3 => brB y3 (g20_8 y0 y1 y2 y3 (fun y0 => ((fun y0 => (k0 y0)) y0))) (g20_11 y0 y1 y2 k1)))) y0 y1 y2) (k2 y0 y1 y2)))
theorem t20_12 (x0 x1 x2) : exec cl N c20_12 (e263 x0 x1 x2) K = (g20_12 x0 x1 x2 (fun y0 => K .ret (e186 y0)) (fun y0 y1 y2 => K .normal (e263 y0 y1 y2)) (fun y0 y1 y2 => K (.exit 0) (e263 y0 y1 y2))) := by
  simp only [c20_12, exec_seq, seqK_normal, seqK_exit, seqK_ret, t20_5, c20_6, exec_out, exec_cond', hb20_1, Option.bind_some, brB_true, brB_false, exec_skip, exec_exit, kp20_3, c20_10, exec_block, t20_7, c20_9, hb20_2, t20_8, exec_ret, kp20_4, kp20_5, blockK_normal, blockK_ret, blockK_eq, kp20_6, kp20_7, t20_11]
  rfl
def l20_13 {R : Type} (k0 : Bool → Option R) (k1 : V11 → V11 → Int → Option R) : Nat → V11 → V11 → Int → Option R
  | 0, _, _, _ => none
  | m + 1, x0, x1, x2 => (g20_12 x0 x1 x2 k0 (fun y0 y1 y2 => l20_13 k0 k1 m y0 y1 y2) k1)
theorem lt20_13 : ∀ (m) (x0 x1 x2), iter [0, 1, 5] (fun env K => exec cl N c20_12 env K) K m (e263 x0 x1 x2) = l20_13 (fun y0 => K .ret (e186 y0)) (fun y0 y1 y2 => K (.exit 0) (e263 y0 y1 y2)) m x0 x1 x2 := by
  intro m
  induction m with
  | zero => intros; rfl
  | succ m ih =>
    intro x0 x1 x2
    simp only [iter_succ, t20_12, loopK_normal, loopK_exit, loopK_ret, kp20_2, ih]
    rfl
theorem kp20_8 (x0) : keep [4] (e186 x0) = [(4, .v .bool x0)] := by kernel_rfl
theorem kp20_9 (x0 x1 x2) : keep [4] (e263 x0 x1 x2) = [(4, .dead)] := by kernel_rfl
def g20_13 (N : Nat) (x0 x1 : V11) (x2 : Int) (k0 : Bool → Option R) (k1 : Option R) : Option R :=
l20_13 (fun y0 => k0 y0) (fun y0 y1 y2 => k1) N x0 x1 x2
theorem t20_13 (x0 x1 x2) : exec cl N c20_13 (e263 x0 x1 x2) K = (g20_13 N x0 x1 x2 (fun y0 => K .ret [(4, .v .bool y0)]) (K (.exit 0) [(4, .dead)])) := by
  simp only [c20_13, exec_out, exec_loop, kp20_2, lt20_13, kp20_8, kp20_9]
  rfl
theorem kp20_10 (x0) : keep [4] [(4, .v .bool x0)] = [(4, .v .bool x0)] := by kernel_rfl
theorem kp20_11 : keep [4] [(4, .dead)] = [(4, .dead)] := by kernel_rfl
def g20_15 (k0 : Bool → Option R) : Option R :=
k0 true
theorem t20_15 : exec cl N c20_15 [(4, .dead)] K = (g20_15 (fun y0 => K .normal [(4, .v .bool y0)])) := by
  kernel_rfl
def g20_16 (N : Nat) (x0 x1 : V11) (k0 : Bool → Option R) (k1 : Bool → Option R) : Option R :=
(g20_0 x0 x1 (fun y0 y1 => (g20_1 y0 y1 (fun y0 y1 y2 => brB y2 (g20_2 y0 y1 y2 (fun y0 => ((fun y0 => (k0 y0)) y0))) ((fun y0 y1 => (g20_4 y0 y1 (fun y0 y1 y2 => (g20_13 N y0 y1 y2 (fun y0 => (k1 y0)) (g20_15 (fun y0 => (k1 y0))))))) y0 y1)))))
theorem t20_16 (x0 x1) : exec cl N c20_16 (e260 x0 x1) K = (g20_16 N x0 x1 (fun y0 => K .ret (e262 y0)) (fun y0 => K .ret [(4, .v .bool y0)])) := by
  simp only [c20_16, exec_seq, seqK_normal, seqK_exit, seqK_ret, t20_0, t20_1, c20_3, exec_out, exec_cond', hb20_0, Option.bind_some, brB_true, brB_false, t20_2, exec_ret, exec_skip, kp20_0, kp20_1, t20_4, c20_14, exec_block, t20_13, blockK_normal, blockK_ret, blockK_eq, kp20_10, kp20_11, t20_15]
  rfl
theorem rk20_0 (y0) : retK d20 .ret (e262 y0) = some [.v .bool y0] := by kernel_rfl
theorem rk20_1 (y0) : retK d20 .ret [(4, .v .bool y0)] = some [.v .bool y0] := by kernel_rfl
def g20 (N : Nat) (x0 x1 : V11) (k : Bool → Option R) : Option R :=
(g20_16 N x0 x1 (fun y0 => k y0) (fun y0 => k y0))
theorem gen20 {N : Nat} {cl : Cal} (x0 : V11) (x1 : V11) {R : Type} (k : List E → Option R) : exec cl N c20 (params 0 [.v U16 x0, .v U16 x1]) (fun e env => (retK d20 e env).bind k) = g20 N x0 x1 (fun (r0 : Bool) => k [.v .bool r0]) := by
  have e0 : params 0 [.v U16 x0, .v U16 x1] = (e260 x0 x1) := by kernel_rfl
  simp only [c20, e0, t20_16, rk20_0, rk20_1, Option.bind_some]
  rfl
def ctr20 (S : V11 → V11 → Option (Bool)) : Ctr := { A := V11 × V11 × Unit, B := Bool, f := 20, enc := fun a => [.v U16 a.1, .v U16 a.2.1], dec := (decC (decV U16) (decC (decV U16) dec0)), S := fun a => S a.1 a.2.1, ent := fun b => [.v .bool b], ok := (decV_cons (T := U16) (decV_cons (T := U16) (fun es b h => dec0_some h))) }
def S20 (N : Nat) (x0 : V11) (x1 : V11) : Option (Bool) := g20 N x0 x1 (fun (r0 : Bool) => some (r0))
def g4_0 (x0 : V28) (x1 : V31) (k0 : V28 → V31 → Option R) : Option R :=
k0 x0 x1
theorem t4_0 (x0 x1) : exec cl N c4_0 [(0, .v U27 x0), (1, .v U32 x1)] K = (g4_0 x0 x1 (fun y0 y1 => K .normal [(2, .loc U27 .no y0), (3, .loc U32 .no y1)])) := by
  kernel_rfl
def g4_1 (S6 : Option (Bool)) (S14 : V28 → Option (Bool)) (S15 : V31 → Option (Bool)) (x0 : V28) (x1 : V31) (k0 : V28 → V31 → Bool → Option R) : Option R :=
(S6).bind fun r823 =>
brB (!r823) (k0 x0 x1 true) ((S14 x0).bind fun r824 =>
brB (!r824) (k0 x0 x1 true) ((S15 x1).bind fun r825 =>
k0 x0 x1 (!r825)))
theorem t4_1 (S6) (S14) (S15) (h6 : (ctr6 S6).holds cl) (h14 : (ctr14 S14).holds cl) (h15 : (ctr15 S15).holds cl) (x0 x1) : exec cl N c4_1 [(2, .loc U27 .no x0), (3, .loc U32 .no x1)] K = (g4_1 S6 S14 S15 x0 x1 (fun y0 y1 y2 => K .normal (e267 y0 y1 y2))) := by
  rw [← put_eq h6]
  rw [← put_eq h14]
  rw [← put_eq h15]
  kernel_rfl
def g4_2 (S6 : Option (Bool)) (x0 : V28) (x1 : V31) (x2 : Bool) (k0 : Bool → Option R) : Option R :=
(S6).bind fun r826 =>
k0 r826
theorem t4_2 (S6) (h6 : (ctr6 S6).holds cl) (x0 x1 x2) : exec cl N c4_2 (e267 x0 x1 x2) K = (g4_2 S6 x0 x1 x2 (fun y0 => K .normal [(4, .v .bool y0)])) := by
  rw [← put_eq h6]
  kernel_rfl
theorem kp4_0 (x0) : keep [2, 3, 4] [(4, .v .bool x0)] = (e268 x0) := by kernel_rfl
theorem kp4_1 (x0 x1 x2) : keep [2, 3, 4] (e267 x0 x1 x2) = [(2, .loc U27 .no x0), (3, .loc U32 .no x1), (4, .dead)] := by kernel_rfl
theorem hb4_0 (x0 x1 x2) : boolOf? (ent (e267 x0 x1 x2) (.t 24)) = some x2 := by kernel_rfl
def g4_4 (S9 : V20 → Option V22) (S16 : V28 → V1 → V1 → V20 → V20 → Option V17) (x0 : V28) (x1 : V31) (k0 : V28 → V31 → V11 → Int → Option R) : Option R :=
(S9 x1.2.2.1).bind fun r827 =>
(S9 x1.2.2.2.1).bind fun r828 =>
(S16 x0 x1.1 x1.2.1 r827 r828).bind fun r829 =>
k0 x0 x1 r829.1 r829.2
theorem t4_4 (S9) (S16) (h9 : (ctr9 S9).holds cl) (h16 : (ctr16 S16).holds cl) (x0 x1) : exec cl N c4_4 [(2, .loc U27 .no x0), (3, .loc U32 .no x1), (4, .dead)] K = (g4_4 S9 S16 x0 x1 (fun y0 y1 y2 y3 => K .normal [(2, .loc U27 .no y0), (3, .loc U32 .no y1), (5, .v U16 y2), (6, .v U2 y3)])) := by
  rw [← put_eq h9]
  rw [← put_eq h16]
  kernel_rfl
def g4_5 (S17 : V28 → V1 → V1 → V20 → V20 → Option V17) (x0 : V28) (x1 : V31) (x2 : V11) (x3 : Int) (k0 : V28 → V31 → V11 → Int → V11 → Int → Option R) : Option R :=
(S17 x0 x1.1 x1.2.1 x1.2.2.1 x1.2.2.2.1).bind fun r830 =>
k0 x0 x1 x2 x3 r830.1 r830.2
theorem t4_5 (S17) (h17 : (ctr17 S17).holds cl) (x0 x1 x2 x3) : exec cl N c4_5 [(2, .loc U27 .no x0), (3, .loc U32 .no x1), (5, .v U16 x2), (6, .v U2 x3)] K = (g4_5 S17 x0 x1 x2 x3 (fun y0 y1 y2 y3 y4 y5 => K .normal (e269 y0 y1 y2 y3 y4 y5))) := by
  rw [← put_eq h17]
  kernel_rfl
def g4_6 (S9 : V20 → Option V22) (S18 : V28 → V1 → V1 → V20 → V20 → Option V14) (x0 : V28) (x1 : V31) (x2 : V11) (x3 : Int) (x4 : V11) (x5 : Int) (k0 : V28 → V31 → V11 → Int → V11 → Int → V7 → Int → Option R) : Option R :=
(S9 x1.2.2.1).bind fun r831 =>
(S9 x1.2.2.2.1).bind fun r832 =>
(S18 x0 x1.1 x1.2.1 r831 r832).bind fun r833 =>
k0 x0 x1 x2 x3 x4 x5 r833.1 r833.2
theorem t4_6 (S9) (S18) (h9 : (ctr9 S9).holds cl) (h18 : (ctr18 S18).holds cl) (x0 x1 x2 x3 x4 x5) : exec cl N c4_6 (e269 x0 x1 x2 x3 x4 x5) K = (g4_6 S9 S18 x0 x1 x2 x3 x4 x5 (fun y0 y1 y2 y3 y4 y5 y6 y7 => K .normal (e270 y0 y1 y2 y3 y4 y5 y6 y7))) := by
  rw [← put_eq h9]
  rw [← put_eq h18]
  kernel_rfl
def g4_7 (S19 : V28 → V1 → V1 → V20 → V20 → Option V14) (x0 : V28) (x1 : V31) (x2 : V11) (x3 : Int) (x4 : V11) (x5 : Int) (x6 : V7) (x7 : Int) (k0 : V11 → Int → V11 → Int → V7 → Int → V7 → Int → Option R) : Option R :=
(S19 x0 x1.1 x1.2.1 x1.2.2.1 x1.2.2.2.1).bind fun r834 =>
k0 x2 x3 x4 x5 x6 x7 r834.1 r834.2
theorem t4_7 (S19) (h19 : (ctr19 S19).holds cl) (x0 x1 x2 x3 x4 x5 x6 x7) : exec cl N c4_7 (e270 x0 x1 x2 x3 x4 x5 x6 x7) K = (g4_7 S19 x0 x1 x2 x3 x4 x5 x6 x7 (fun y0 y1 y2 y3 y4 y5 y6 y7 => K .normal (e271 y0 y1 y2 y3 y4 y5 y6 y7))) := by
  rw [← put_eq h19]
  kernel_rfl
def g4_8 (S20 : V11 → V11 → Option (Bool)) (x0 : V11) (x1 : Int) (x2 : V11) (x3 : Int) (x4 : V7) (x5 : Int) (x6 : V7) (x7 : Int) (k0 : Bool → Option R) : Option R :=
brB (x1 == x3) ((S20 x0 x2).bind fun r835 =>
brB r835 (brB (x5 == x7) (k0 ((x4.1 == x6.1) && ((x4.2.1 == x6.2.1) && true))) (k0 false)) (k0 false)) (k0 false)
theorem t4_8 (S20) (h20 : (ctr20 S20).holds cl) (x0 x1 x2 x3 x4 x5 x6 x7) : exec cl N c4_8 (e271 x0 x1 x2 x3 x4 x5 x6 x7) K = (g4_8 S20 x0 x1 x2 x3 x4 x5 x6 x7 (fun y0 => K .normal [(4, .v .bool y0)])) := by
  rw [← put_eq h20]
  kernel_rfl
def g4_9 (S6 : Option (Bool)) (S9 : V20 → Option V22) (S14 : V28 → Option (Bool)) (S15 : V31 → Option (Bool)) (S16 : V28 → V1 → V1 → V20 → V20 → Option V17) (S17 : V28 → V1 → V1 → V20 → V20 → Option V17) (S18 : V28 → V1 → V1 → V20 → V20 → Option V14) (S19 : V28 → V1 → V1 → V20 → V20 → Option V14) (S20 : V11 → V11 → Option (Bool)) (x0 : V28) (x1 : V31) (k0 : Bool → Option R) (k1 : Bool → Option R) : Option R :=
(g4_0 x0 x1 (fun y0 y1 => (g4_1 S6 S14 S15 y0 y1 (fun y0 y1 y2 => brB y2 (g4_2 S6 y0 y1 y2 (fun y0 => ((fun y0 => (k0 y0)) y0))) ((fun y0 y1 => (g4_4 S9 S16 y0 y1 (fun y0 y1 y2 y3 => (g4_5 S17 y0 y1 y2 y3 (fun y0 y1 y2 y3 y4 y5 => (g4_6 S9 S18 y0 y1 y2 y3 y4 y5 (fun y0 y1 y2 y3 y4 y5 y6 y7 => (g4_7 S19 y0 y1 y2 y3 y4 y5 y6 y7 (fun y0 y1 y2 y3 y4 y5 y6 y7 => (g4_8 S20 y0 y1 y2 y3 y4 y5 y6 y7 (fun y0 => (k1 y0)))))))))))) y0 y1)))))
theorem t4_9 (S6) (S9) (S14) (S15) (S16) (S17) (S18) (S19) (S20) (h6 : (ctr6 S6).holds cl) (h9 : (ctr9 S9).holds cl) (h14 : (ctr14 S14).holds cl) (h15 : (ctr15 S15).holds cl) (h16 : (ctr16 S16).holds cl) (h17 : (ctr17 S17).holds cl) (h18 : (ctr18 S18).holds cl) (h19 : (ctr19 S19).holds cl) (h20 : (ctr20 S20).holds cl) (x0 x1) : exec cl N c4_9 [(0, .v U27 x0), (1, .v U32 x1)] K = (g4_9 S6 S9 S14 S15 S16 S17 S18 S19 S20 x0 x1 (fun y0 => K .ret (e268 y0)) (fun y0 => K .ret [(4, .v .bool y0)])) := by
  simp only [c4_9, exec_seq, seqK_normal, seqK_exit, seqK_ret, t4_0, t4_1 S6 S14 S15 h6 h14 h15, c4_3, exec_out, exec_cond', hb4_0, Option.bind_some, brB_true, brB_false, t4_2 S6 h6, exec_ret, exec_skip, kp4_0, kp4_1, t4_4 S9 S16 h9 h16, t4_5 S17 h17, t4_6 S9 S18 h9 h18, t4_7 S19 h19, t4_8 S20 h20]
  rfl
theorem rk4_0 (y0) : retK d4 .ret (e268 y0) = some [.v .bool y0] := by kernel_rfl
theorem rk4_1 (y0) : retK d4 .ret [(4, .v .bool y0)] = some [.v .bool y0] := by kernel_rfl
def g4 (S6 : Option (Bool)) (S9 : V20 → Option V22) (S14 : V28 → Option (Bool)) (S15 : V31 → Option (Bool)) (S16 : V28 → V1 → V1 → V20 → V20 → Option V17) (S17 : V28 → V1 → V1 → V20 → V20 → Option V17) (S18 : V28 → V1 → V1 → V20 → V20 → Option V14) (S19 : V28 → V1 → V1 → V20 → V20 → Option V14) (S20 : V11 → V11 → Option (Bool)) (x0 : V28) (x1 : V31) (k : Bool → Option R) : Option R :=
(g4_9 S6 S9 S14 S15 S16 S17 S18 S19 S20 x0 x1 (fun y0 => k y0) (fun y0 => k y0))
theorem gen4 {N : Nat} {cl : Cal} (S6 : Option (Bool)) (S9 : V20 → Option V22) (S14 : V28 → Option (Bool)) (S15 : V31 → Option (Bool)) (S16 : V28 → V1 → V1 → V20 → V20 → Option V17) (S17 : V28 → V1 → V1 → V20 → V20 → Option V17) (S18 : V28 → V1 → V1 → V20 → V20 → Option V14) (S19 : V28 → V1 → V1 → V20 → V20 → Option V14) (S20 : V11 → V11 → Option (Bool)) (h6 : (ctr6 S6).holds cl) (h9 : (ctr9 S9).holds cl) (h14 : (ctr14 S14).holds cl) (h15 : (ctr15 S15).holds cl) (h16 : (ctr16 S16).holds cl) (h17 : (ctr17 S17).holds cl) (h18 : (ctr18 S18).holds cl) (h19 : (ctr19 S19).holds cl) (h20 : (ctr20 S20).holds cl) (x0 : V28) (x1 : V31) {R : Type} (k : List E → Option R) : exec cl N c4 (params 0 [.v U27 x0, .v U32 x1]) (fun e env => (retK d4 e env).bind k) = g4 S6 S9 S14 S15 S16 S17 S18 S19 S20 x0 x1 (fun (r0 : Bool) => k [.v .bool r0]) := by
  have e0 : params 0 [.v U27 x0, .v U32 x1] = [(0, .v U27 x0), (1, .v U32 x1)] := by kernel_rfl
  simp only [c4, e0, t4_9 S6 S9 S14 S15 S16 S17 S18 S19 S20 h6 h9 h14 h15 h16 h17 h18 h19 h20, rk4_0, rk4_1, Option.bind_some]
  rfl
def ctr4 (S : V28 → V31 → Option (Bool)) : Ctr := { A := V28 × V31 × Unit, B := Bool, f := 4, enc := fun a => [.v U27 a.1, .v U32 a.2.1], dec := (decC (decV U27) (decC (decV U32) dec0)), S := fun a => S a.1 a.2.1, ent := fun b => [.v .bool b], ok := (decV_cons (T := U27) (decV_cons (T := U32) (fun es b h => dec0_some h))) }
def S4 (N : Nat) (x0 : V28) (x1 : V31) : Option (Bool) := g4 (S6 N) (S9 N) (S14 N) (S15 N) (S16 N) (S17 N) (S18 N) (S19 N) (S20 N) x0 x1 (fun (r0 : Bool) => some (r0))
end Go.Fw.L19
