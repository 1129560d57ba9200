/- Printed by an own program for this claim: the machine's code of functions, or their typed forms with their equations; no conditions. -/
import Derived.Test.YtggppceiapjadaaGreatFwMj19a
import Derived.Test.YtggppceiapjadaaGreatFwB1
set_option linter.unusedVariables false
set_option linter.unusedSimpArgs false
namespace Go.Fw.L19
open Go Go.Fw
set_option maxRecDepth 100000
set_option linter.unusedVariables false
set_option linter.unusedSimpArgs false
variable {N : Nat} {cl : Cal} {R : Type} {K : KE R}
def g63_0 (x0 : V21) (x1 : V1) (k0 : V1 → V21 → Option R) : Option R :=
k0 x1 x0
theorem t63_0 (x0 x1) : exec cl N c63_0 [(0, .v U20 x0), (1, .v .str x1)] K = (g63_0 x0 x1 (fun y0 y1 => K .normal [(1, .v .str y0), (2, .loc U20 .no y1)])) := by
  kernel_rfl
def g63_1 (S84 : V6 → V1 → Option (Bool)) (x0 : V1) (x1 : V21) (k0 : Bool → Option R) : Option R :=
brB ((x1.2.2.1.length : Int) == (0 : Int)) (k0 true) ((S84 x1.2.2.1 x0).bind fun r408 =>
k0 r408)
theorem t63_1 (S84) (h84 : (ctr84 S84).holds cl) (x0 x1) : exec cl N c63_1 [(1, .v .str x0), (2, .loc U20 .no x1)] K = (g63_1 S84 x0 x1 (fun y0 => K .normal [(4, .v .bool y0)])) := by
  rw [← put_eq h84]
  kernel_rfl
def g63_2 (S84 : V6 → V1 → Option (Bool)) (x0 : V21) (x1 : V1) (k0 : Bool → Option R) : Option R :=
(g63_0 x0 x1 (fun y0 y1 => (g63_1 S84 y0 y1 (fun y0 => (k0 y0)))))
theorem t63_2 (S84) (h84 : (ctr84 S84).holds cl) (x0 x1) : exec cl N c63_2 [(0, .v U20 x0), (1, .v .str x1)] K = (g63_2 S84 x0 x1 (fun y0 => K .ret [(4, .v .bool y0)])) := by
  simp only [c63_2, exec_seq, seqK_normal, seqK_exit, seqK_ret, t63_0, t63_1 S84 h84, exec_ret]
  rfl
theorem rk63_0 (y0) : retK d63 .ret [(4, .v .bool y0)] = some [.v .bool y0] := by kernel_rfl
def g63 (S84 : V6 → V1 → Option (Bool)) (x0 : V21) (x1 : V1) (k : Bool → Option R) : Option R :=
(g63_2 S84 x0 x1 (fun y0 => k y0))
theorem gen63 {N : Nat} {cl : Cal} (S84 : V6 → V1 → Option (Bool)) (h84 : (ctr84 S84).holds cl) (x0 : V21) (x1 : V1) {R : Type} (k : List E → Option R) : exec cl N c63 (params 0 [.v U20 x0, .v .str x1]) (fun e env => (retK d63 e env).bind k) = g63 S84 x0 x1 (fun (r0 : Bool) => k [.v .bool r0]) := by
  have e0 : params 0 [.v U20 x0, .v .str x1] = [(0, .v U20 x0), (1, .v .str x1)] := by kernel_rfl
  simp only [c63, e0, t63_2 S84 h84, rk63_0, Option.bind_some]
  rfl
def ctr63 (S : V21 → V1 → Option (Bool)) : Ctr := { A := V21 × V1 × Unit, B := Bool, f := 63, enc := fun a => [.v U20 a.1, .v .str a.2.1], dec := (decC (decV U20) (decC (decV .str) dec0)), S := fun a => S a.1 a.2.1, ent := fun b => [.v .bool b], ok := (decV_cons (T := U20) (decV_cons (T := .str) (fun es b h => dec0_some h))) }
def S63 (N : Nat) (x0 : V21) (x1 : V1) : Option (Bool) := g63 (S84 N) x0 x1 (fun (r0 : Bool) => some (r0))
def g35_0 (x0 : V28) (x1 : Int) (x2 : V1) (k0 : Int → V1 → V28 → Option R) : Option R :=
k0 x1 x2 x0
theorem t35_0 (x0 x1 x2) : exec cl N c35_0 (e137 x0 x1 x2) K = (g35_0 x0 x1 x2 (fun y0 y1 y2 => K .normal (e138 y0 y1 y2))) := by
  kernel_rfl
def g35_1 (S62 : V1 → Option V5) (x0 : Int) (x1 : V1) (x2 : V28) (k0 : Int → V1 → V28 → Option R) : Option R :=
(S62 x1).bind fun r412 =>
k0 x0 r412 x2
theorem t35_1 (S62) (h62 : (ctr62 S62).holds cl) (x0 x1 x2) : exec cl N c35_1 (e138 x0 x1 x2) K = (g35_1 S62 x0 x1 x2 (fun y0 y1 y2 => K .normal (e138 y0 y1 y2))) := by
  rw [← put_eq h62]
  kernel_rfl
def g35_2 (x0 : Int) (x1 : V1) (x2 : V28) (k0 : Int → V1 → V28 → Int → Bool → Option R) : Option R :=
k0 x0 x1 x2 (0 : Int) false
theorem t35_2 (x0 x1 x2) : exec cl N c35_2 (e138 x0 x1 x2) K = (g35_2 x0 x1 x2 (fun y0 y1 y2 y3 y4 => K .normal (e139 y0 y1 y2 y3 y4))) := by
  kernel_rfl
def g35_3 (x0 : Int) (x1 : V1) (x2 : V28) (x3 : Int) (x4 : Bool) (k0 : Int → V1 → Int → Bool → V23 → Int → Int → Option R) : Option R :=
k0 x0 x1 x3 x4 x2.2.1 (x2.2.1.length : Int) (0 : Int)
theorem t35_3 (x0 x1 x2 x3 x4) : exec cl N c35_3 (e139 x0 x1 x2 x3 x4) K = (g35_3 x0 x1 x2 x3 x4 (fun y0 y1 y2 y3 y4 y5 y6 => K .normal (e140 y0 y1 y2 y3 y4 y5 y6))) := by
  kernel_rfl
theorem kp35_0 (x0 x1 x2 x3 x4 x5 x6) : keep [1, 2, 8, 9, 15, 16, 17] (e140 x0 x1 x2 x3 x4 x5 x6) = (e140 x0 x1 x2 x3 x4 x5 x6) := by kernel_rfl
def g35_4 (x0 : Int) (x1 : V1) (x2 : Int) (x3 : Bool) (x4 : V23) (x5 x6 : Int) (k0 : Int → V1 → Int → Bool → V23 → Int → Int → Bool → Option R) : Option R :=
k0 x0 x1 x2 x3 x4 x5 x6 (decide (x6 < x5))
theorem t35_4 (x0 x1 x2 x3 x4 x5 x6) : exec cl N c35_4 (e140 x0 x1 x2 x3 x4 x5 x6) K = (g35_4 x0 x1 x2 x3 x4 x5 x6 (fun y0 y1 y2 y3 y4 y5 y6 y7 => K .normal (e141 y0 y1 y2 y3 y4 y5 y6 y7))) := by
  kernel_rfl
theorem kp35_1 (x0 x1 x2 x3 x4 x5 x6 x7) : keep [1, 2, 8, 9, 15, 16, 17] (e141 x0 x1 x2 x3 x4 x5 x6 x7) = (e140 x0 x1 x2 x3 x4 x5 x6) := by kernel_rfl
theorem hb35_0 (x0 x1 x2 x3 x4 x5 x6 x7) : boolOf? (ent (e141 x0 x1 x2 x3 x4 x5 x6 x7) (.t 18)) = some x7 := by kernel_rfl
def g35_6 (x0 : Int) (x1 : V1) (x2 : Int) (x3 : Bool) (x4 : V23) (x5 x6 : Int) (k0 : Int → V1 → Int → Bool → V21 → V23 → Int → Int → Option R) : Option R :=
if 0 ≤ x6 ∧ x6 < (x4.length : Int) then
k0 x0 x1 x2 x3 (x4.getD x6.toNat ((0 : Int), ((0 : Int), ([], ())))) x4 x5 x6
else none
theorem t35_6 (x0 x1 x2 x3 x4 x5 x6) : exec cl N c35_6 (e140 x0 x1 x2 x3 x4 x5 x6) K = (g35_6 x0 x1 x2 x3 x4 x5 x6 (fun y0 y1 y2 y3 y4 y5 y6 y7 => K .normal (e142 y0 y1 y2 y3 y4 y5 y6 y7))) := by
  kernel_rfl
def g35_7 (S63 : V21 → V1 → Option (Bool)) (x0 : Int) (x1 : V1) (x2 : Int) (x3 : Bool) (x4 : V21) (x5 : V23) (x6 x7 : Int) (k0 : Int → V1 → Int → Bool → V21 → V23 → Int → Int → Bool → Option R) : Option R :=
brB (x4.1 == x0) ((S63 x4 x1).bind fun r414 =>
brB r414 (brB (!x3) (k0 x0 x1 x2 x3 x4 x5 x6 x7 true) (k0 x0 x1 x2 x3 x4 x5 x6 x7 (decide (x4.2.1 < x2)))) (k0 x0 x1 x2 x3 x4 x5 x6 x7 false)) (k0 x0 x1 x2 x3 x4 x5 x6 x7 false)
theorem t35_7 (S63) (h63 : (ctr63 S63).holds cl) (x0 x1 x2 x3 x4 x5 x6 x7) : exec cl N c35_7 (e142 x0 x1 x2 x3 x4 x5 x6 x7) K = (g35_7 S63 x0 x1 x2 x3 x4 x5 x6 x7 (fun y0 y1 y2 y3 y4 y5 y6 y7 y8 => K .normal (e143 y0 y1 y2 y3 y4 y5 y6 y7 y8))) := by
  rw [← put_eq h63]
  kernel_rfl
def g35_8 (x0 : Int) (x1 : V1) (x2 : Int) (x3 : Bool) (x4 : V21) (x5 : V23) (x6 x7 : Int) (x8 : Bool) (k0 : Int → V1 → Int → Bool → V23 → Int → Int → Option R) : Option R :=
k0 x0 x1 x4.2.1 true x5 x6 x7
theorem t35_8 (x0 x1 x2 x3 x4 x5 x6 x7 x8) : exec cl N c35_8 (e143 x0 x1 x2 x3 x4 x5 x6 x7 x8) K = (g35_8 x0 x1 x2 x3 x4 x5 x6 x7 x8 (fun y0 y1 y2 y3 y4 y5 y6 => K .normal (e140 y0 y1 y2 y3 y4 y5 y6))) := by
  kernel_rfl
theorem kp35_2 (x0 x1 x2 x3 x4 x5 x6 x7 x8) : keep [1, 2, 8, 9, 15, 16, 17] (e143 x0 x1 x2 x3 x4 x5 x6 x7 x8) = (e140 x0 x1 x2 x3 x5 x6 x7) := by kernel_rfl
theorem hb35_1 (x0 x1 x2 x3 x4 x5 x6 x7 x8) : boolOf? (ent (e143 x0 x1 x2 x3 x4 x5 x6 x7 x8) (.t 39)) = some x8 := by kernel_rfl
def g35_10 (S63 : V21 → V1 → Option (Bool)) (x0 : Int) (x1 : V1) (x2 : Int) (x3 : Bool) (x4 : V23) (x5 x6 : Int) (k0 : Int → V1 → Int → Bool → V23 → Int → Int → Option R) : Option R :=
(g35_6 x0 x1 x2 x3 x4 x5 x6 (fun y0 y1 y2 y3 y4 y5 y6 y7 => (g35_7 S63 y0 y1 y2 y3 y4 y5 y6 y7 (fun y0 y1 y2 y3 y4 y5 y6 y7 y8 => brB y8 (g35_8 y0 y1 y2 y3 y4 y5 y6 y7 y8 (fun y0 y1 y2 y3 y4 y5 y6 => (k0 y0 y1 y2 y3 y4 y5 y6))) (k0 y0 y1 y2 y3 y5 y6 y7)))))
theorem t35_10 (S63) (h63 : (ctr63 S63).holds cl) (x0 x1 x2 x3 x4 x5 x6) : exec cl N c35_10 (e140 x0 x1 x2 x3 x4 x5 x6) K = (g35_10 S63 x0 x1 x2 x3 x4 x5 x6 (fun y0 y1 y2 y3 y4 y5 y6 => K .normal (e140 y0 y1 y2 y3 y4 y5 y6))) := by
  simp only [c35_10, exec_out, exec_block, exec_seq, seqK_normal, seqK_exit, seqK_ret, t35_6, t35_7 S63 h63, c35_9, exec_cond', hb35_1, Option.bind_some, brB_true, brB_false, t35_8, exec_skip, kp35_0, kp35_2, blockK_normal, blockK_ret, blockK_eq]
  rfl
def g35_11 (x0 : Int) (x1 : V1) (x2 : Int) (x3 : Bool) (x4 : V23) (x5 x6 : Int) (k0 : Int → V1 → Int → Bool → V23 → Int → Int → Option R) : Option R :=
k0 x0 x1 x2 x3 x4 x5 (IntKind.i64.wrap (x6 + (1 : Int)))
theorem t35_11 (x0 x1 x2 x3 x4 x5 x6) : exec cl N c35_11 (e140 x0 x1 x2 x3 x4 x5 x6) K = (g35_11 x0 x1 x2 x3 x4 x5 x6 (fun y0 y1 y2 y3 y4 y5 y6 => K .normal (e140 y0 y1 y2 y3 y4 y5 y6))) := by
  kernel_rfl
def g35_12 (S63 : V21 → V1 → Option (Bool)) (x0 : Int) (x1 : V1) (x2 : Int) (x3 : Bool) (x4 : V23) (x5 x6 : Int) (k0 : Int → V1 → Int → Bool → V23 → Int → Int → Option R) (k1 : Int → V1 → Int → Bool → V23 → Int → Int → Option R) : Option R :=
(g35_4 x0 x1 x2 x3 x4 x5 x6 (fun y0 y1 y2 y3 y4 y5 y6 y7 => brB y7 ((fun y0 y1 y2 y3 y4 y5 y6 => (g35_10 S63 y0 y1 y2 y3 y4 y5 y6 (fun y0 y1 y2 y3 y4 y5 y6 => (g35_11 y0 y1 y2 y3 y4 y5 y6 k0)))) y0 y1 y2 y3 y4 y5 y6) (k1 y0 y1 y2 y3 y4 y5 y6)))
theorem t35_12 (S63) (h63 : (ctr63 S63).holds cl) (x0 x1 x2 x3 x4 x5 x6) : exec cl N c35_12 (e140 x0 x1 x2 x3 x4 x5 x6) K = (g35_12 S63 x0 x1 x2 x3 x4 x5 x6 (fun y0 y1 y2 y3 y4 y5 y6 => K .normal (e140 y0 y1 y2 y3 y4 y5 y6)) (fun y0 y1 y2 y3 y4 y5 y6 => K (.exit 0) (e140 y0 y1 y2 y3 y4 y5 y6))) := by
  simp only [c35_12, exec_seq, seqK_normal, seqK_exit, seqK_ret, t35_4, c35_5, exec_out, exec_cond', hb35_0, Option.bind_some, brB_true, brB_false, exec_skip, exec_exit, kp35_1, t35_10 S63 h63, t35_11]
  rfl
def l35_13 {R : Type} (S63 : V21 → V1 → Option (Bool)) (k0 : Int → V1 → Int → Bool → V23 → Int → Int → Option R) : Nat → Int → V1 → Int → Bool → V23 → Int → Int → Option R
  | 0, _, _, _, _, _, _, _ => none
  | m + 1, x0, x1, x2, x3, x4, x5, x6 => (g35_12 S63 x0 x1 x2 x3 x4 x5 x6 (fun y0 y1 y2 y3 y4 y5 y6 => l35_13 S63 k0 m y0 y1 y2 y3 y4 y5 y6) k0)
theorem lt35_13 (S63) (h63 : (ctr63 S63).holds cl) : ∀ (m) (x0 x1 x2 x3 x4 x5 x6), iter [1, 2, 8, 9, 15, 16, 17] (fun env K => exec cl N c35_12 env K) K m (e140 x0 x1 x2 x3 x4 x5 x6) = l35_13 S63 (fun y0 y1 y2 y3 y4 y5 y6 => K (.exit 0) (e140 y0 y1 y2 y3 y4 y5 y6)) m x0 x1 x2 x3 x4 x5 x6 := by
  intro m
  induction m with
  | zero => intros; rfl
  | succ m ih =>
    intro x0 x1 x2 x3 x4 x5 x6
    simp only [iter_succ, t35_12 S63 h63, loopK_normal, loopK_exit, loopK_ret, kp35_0, ih]
    rfl
theorem kp35_3 (x0 x1 x2 x3 x4 x5 x6) : keep [8, 9] (e140 x0 x1 x2 x3 x4 x5 x6) = (e144 x2 x3) := by kernel_rfl
def g35_13 (N : Nat) (S63 : V21 → V1 → Option (Bool)) (x0 : Int) (x1 : V1) (x2 : Int) (x3 : Bool) (x4 : V23) (x5 x6 : Int) (k0 : Int → Bool → Option R) : Option R :=
l35_13 S63 (fun y0 y1 y2 y3 y4 y5 y6 => k0 y2 y3) N x0 x1 x2 x3 x4 x5 x6
theorem t35_13 (S63) (h63 : (ctr63 S63).holds cl) (x0 x1 x2 x3 x4 x5 x6) : exec cl N c35_13 (e140 x0 x1 x2 x3 x4 x5 x6) K = (g35_13 N S63 x0 x1 x2 x3 x4 x5 x6 (fun y0 y1 => K (.exit 0) (e144 y0 y1))) := by
  simp only [c35_13, exec_out, exec_loop, kp35_0, lt35_13 S63 h63, kp35_3]
  rfl
theorem kp35_4 (x0 x1) : keep [8, 9] (e144 x0 x1) = (e144 x0 x1) := by kernel_rfl
def g35_15 (x0 : Int) (x1 : Bool) (k0 : Int → Bool → Option R) : Option R :=
k0 x0 x1
theorem t35_15 (x0 x1) : exec cl N c35_15 (e144 x0 x1) K = (g35_15 x0 x1 (fun y0 y1 => K .normal (e145 y0 y1))) := by
  kernel_rfl
def g35_16 (N : Nat) (S62 : V1 → Option V5) (S63 : V21 → V1 → Option (Bool)) (x0 : V28) (x1 : Int) (x2 : V1) (k0 : Int → Bool → Option R) : Option R :=
(g35_0 x0 x1 x2 (fun y0 y1 y2 => (g35_1 S62 y0 y1 y2 (fun y0 y1 y2 => (g35_2 y0 y1 y2 (fun y0 y1 y2 y3 y4 => (g35_3 y0 y1 y2 y3 y4 (fun y0 y1 y2 y3 y4 y5 y6 => (g35_13 N S63 y0 y1 y2 y3 y4 y5 y6 (fun y0 y1 => ((fun y0 y1 => (g35_15 y0 y1 (fun y0 y1 => (k0 y0 y1)))) y0 y1)))))))))))
theorem t35_16 (S62) (S63) (h62 : (ctr62 S62).holds cl) (h63 : (ctr63 S63).holds cl) (x0 x1 x2) : exec cl N c35_16 (e137 x0 x1 x2) K = (g35_16 N S62 S63 x0 x1 x2 (fun y0 y1 => K .ret (e145 y0 y1))) := by
  simp only [c35_16, exec_seq, seqK_normal, seqK_exit, seqK_ret, t35_0, t35_1 S62 h62, t35_2, t35_3, c35_14, exec_out, exec_block, t35_13 S63 h63, blockK_normal, blockK_ret, blockK_eq, kp35_4, t35_15, exec_ret]
  rfl
theorem rk35_0 (y0 y1) : retK d35 .ret (e145 y0 y1) = some [.v U2 y0, .v .bool y1] := by kernel_rfl
def g35 (N : Nat) (S62 : V1 → Option V5) (S63 : V21 → V1 → Option (Bool)) (x0 : V28) (x1 : Int) (x2 : V1) (k : Int → Bool → Option R) : Option R :=
(g35_16 N S62 S63 x0 x1 x2 (fun y0 y1 => k y0 y1))
theorem gen35 {N : Nat} {cl : Cal} (S62 : V1 → Option V5) (S63 : V21 → V1 → Option (Bool)) (h62 : (ctr62 S62).holds cl) (h63 : (ctr63 S63).holds cl) (x0 : V28) (x1 : Int) (x2 : V1) {R : Type} (k : List E → Option R) : exec cl N c35 (params 0 [.v U27 x0, .v U2 x1, .v .str x2]) (fun e env => (retK d35 e env).bind k) = g35 N S62 S63 x0 x1 x2 (fun (r0 : Int) (r1 : Bool) => k [.v U2 r0, .v .bool r1]) := by
  have e0 : params 0 [.v U27 x0, .v U2 x1, .v .str x2] = (e137 x0 x1 x2) := by kernel_rfl
  simp only [c35, e0, t35_16 S62 S63 h62 h63, rk35_0, Option.bind_some]
  rfl
def ctr35 (S : V28 → Int → V1 → Option V4) : Ctr := { A := V28 × Int × V1 × Unit, B := Int × Bool, f := 35, enc := fun a => [.v U27 a.1, .v U2 a.2.1, .v .str a.2.2.1], dec := (decC (decV U27) (decC (decV U2) (decC (decV .str) dec0))), S := fun a => S a.1 a.2.1 a.2.2.1, ent := fun b => [.v U2 b.1, .v .bool b.2], ok := (decV_cons (T := U27) (decV_cons (T := U2) (decV_cons (T := .str) (fun es b h => dec0_some h)))) }
def S35 (N : Nat) (x0 : V28) (x1 : Int) (x2 : V1) : Option V4 := g35 N (S62 N) (S63 N) x0 x1 x2 (fun (r0 : Int) (r1 : Bool) => some (r0, r1))
def g16_0 (x0 : V28) (x1 x2 : V1) (x3 x4 : V20) (k0 : V1 → V1 → V20 → V20 → V28 → Option R) : Option R :=
k0 x1 x2 x3 x4 x0
theorem t16_0 (x0 x1 x2 x3 x4) : exec cl N c16_0 (e146 x0 x1 x2 x3 x4) K = (g16_0 x0 x1 x2 x3 x4 (fun y0 y1 y2 y3 y4 => K .normal (e147 y0 y1 y2 y3 y4))) := by
  kernel_rfl
def g16_1 (S32 : V28 → Option (Int)) (x0 x1 : V1) (x2 x3 : V20) (x4 : V28) (k0 : V1 → V1 → V20 → V20 → V28 → Int → Option R) : Option R :=
(S32 x4).bind fun r419 =>
k0 x0 x1 x2 x3 x4 r419
theorem t16_1 (S32) (h32 : (ctr32 S32).holds cl) (x0 x1 x2 x3 x4) : exec cl N c16_1 (e147 x0 x1 x2 x3 x4) K = (g16_1 S32 x0 x1 x2 x3 x4 (fun y0 y1 y2 y3 y4 y5 => K .normal (e148 y0 y1 y2 y3 y4 y5))) := by
  rw [← put_eq h32]
  kernel_rfl
def g16_2 (x0 x1 : V1) (x2 x3 : V20) (x4 : V28) (x5 : Int) (k0 : V1 → V1 → V20 → V20 → V28 → Int → Bool → Option R) : Option R :=
k0 x0 x1 x2 x3 x4 x5 (x5 != (0 : Int))
theorem t16_2 (x0 x1 x2 x3 x4 x5) : exec cl N c16_2 (e148 x0 x1 x2 x3 x4 x5) K = (g16_2 x0 x1 x2 x3 x4 x5 (fun y0 y1 y2 y3 y4 y5 y6 => K .normal (e149 y0 y1 y2 y3 y4 y5 y6))) := by
  kernel_rfl
def g16_3 (x0 x1 : V1) (x2 x3 : V20) (x4 : V28) (x5 : Int) (x6 : Bool) (k0 : V11 → Int → Option R) : Option R :=
k0 [] x5
theorem t16_3 (x0 x1 x2 x3 x4 x5 x6) : exec cl N c16_3 (e149 x0 x1 x2 x3 x4 x5 x6) K = (g16_3 x0 x1 x2 x3 x4 x5 x6 (fun y0 y1 => K .normal (e150 y0 y1))) := by
  kernel_rfl
theorem kp16_0 (x0 x1) : keep [1, 2, 3, 4, 5, 10, 11] (e150 x0 x1) = (e151 x0 x1) := by kernel_rfl
theorem kp16_1 (x0 x1 x2 x3 x4 x5 x6) : keep [1, 2, 3, 4, 5, 10, 11] (e149 x0 x1 x2 x3 x4 x5 x6) = (e152 x0 x1 x2 x3 x4) := by kernel_rfl
theorem hb16_0 (x0 x1 x2 x3 x4 x5 x6) : boolOf? (ent (e149 x0 x1 x2 x3 x4 x5 x6) (.t 23)) = some x6 := by kernel_rfl
def g16_5 (S33 : V20 → V20 → Option (Int)) (x0 x1 : V1) (x2 x3 : V20) (x4 : V28) (k0 : V1 → V1 → V20 → V20 → V28 → Int → Option R) : Option R :=
(S33 x2 x3).bind fun r421 =>
k0 x0 x1 x2 x3 x4 r421
theorem t16_5 (S33) (h33 : (ctr33 S33).holds cl) (x0 x1 x2 x3 x4) : exec cl N c16_5 (e152 x0 x1 x2 x3 x4) K = (g16_5 S33 x0 x1 x2 x3 x4 (fun y0 y1 y2 y3 y4 y5 => K .normal (e153 y0 y1 y2 y3 y4 y5))) := by
  rw [← put_eq h33]
  kernel_rfl
def g16_6 (x0 x1 : V1) (x2 x3 : V20) (x4 : V28) (x5 : Int) (k0 : V1 → V1 → V20 → V20 → V28 → Int → Bool → Option R) : Option R :=
k0 x0 x1 x2 x3 x4 x5 (x5 != (0 : Int))
theorem t16_6 (x0 x1 x2 x3 x4 x5) : exec cl N c16_6 (e153 x0 x1 x2 x3 x4 x5) K = (g16_6 x0 x1 x2 x3 x4 x5 (fun y0 y1 y2 y3 y4 y5 y6 => K .normal (e154 y0 y1 y2 y3 y4 y5 y6))) := by
  kernel_rfl
def g16_7 (x0 x1 : V1) (x2 x3 : V20) (x4 : V28) (x5 : Int) (x6 : Bool) (k0 : V11 → Int → Option R) : Option R :=
k0 [] x5
theorem t16_7 (x0 x1 x2 x3 x4 x5 x6) : exec cl N c16_7 (e154 x0 x1 x2 x3 x4 x5 x6) K = (g16_7 x0 x1 x2 x3 x4 x5 x6 (fun y0 y1 => K .normal (e150 y0 y1))) := by
  kernel_rfl
theorem kp16_2 (x0 x1 x2 x3 x4 x5 x6) : keep [1, 2, 3, 4, 5, 10, 11] (e154 x0 x1 x2 x3 x4 x5 x6) = (e152 x0 x1 x2 x3 x4) := by kernel_rfl
theorem hb16_1 (x0 x1 x2 x3 x4 x5 x6) : boolOf? (ent (e154 x0 x1 x2 x3 x4 x5 x6) (.t 29)) = some x6 := by kernel_rfl
def g16_9 (x0 x1 : V1) (x2 x3 : V20) (x4 : V28) (k0 : V1 → V1 → V20 → V20 → V28 → V11 → Option R) : Option R :=
k0 x0 x1 x2 x3 x4 []
theorem t16_9 (x0 x1 x2 x3 x4) : exec cl N c16_9 (e152 x0 x1 x2 x3 x4) K = (g16_9 x0 x1 x2 x3 x4 (fun y0 y1 y2 y3 y4 y5 => K .normal (e155 y0 y1 y2 y3 y4 y5))) := by
  kernel_rfl
def g16_10 (S34 : V20 → V20 → Option V3) (x0 x1 : V1) (x2 x3 : V20) (x4 : V28) (x5 : V11) (k0 : V1 → V1 → V20 → V28 → V11 → V0 → Int → Int → Option R) : Option R :=
(S34 x2 x3).bind fun r423 =>
k0 x0 x1 x2 x4 x5 r423 (r423.length : Int) (0 : Int)
theorem t16_10 (S34) (h34 : (ctr34 S34).holds cl) (x0 x1 x2 x3 x4 x5) : exec cl N c16_10 (e155 x0 x1 x2 x3 x4 x5) K = (g16_10 S34 x0 x1 x2 x3 x4 x5 (fun y0 y1 y2 y3 y4 y5 y6 y7 => K .normal (e156 y0 y1 y2 y3 y4 y5 y6 y7))) := by
  rw [← put_eq h34]
  kernel_rfl
theorem kp16_3 (x0 x1 x2 x3 x4 x5 x6 x7) : keep [1, 2, 3, 5, 14, 33, 34, 35] (e156 x0 x1 x2 x3 x4 x5 x6 x7) = (e156 x0 x1 x2 x3 x4 x5 x6 x7) := by kernel_rfl
def g16_11 (x0 x1 : V1) (x2 : V20) (x3 : V28) (x4 : V11) (x5 : V0) (x6 x7 : Int) (k0 : V1 → V1 → V20 → V28 → V11 → V0 → Int → Int → Bool → Option R) : Option R :=
k0 x0 x1 x2 x3 x4 x5 x6 x7 (decide (x7 < x6))
theorem t16_11 (x0 x1 x2 x3 x4 x5 x6 x7) : exec cl N c16_11 (e156 x0 x1 x2 x3 x4 x5 x6 x7) K = (g16_11 x0 x1 x2 x3 x4 x5 x6 x7 (fun y0 y1 y2 y3 y4 y5 y6 y7 y8 => K .normal (e157 y0 y1 y2 y3 y4 y5 y6 y7 y8))) := by
  kernel_rfl
theorem kp16_4 (x0 x1 x2 x3 x4 x5 x6 x7 x8) : keep [1, 2, 3, 5, 14, 33, 34, 35] (e157 x0 x1 x2 x3 x4 x5 x6 x7 x8) = (e156 x0 x1 x2 x3 x4 x5 x6 x7) := by kernel_rfl
theorem hb16_2 (x0 x1 x2 x3 x4 x5 x6 x7 x8) : boolOf? (ent (e157 x0 x1 x2 x3 x4 x5 x6 x7 x8) (.t 36)) = some x8 := by kernel_rfl
def g16_13 (x0 x1 : V1) (x2 : V20) (x3 : V28) (x4 : V11) (x5 : V0) (x6 x7 : Int) (k0 : V1 → V1 → V20 → V28 → V11 → Int → V0 → Int → Int → Option R) : Option R :=
if 0 ≤ x7 ∧ x7 < (x5.length : Int) then
if x7.toNat < x5.length then
k0 x0 x1 x2 x3 x4 (x5.getD x7.toNat (0 : Int)) x5 x6 x7
else none
else none
theorem t16_13 (x0 x1 x2 x3 x4 x5 x6 x7) : exec cl N c16_13 (e156 x0 x1 x2 x3 x4 x5 x6 x7) K = (g16_13 x0 x1 x2 x3 x4 x5 x6 x7 (fun y0 y1 y2 y3 y4 y5 y6 y7 y8 => K .normal (e158 y0 y1 y2 y3 y4 y5 y6 y7 y8))) := by
  kernel_rfl
def g16_14 (x0 x1 : V1) (x2 : V20) (x3 : V28) (x4 : V11) (x5 : Int) (x6 : V0) (x7 x8 : Int) (k0 : V1 → V1 → V20 → V28 → V11 → Int → V0 → Int → Int → Bool → Option R) : Option R :=
k0 x0 x1 x2 x3 x4 x5 x6 x7 x8 (x5 == (0 : Int))
theorem t16_14 (x0 x1 x2 x3 x4 x5 x6 x7 x8) : exec cl N c16_14 (e158 x0 x1 x2 x3 x4 x5 x6 x7 x8) K = (g16_14 x0 x1 x2 x3 x4 x5 x6 x7 x8 (fun y0 y1 y2 y3 y4 y5 y6 y7 y8 y9 => K .normal (e159 y0 y1 y2 y3 y4 y5 y6 y7 y8 y9))) := by
  kernel_rfl
def g16_15 (x0 x1 : V1) (x2 : V20) (x3 : V28) (x4 : V11) (x5 : Int) (x6 : V0) (x7 x8 : Int) (x9 : Bool) (k0 : V1 → V1 → V20 → V28 → V11 → V0 → Int → Int → Option R) : Option R :=
if x4.length + [(x5, (0 : Int), ())].length ≤ 8796093022208 then
k0 x0 x1 x2 x3 (x4 ++ [(x5, (0 : Int), ())]) x6 x7 x8
else none
theorem t16_15 (x0 x1 x2 x3 x4 x5 x6 x7 x8 x9) : exec cl N c16_15 (e159 x0 x1 x2 x3 x4 x5 x6 x7 x8 x9) K = (g16_15 x0 x1 x2 x3 x4 x5 x6 x7 x8 x9 (fun y0 y1 y2 y3 y4 y5 y6 y7 => K .normal (e156 y0 y1 y2 y3 y4 y5 y6 y7))) := by
  kernel_rfl
theorem kp16_5 (x0 x1 x2 x3 x4 x5 x6 x7) : keep [1, 2, 3, 5, 14, 16, 33, 34, 35] (e156 x0 x1 x2 x3 x4 x5 x6 x7) = (e160 x0 x1 x2 x3 x4 x5 x6 x7) := by kernel_rfl
theorem kp16_6 (x0 x1 x2 x3 x4 x5 x6 x7 x8 x9) : keep [1, 2, 3, 5, 14, 16, 33, 34, 35] (e159 x0 x1 x2 x3 x4 x5 x6 x7 x8 x9) = (e158 x0 x1 x2 x3 x4 x5 x6 x7 x8) := by kernel_rfl
theorem hb16_3 (x0 x1 x2 x3 x4 x5 x6 x7 x8 x9) : boolOf? (ent (e159 x0 x1 x2 x3 x4 x5 x6 x7 x8 x9) (.t 40)) = some x9 := by kernel_rfl
def g16_17 (x0 x1 : V1) (x2 : V20) (x3 : V28) (x4 : V11) (x5 : Int) (x6 : V0) (x7 x8 : Int) (k0 : V1 → V1 → V20 → V28 → V11 → Int → V1 → V0 → Int → Int → Option R) : Option R :=
k0 x0 x1 x2 x3 x4 x5 x0 x6 x7 x8
theorem t16_17 (x0 x1 x2 x3 x4 x5 x6 x7 x8) : exec cl N c16_17 (e158 x0 x1 x2 x3 x4 x5 x6 x7 x8) K = (g16_17 x0 x1 x2 x3 x4 x5 x6 x7 x8 (fun y0 y1 y2 y3 y4 y5 y6 y7 y8 y9 => K .normal (e161 y0 y1 y2 y3 y4 y5 y6 y7 y8 y9))) := by
  kernel_rfl
def g16_18 (x0 x1 : V1) (x2 : V20) (x3 : V28) (x4 : V11) (x5 : Int) (x6 : V1) (x7 : V0) (x8 x9 : Int) (k0 : V1 → V1 → V20 → V28 → V11 → Int → V1 → V0 → Int → Int → Bool → Option R) : Option R :=
k0 x0 x1 x2 x3 x4 x5 x6 x7 x8 x9 (x5 == (2 : Int))
theorem t16_18 (x0 x1 x2 x3 x4 x5 x6 x7 x8 x9) : exec cl N c16_18 (e161 x0 x1 x2 x3 x4 x5 x6 x7 x8 x9) K = (g16_18 x0 x1 x2 x3 x4 x5 x6 x7 x8 x9 (fun y0 y1 y2 y3 y4 y5 y6 y7 y8 y9 y10 => K .normal (e162 y0 y1 y2 y3 y4 y5 y6 y7 y8 y9 y10))) := by
  kernel_rfl
def g16_19 (x0 x1 : V1) (x2 : V20) (x3 : V28) (x4 : V11) (x5 : Int) (x6 : V1) (x7 : V0) (x8 x9 : Int) (x10 : Bool) (k0 : V1 → V1 → V20 → V28 → V11 → Int → V1 → V0 → Int → Int → Option R) : Option R :=
k0 x0 x1 x2 x3 x4 x5 x1 x7 x8 x9
theorem t16_19 (x0 x1 x2 x3 x4 x5 x6 x7 x8 x9 x10) : exec cl N c16_19 (e162 x0 x1 x2 x3 x4 x5 x6 x7 x8 x9 x10) K = (g16_19 x0 x1 x2 x3 x4 x5 x6 x7 x8 x9 x10 (fun y0 y1 y2 y3 y4 y5 y6 y7 y8 y9 => K .normal (e161 y0 y1 y2 y3 y4 y5 y6 y7 y8 y9))) := by
  kernel_rfl
theorem kp16_7 (x0 x1 x2 x3 x4 x5 x6 x7 x8 x9) : keep [1, 2, 3, 5, 14, 16, 17, 33, 34, 35] (e161 x0 x1 x2 x3 x4 x5 x6 x7 x8 x9) = (e161 x0 x1 x2 x3 x4 x5 x6 x7 x8 x9) := by kernel_rfl
theorem kp16_8 (x0 x1 x2 x3 x4 x5 x6 x7 x8 x9 x10) : keep [1, 2, 3, 5, 14, 16, 17, 33, 34, 35] (e162 x0 x1 x2 x3 x4 x5 x6 x7 x8 x9 x10) = (e161 x0 x1 x2 x3 x4 x5 x6 x7 x8 x9) := by kernel_rfl
theorem hb16_4 (x0 x1 x2 x3 x4 x5 x6 x7 x8 x9 x10) : boolOf? (ent (e162 x0 x1 x2 x3 x4 x5 x6 x7 x8 x9 x10) (.t 48)) = some x10 := by kernel_rfl
def g16_21 (x0 x1 : V1) (x2 : V20) (x3 : V28) (x4 : V11) (x5 : Int) (x6 : V1) (x7 : V0) (x8 x9 : Int) (k0 : V1 → V1 → V20 → V28 → V11 → Int → V1 → V0 → Int → Int → Option R) : Option R :=
(g16_18 x0 x1 x2 x3 x4 x5 x6 x7 x8 x9 (fun y0 y1 y2 y3 y4 y5 y6 y7 y8 y9 y10 => brB y10 (g16_19 y0 y1 y2 y3 y4 y5 y6 y7 y8 y9 y10 (fun y0 y1 y2 y3 y4 y5 y6 y7 y8 y9 => (k0 y0 y1 y2 y3 y4 y5 y6 y7 y8 y9))) (k0 y0 y1 y2 y3 y4 y5 y6 y7 y8 y9)))
theorem t16_21 (x0 x1 x2 x3 x4 x5 x6 x7 x8 x9) : exec cl N c16_21 (e161 x0 x1 x2 x3 x4 x5 x6 x7 x8 x9) K = (g16_21 x0 x1 x2 x3 x4 x5 x6 x7 x8 x9 (fun y0 y1 y2 y3 y4 y5 y6 y7 y8 y9 => K .normal (e161 y0 y1 y2 y3 y4 y5 y6 y7 y8 y9))) := by
  simp only [c16_21, exec_seq, seqK_normal, seqK_exit, seqK_ret, t16_18, c16_20, exec_out, exec_cond', hb16_4, Option.bind_some, brB_true, brB_false, t16_19, exec_skip, kp16_7, kp16_8]
  rfl
def g16_22 (S35 : V28 → Int → V1 → Option V4) (S36 : Int → Int → Option (Int)) (S37 : V20 → Option (Int)) (x0 x1 : V1) (x2 : V20) (x3 : V28) (x4 : V11) (x5 : Int) (x6 : V1) (x7 : V0) (x8 x9 : Int) (k0 : V1 → V1 → V20 → V28 → V11 → Int → Int → Bool → V0 → Int → Int → Option R) : Option R :=
(S37 x2).bind fun r429 =>
(S36 x5 r429).bind fun r430 =>
(S35 x3 r430 x6).bind fun r431 =>
k0 x0 x1 x2 x3 x4 x5 r431.1 r431.2 x7 x8 x9
theorem t16_22 (S35) (S36) (S37) (h35 : (ctr35 S35).holds cl) (h36 : (ctr36 S36).holds cl) (h37 : (ctr37 S37).holds cl) (x0 x1 x2 x3 x4 x5 x6 x7 x8 x9) : exec cl N c16_22 (e161 x0 x1 x2 x3 x4 x5 x6 x7 x8 x9) K = (g16_22 S35 S36 S37 x0 x1 x2 x3 x4 x5 x6 x7 x8 x9 (fun y0 y1 y2 y3 y4 y5 y6 y7 y8 y9 y10 => K .normal (e163 y0 y1 y2 y3 y4 y5 y6 y7 y8 y9 y10))) := by
  rw [← put_eq h35]
  rw [← put_eq h36]
  rw [← put_eq h37]
  kernel_rfl
def g16_23 (x0 x1 : V1) (x2 : V20) (x3 : V28) (x4 : V11) (x5 x6 : Int) (x7 : Bool) (x8 : V0) (x9 x10 : Int) (k0 : V1 → V1 → V20 → V28 → V11 → Int → Int → V0 → Int → Int → Bool → Option R) : Option R :=
k0 x0 x1 x2 x3 x4 x5 x6 x8 x9 x10 x7
theorem t16_23 (x0 x1 x2 x3 x4 x5 x6 x7 x8 x9 x10) : exec cl N c16_23 (e163 x0 x1 x2 x3 x4 x5 x6 x7 x8 x9 x10) K = (g16_23 x0 x1 x2 x3 x4 x5 x6 x7 x8 x9 x10 (fun y0 y1 y2 y3 y4 y5 y6 y7 y8 y9 y10 => K .normal (e164 y0 y1 y2 y3 y4 y5 y6 y7 y8 y9 y10))) := by
  kernel_rfl
def g16_24 (x0 x1 : V1) (x2 : V20) (x3 : V28) (x4 : V11) (x5 x6 : Int) (x7 : V0) (x8 x9 : Int) (x10 : Bool) (k0 : V1 → V1 → V20 → V28 → V11 → V0 → Int → Int → Option R) : Option R :=
if x4.length + [(x5, x6, ())].length ≤ 8796093022208 then
k0 x0 x1 x2 x3 (x4 ++ [(x5, x6, ())]) x7 x8 x9
else none
theorem t16_24 (x0 x1 x2 x3 x4 x5 x6 x7 x8 x9 x10) : exec cl N c16_24 (e164 x0 x1 x2 x3 x4 x5 x6 x7 x8 x9 x10) K = (g16_24 x0 x1 x2 x3 x4 x5 x6 x7 x8 x9 x10 (fun y0 y1 y2 y3 y4 y5 y6 y7 => K .normal (e156 y0 y1 y2 y3 y4 y5 y6 y7))) := by
  kernel_rfl
theorem kp16_9 (x0 x1 x2 x3 x4 x5 x6 x7 x8 x9 x10) : keep [1, 2, 3, 5, 14, 33, 34, 35] (e164 x0 x1 x2 x3 x4 x5 x6 x7 x8 x9 x10) = (e156 x0 x1 x2 x3 x4 x7 x8 x9) := by kernel_rfl
theorem hb16_5 (x0 x1 x2 x3 x4 x5 x6 x7 x8 x9 x10) : boolOf? (ent (e164 x0 x1 x2 x3 x4 x5 x6 x7 x8 x9 x10) (.t 60)) = some x10 := by kernel_rfl
theorem kp16_10 (x0 x1 x2 x3 x4 x5 x6 x7) : keep [1, 2, 3, 5, 14, 33, 34, 35] (e160 x0 x1 x2 x3 x4 x5 x6 x7) = (e156 x0 x1 x2 x3 x4 x5 x6 x7) := by kernel_rfl
def g16_26 (S35 : V28 → Int → V1 → Option V4) (S36 : Int → Int → Option (Int)) (S37 : V20 → Option (Int)) (x0 x1 : V1) (x2 : V20) (x3 : V28) (x4 : V11) (x5 : V0) (x6 x7 : Int) (k0 : V1 → V1 → V20 → V28 → V11 → V0 → Int → Int → Option R) : Option R :=
(g16_13 x0 x1 x2 x3 x4 x5 x6 x7 (fun y0 y1 y2 y3 y4 y5 y6 y7 y8 => (g16_14 y0 y1 y2 y3 y4 y5 y6 y7 y8 (fun y0 y1 y2 y3 y4 y5 y6 y7 y8 y9 => brB y9 (g16_15 y0 y1 y2 y3 y4 y5 y6 y7 y8 y9 (fun y0 y1 y2 y3 y4 y5 y6 y7 => ((fun y0 y1 y2 y3 y4 y5 y6 y7 => (k0 y0 y1 y2 y3 y4 y5 y6 y7)) y0 y1 y2 y3 y4 y5 y6 y7))) ((fun y0 y1 y2 y3 y4 y5 y6 y7 y8 => (g16_17 y0 y1 y2 y3 y4 y5 y6 y7 y8 (fun y0 y1 y2 y3 y4 y5 y6 y7 y8 y9 => (g16_21 y0 y1 y2 y3 y4 y5 y6 y7 y8 y9 (fun y0 y1 y2 y3 y4 y5 y6 y7 y8 y9 => (g16_22 S35 S36 S37 y0 y1 y2 y3 y4 y5 y6 y7 y8 y9 (fun y0 y1 y2 y3 y4 y5 y6 y7 y8 y9 y10 => (g16_23 y0 y1 y2 y3 y4 y5 y6 y7 y8 y9 y10 (fun y0 y1 y2 y3 y4 y5 y6 y7 y8 y9 y10 => brB y10 (g16_24 y0 y1 y2 y3 y4 y5 y6 y7 y8 y9 y10 (fun y0 y1 y2 y3 y4 y5 y6 y7 => (k0 y0 y1 y2 y3 y4 y5 y6 y7))) (k0 y0 y1 y2 y3 y4 y7 y8 y9)))))))))) y0 y1 y2 y3 y4 y5 y6 y7 y8)))))
theorem t16_26 (S35) (S36) (S37) (h35 : (ctr35 S35).holds cl) (h36 : (ctr36 S36).holds cl) (h37 : (ctr37 S37).holds cl) (x0 x1 x2 x3 x4 x5 x6 x7) : exec cl N c16_26 (e156 x0 x1 x2 x3 x4 x5 x6 x7) K = (g16_26 S35 S36 S37 x0 x1 x2 x3 x4 x5 x6 x7 (fun y0 y1 y2 y3 y4 y5 y6 y7 => K .normal (e156 y0 y1 y2 y3 y4 y5 y6 y7))) := by
  simp only [c16_26, exec_out, exec_block, exec_seq, seqK_normal, seqK_exit, seqK_ret, t16_13, t16_14, c16_16, exec_cond', hb16_3, Option.bind_some, brB_true, brB_false, t16_15, exec_exit, exec_skip, kp16_5, kp16_6, t16_17, t16_21, t16_22 S35 S36 S37 h35 h36 h37, t16_23, c16_25, hb16_5, t16_24, kp16_3, kp16_9, blockK_normal, blockK_ret, blockK_eq, kp16_10]
  rfl
def g16_27 (x0 x1 : V1) (x2 : V20) (x3 : V28) (x4 : V11) (x5 : V0) (x6 x7 : Int) (k0 : V1 → V1 → V20 → V28 → V11 → V0 → Int → Int → Option R) : Option R :=
k0 x0 x1 x2 x3 x4 x5 x6 (IntKind.i64.wrap (x7 + (1 : Int)))
theorem t16_27 (x0 x1 x2 x3 x4 x5 x6 x7) : exec cl N c16_27 (e156 x0 x1 x2 x3 x4 x5 x6 x7) K = (g16_27 x0 x1 x2 x3 x4 x5 x6 x7 (fun y0 y1 y2 y3 y4 y5 y6 y7 => K .normal (e156 y0 y1 y2 y3 y4 y5 y6 y7))) := by
  kernel_rfl
def g16_28 (S35 : V28 → Int → V1 → Option V4) (S36 : Int → Int → Option (Int)) (S37 : V20 → Option (Int)) (x0 x1 : V1) (x2 : V20) (x3 : V28) (x4 : V11) (x5 : V0) (x6 x7 : Int) (k0 : V1 → V1 → V20 → V28 → V11 → V0 → Int → Int → Option R) (k1 : V1 → V1 → V20 → V28 → V11 → V0 → Int → Int → Option R) : Option R :=
(g16_11 x0 x1 x2 x3 x4 x5 x6 x7 (fun y0 y1 y2 y3 y4 y5 y6 y7 y8 => brB y8 ((fun y0 y1 y2 y3 y4 y5 y6 y7 => (g16_26 S35 S36 S37 y0 y1 y2 y3 y4 y5 y6 y7 (fun y0 y1 y2 y3 y4 y5 y6 y7 => (g16_27 y0 y1 y2 y3 y4 y5 y6 y7 k0)))) y0 y1 y2 y3 y4 y5 y6 y7) (k1 y0 y1 y2 y3 y4 y5 y6 y7)))
theorem t16_28 (S35) (S36) (S37) (h35 : (ctr35 S35).holds cl) (h36 : (ctr36 S36).holds cl) (h37 : (ctr37 S37).holds cl) (x0 x1 x2 x3 x4 x5 x6 x7) : exec cl N c16_28 (e156 x0 x1 x2 x3 x4 x5 x6 x7) K = (g16_28 S35 S36 S37 x0 x1 x2 x3 x4 x5 x6 x7 (fun y0 y1 y2 y3 y4 y5 y6 y7 => K .normal (e156 y0 y1 y2 y3 y4 y5 y6 y7)) (fun y0 y1 y2 y3 y4 y5 y6 y7 => K (.exit 0) (e156 y0 y1 y2 y3 y4 y5 y6 y7))) := by
  simp only [c16_28, exec_seq, seqK_normal, seqK_exit, seqK_ret, t16_11, c16_12, exec_out, exec_cond', hb16_2, Option.bind_some, brB_true, brB_false, exec_skip, exec_exit, kp16_4, t16_26 S35 S36 S37 h35 h36 h37, t16_27]
  rfl
def l16_29 {R : Type} (S35 : V28 → Int → V1 → Option V4) (S36 : Int → Int → Option (Int)) (S37 : V20 → Option (Int)) (k0 : V1 → V1 → V20 → V28 → V11 → V0 → Int → Int → Option R) : Nat → V1 → V1 → V20 → V28 → V11 → V0 → Int → Int → Option R
  | 0, _, _, _, _, _, _, _, _ => none
  | m + 1, x0, x1, x2, x3, x4, x5, x6, x7 => (g16_28 S35 S36 S37 x0 x1 x2 x3 x4 x5 x6 x7 (fun y0 y1 y2 y3 y4 y5 y6 y7 => l16_29 S35 S36 S37 k0 m y0 y1 y2 y3 y4 y5 y6 y7) k0)
theorem lt16_29 (S35) (S36) (S37) (h35 : (ctr35 S35).holds cl) (h36 : (ctr36 S36).holds cl) (h37 : (ctr37 S37).holds cl) : ∀ (m) (x0 x1 x2 x3 x4 x5 x6 x7), iter [1, 2, 3, 5, 14, 33, 34, 35] (fun env K => exec cl N c16_28 env K) K m (e156 x0 x1 x2 x3 x4 x5 x6 x7) = l16_29 S35 S36 S37 (fun y0 y1 y2 y3 y4 y5 y6 y7 => K (.exit 0) (e156 y0 y1 y2 y3 y4 y5 y6 y7)) m x0 x1 x2 x3 x4 x5 x6 x7 := by
  intro m
  induction m with
  | zero => intros; rfl
  | succ m ih =>
    intro x0 x1 x2 x3 x4 x5 x6 x7
    simp only [iter_succ, t16_28 S35 S36 S37 h35 h36 h37, loopK_normal, loopK_exit, loopK_ret, kp16_3, ih]
    rfl
theorem kp16_11 (x0 x1 x2 x3 x4 x5 x6 x7) : keep [14] (e156 x0 x1 x2 x3 x4 x5 x6 x7) = (e165 x4) := by kernel_rfl
def g16_29 (N : Nat) (S35 : V28 → Int → V1 → Option V4) (S36 : Int → Int → Option (Int)) (S37 : V20 → Option (Int)) (x0 x1 : V1) (x2 : V20) (x3 : V28) (x4 : V11) (x5 : V0) (x6 x7 : Int) (k0 : V11 → Option R) : Option R :=
l16_29 S35 S36 S37 (fun y0 y1 y2 y3 y4 y5 y6 y7 => k0 y4) N x0 x1 x2 x3 x4 x5 x6 x7
theorem t16_29 (S35) (S36) (S37) (h35 : (ctr35 S35).holds cl) (h36 : (ctr36 S36).holds cl) (h37 : (ctr37 S37).holds cl) (x0 x1 x2 x3 x4 x5 x6 x7) : exec cl N c16_29 (e156 x0 x1 x2 x3 x4 x5 x6 x7) K = (g16_29 N S35 S36 S37 x0 x1 x2 x3 x4 x5 x6 x7 (fun y0 => K (.exit 0) (e165 y0))) := by
  simp only [c16_29, exec_out, exec_loop, kp16_3, lt16_29 S35 S36 S37 h35 h36 h37, kp16_11]
  rfl
theorem kp16_12 (x0) : keep [14] (e165 x0) = (e165 x0) := by kernel_rfl
def g16_31 (x0 : V11) (k0 : Int → V11 → Option R) : Option R :=
k0 (0 : Int) x0
theorem t16_31 (x0) : exec cl N c16_31 (e165 x0) K = (g16_31 x0 (fun y0 y1 => K .normal (e166 y0 y1))) := by
  kernel_rfl
def g16_32 (N : Nat) (S32 : V28 → Option (Int)) (S33 : V20 → V20 → Option (Int)) (S34 : V20 → V20 → Option V3) (S35 : V28 → Int → V1 → Option V4) (S36 : Int → Int → Option (Int)) (S37 : V20 → Option (Int)) (x0 : V28) (x1 x2 : V1) (x3 x4 : V20) (k0 : V11 → Int → Option R) (k1 : Int → V11 → Option R) : Option R :=
(g16_0 x0 x1 x2 x3 x4 (fun y0 y1 y2 y3 y4 => (g16_1 S32 y0 y1 y2 y3 y4 (fun y0 y1 y2 y3 y4 y5 => (g16_2 y0 y1 y2 y3 y4 y5 (fun y0 y1 y2 y3 y4 y5 y6 => brB y6 (g16_3 y0 y1 y2 y3 y4 y5 y6 (fun y0 y1 => ((fun y0 y1 => (k0 y0 y1)) y0 y1))) ((fun y0 y1 y2 y3 y4 => (g16_5 S33 y0 y1 y2 y3 y4 (fun y0 y1 y2 y3 y4 y5 => (g16_6 y0 y1 y2 y3 y4 y5 (fun y0 y1 y2 y3 y4 y5 y6 => brB y6 (g16_7 y0 y1 y2 y3 y4 y5 y6 (fun y0 y1 => ((fun y0 y1 => (k0 y0 y1)) y0 y1))) ((fun y0 y1 y2 y3 y4 => (g16_9 y0 y1 y2 y3 y4 (fun y0 y1 y2 y3 y4 y5 => (g16_10 S34 y0 y1 y2 y3 y4 y5 (fun y0 y1 y2 y3 y4 y5 y6 y7 => (g16_29 N S35 S36 S37 y0 y1 y2 y3 y4 y5 y6 y7 (fun y0 => ((fun y0 => (g16_31 y0 (fun y0 y1 => (k1 y0 y1)))) y0)))))))) y0 y1 y2 y3 y4)))))) y0 y1 y2 y3 y4)))))))
theorem t16_32 (S32) (S33) (S34) (S35) (S36) (S37) (h32 : (ctr32 S32).holds cl) (h33 : (ctr33 S33).holds cl) (h34 : (ctr34 S34).holds cl) (h35 : (ctr35 S35).holds cl) (h36 : (ctr36 S36).holds cl) (h37 : (ctr37 S37).holds cl) (x0 x1 x2 x3 x4) : exec cl N c16_32 (e146 x0 x1 x2 x3 x4) K = (g16_32 N S32 S33 S34 S35 S36 S37 x0 x1 x2 x3 x4 (fun y0 y1 => K .ret (e151 y0 y1)) (fun y0 y1 => K .ret (e166 y0 y1))) := by
  simp only [c16_32, exec_seq, seqK_normal, seqK_exit, seqK_ret, t16_0, t16_1 S32 h32, t16_2, c16_4, exec_out, exec_cond', hb16_0, Option.bind_some, brB_true, brB_false, t16_3, exec_ret, exec_skip, kp16_0, kp16_1, t16_5 S33 h33, t16_6, c16_8, hb16_1, t16_7, kp16_2, t16_9, t16_10 S34 h34, c16_30, exec_block, t16_29 S35 S36 S37 h35 h36 h37, blockK_normal, blockK_ret, blockK_eq, kp16_12, t16_31]
  rfl
theorem rk16_0 (y0 y1) : retK d16 .ret (e151 y0 y1) = some [.own true 45 U15 .no y0, .v U2 y1] := by kernel_rfl
theorem rk16_1 (y0 y1) : retK d16 .ret (e166 y0 y1) = some [.own true 45 U15 .no y1, .v U2 y0] := by kernel_rfl
def g16 (N : Nat) (S32 : V28 → Option (Int)) (S33 : V20 → V20 → Option (Int)) (S34 : V20 → V20 → Option V3) (S35 : V28 → Int → V1 → Option V4) (S36 : Int → Int → Option (Int)) (S37 : V20 → Option (Int)) (x0 : V28) (x1 x2 : V1) (x3 x4 : V20) (k : V11 → Int → Option R) : Option R :=
(g16_32 N S32 S33 S34 S35 S36 S37 x0 x1 x2 x3 x4 (fun y0 y1 => k y0 y1) (fun y0 y1 => k y1 y0))
theorem gen16 {N : Nat} {cl : Cal} (S32 : V28 → Option (Int)) (S33 : V20 → V20 → Option (Int)) (S34 : V20 → V20 → Option V3) (S35 : V28 → Int → V1 → Option V4) (S36 : Int → Int → Option (Int)) (S37 : V20 → Option (Int)) (h32 : (ctr32 S32).holds cl) (h33 : (ctr33 S33).holds cl) (h34 : (ctr34 S34).holds cl) (h35 : (ctr35 S35).holds cl) (h36 : (ctr36 S36).holds cl) (h37 : (ctr37 S37).holds cl) (x0 : V28) (x1 : V1) (x2 : V1) (x3 : V20) (x4 : V20) {R : Type} (k : List E → Option R) : exec cl N c16 (params 0 [.v U27 x0, .v .str x1, .v .str x2, .v U21 x3, .v U21 x4]) (fun e env => (retK d16 e env).bind k) = g16 N S32 S33 S34 S35 S36 S37 x0 x1 x2 x3 x4 (fun (r0 : V11) (r1 : Int) => k [.own true 45 U15 .no r0, .v U2 r1]) := by
  have e0 : params 0 [.v U27 x0, .v .str x1, .v .str x2, .v U21 x3, .v U21 x4] = (e146 x0 x1 x2 x3 x4) := by kernel_rfl
  simp only [c16, e0, t16_32 S32 S33 S34 S35 S36 S37 h32 h33 h34 h35 h36 h37, rk16_0, rk16_1, Option.bind_some]
  rfl
def ctr16 (S : V28 → V1 → V1 → V20 → V20 → Option V17) : Ctr := { A := V28 × V1 × V1 × V20 × V20 × Unit, B := V11 × Int, f := 16, enc := fun a => [.v U27 a.1, .v .str a.2.1, .v .str a.2.2.1, .v U21 a.2.2.2.1, .v U21 a.2.2.2.2.1], dec := (decC (decV U27) (decC (decV .str) (decC (decV .str) (decC (decV U21) (decC (decV U21) dec0))))), S := fun a => S a.1 a.2.1 a.2.2.1 a.2.2.2.1 a.2.2.2.2.1, ent := fun b => [.own true 45 U15 .no b.1, .v U2 b.2], ok := (decV_cons (T := U27) (decV_cons (T := .str) (decV_cons (T := .str) (decV_cons (T := U21) (decV_cons (T := U21) (fun es b h => dec0_some h)))))) }
def S16 (N : Nat) (x0 : V28) (x1 : V1) (x2 : V1) (x3 : V20) (x4 : V20) : Option V17 := g16 N (S32 N) (S33 N) (S34 N) (S35 N) (S36 N) (S37 N) x0 x1 x2 x3 x4 (fun (r0 : V11) (r1 : Int) => some (r0, r1))
def g101_0 (x0 : Int) (k0 : Int → Option R) : Option R :=
k0 x0
theorem t101_0 (x0) : exec cl N c101_0 [(0, .v U1 x0)] K = (g101_0 x0 (fun y0 => K .normal [(0, .v U1 y0)])) := by
  kernel_rfl
def g101_1 (x0 : Int) (k0 : Bool → Option R) : Option R :=
brB (decide (x0 ≥ (97 : Int))) (k0 (decide (x0 ≤ (122 : Int)))) (k0 false)
theorem t101_1 (x0) : exec cl N c101_1 [(0, .v U1 x0)] K = (g101_1 x0 (fun y0 => K .normal [(2, .v .bool y0)])) := by
  kernel_rfl
def g101_2 (x0 : Int) (k0 : Bool → Option R) : Option R :=
(g101_0 x0 (fun y0 => (g101_1 y0 (fun y0 => (k0 y0)))))
theorem t101_2 (x0) : exec cl N c101_2 [(0, .v U1 x0)] K = (g101_2 x0 (fun y0 => K .ret [(2, .v .bool y0)])) := by
  simp only [c101_2, exec_seq, seqK_normal, seqK_exit, seqK_ret, t101_0, t101_1, exec_ret]
  rfl
theorem rk101_0 (y0) : retK d101 .ret [(2, .v .bool y0)] = some [.v .bool y0] := by kernel_rfl
def g101 (x0 : Int) (k : Bool → Option R) : Option R :=
(g101_2 x0 (fun y0 => k y0))
theorem gen101 {N : Nat} {cl : Cal} (x0 : Int) {R : Type} (k : List E → Option R) : exec cl N c101 (params 0 [.v U1 x0]) (fun e env => (retK d101 e env).bind k) = g101 x0 (fun (r0 : Bool) => k [.v .bool r0]) := by
  have e0 : params 0 [.v U1 x0] = [(0, .v U1 x0)] := by kernel_rfl
  simp only [c101, e0, t101_2, rk101_0, Option.bind_some]
  rfl
def ctr101 (S : Int → Option (Bool)) : Ctr := { A := Int × Unit, B := Bool, f := 101, enc := fun a => [.v U1 a.1], dec := (decC (decV U1) dec0), S := fun a => S a.1, ent := fun b => [.v .bool b], ok := (decV_cons (T := U1) (fun es b h => dec0_some h)) }
def S101 (N : Nat) (x0 : Int) : Option (Bool) := g101 x0 (fun (r0 : Bool) => some (r0))
def g102_0 (x0 : Int) (k0 : Int → Option R) : Option R :=
k0 x0
theorem t102_0 (x0) : exec cl N c102_0 [(0, .v U1 x0)] K = (g102_0 x0 (fun y0 => K .normal [(0, .v U1 y0)])) := by
  kernel_rfl
def g102_1 (x0 : Int) (k0 : Bool → Option R) : Option R :=
brB (decide (x0 ≥ (48 : Int))) (k0 (decide (x0 ≤ (57 : Int)))) (k0 false)
theorem t102_1 (x0) : exec cl N c102_1 [(0, .v U1 x0)] K = (g102_1 x0 (fun y0 => K .normal [(2, .v .bool y0)])) := by
  kernel_rfl
def g102_2 (x0 : Int) (k0 : Bool → Option R) : Option R :=
(g102_0 x0 (fun y0 => (g102_1 y0 (fun y0 => (k0 y0)))))
theorem t102_2 (x0) : exec cl N c102_2 [(0, .v U1 x0)] K = (g102_2 x0 (fun y0 => K .ret [(2, .v .bool y0)])) := by
  simp only [c102_2, exec_seq, seqK_normal, seqK_exit, seqK_ret, t102_0, t102_1, exec_ret]
  rfl
theorem rk102_0 (y0) : retK d102 .ret [(2, .v .bool y0)] = some [.v .bool y0] := by kernel_rfl
def g102 (x0 : Int) (k : Bool → Option R) : Option R :=
(g102_2 x0 (fun y0 => k y0))
theorem gen102 {N : Nat} {cl : Cal} (x0 : Int) {R : Type} (k : List E → Option R) : exec cl N c102 (params 0 [.v U1 x0]) (fun e env => (retK d102 e env).bind k) = g102 x0 (fun (r0 : Bool) => k [.v .bool r0]) := by
  have e0 : params 0 [.v U1 x0] = [(0, .v U1 x0)] := by kernel_rfl
  simp only [c102, e0, t102_2, rk102_0, Option.bind_some]
  rfl
def ctr102 (S : Int → Option (Bool)) : Ctr := { A := Int × Unit, B := Bool, f := 102, enc := fun a => [.v U1 a.1], dec := (decC (decV U1) dec0), S := fun a => S a.1, ent := fun b => [.v .bool b], ok := (decV_cons (T := U1) (fun es b h => dec0_some h)) }
def S102 (N : Nat) (x0 : Int) : Option (Bool) := g102 x0 (fun (r0 : Bool) => some (r0))
def g86_0 (x0 : V1) (k0 : V1 → Option R) : Option R :=
k0 x0
theorem t86_0 (x0) : exec cl N c86_0 [(0, .v .str x0)] K = (g86_0 x0 (fun y0 => K .normal [(0, .v .str y0)])) := by
  kernel_rfl
def g86_1 (S101 : Int → Option (Bool)) (x0 : V1) (k0 : V1 → Bool → Option R) : Option R :=
brB (x0 == ([] : List UInt8)) (k0 x0 true) (if 0 ≤ (0 : Int) ∧ (0 : Int) < (x0.length : Int) then
(S101 ((x0.getD (0 : Int).toNat 0).toNat : Int)).bind fun r466 =>
k0 x0 (!r466)
else none)
theorem t86_1 (S101) (h101 : (ctr101 S101).holds cl) (x0) : exec cl N c86_1 [(0, .v .str x0)] K = (g86_1 S101 x0 (fun y0 y1 => K .normal (e167 y0 y1))) := by
  rw [← put_eq h101]
  kernel_rfl
def g86_2 (x0 : V1) (x1 : Bool) (k0 : Int → Option R) : Option R :=
k0 (0 : Int)
theorem t86_2 (x0 x1) : exec cl N c86_2 (e167 x0 x1) K = (g86_2 x0 x1 (fun y0 => K .normal [(2, .v U2 y0)])) := by
  kernel_rfl
theorem kp86_0 (x0) : keep [0, 2] [(2, .v U2 x0)] = (e15 x0) := by kernel_rfl
theorem kp86_1 (x0 x1) : keep [0, 2] (e167 x0 x1) = (e16 x0) := by kernel_rfl
theorem hb86_0 (x0 x1) : boolOf? (ent (e167 x0 x1) (.t 11)) = some x1 := by kernel_rfl
def g86_4 (x0 : V1) (k0 : V1 → Int → Option R) : Option R :=
k0 x0 (1 : Int)
theorem t86_4 (x0) : exec cl N c86_4 (e16 x0) K = (g86_4 x0 (fun y0 y1 => K .normal (e17 y0 y1))) := by
  kernel_rfl
theorem kp86_2 (x0 x1) : keep [0, 3] (e17 x0 x1) = (e17 x0 x1) := by kernel_rfl
def g86_5 (x0 : V1) (x1 : Int) (k0 : V1 → Int → Bool → Option R) : Option R :=
k0 x0 x1 (decide (x1 < (x0.length : Int)))
theorem t86_5 (x0 x1) : exec cl N c86_5 (e17 x0 x1) K = (g86_5 x0 x1 (fun y0 y1 y2 => K .normal (e168 y0 y1 y2))) := by
  kernel_rfl
theorem kp86_3 (x0 x1 x2) : keep [0, 3] (e168 x0 x1 x2) = (e17 x0 x1) := by kernel_rfl
theorem hb86_1 (x0 x1 x2) : boolOf? (ent (e168 x0 x1 x2) (.t 15)) = some x2 := by kernel_rfl
def g86_7 (S101 : Int → Option (Bool)) (S102 : Int → Option (Bool)) (x0 : V1) (x1 : Int) (k0 : V1 → Int → Bool → Option R) : Option R :=
if 0 ≤ x1 ∧ x1 < (x0.length : Int) then
(S101 ((x0.getD x1.toNat 0).toNat : Int)).bind fun r469 =>
brB r469 (k0 x0 x1 true) (if 0 ≤ x1 ∧ x1 < (x0.length : Int) then
(S102 ((x0.getD x1.toNat 0).toNat : Int)).bind fun r471 =>
k0 x0 x1 r471
else none)
else none
theorem t86_7 (S101) (S102) (h101 : (ctr101 S101).holds cl) (h102 : (ctr102 S102).holds cl) (x0 x1) : exec cl N c86_7 (e17 x0 x1) K = (g86_7 S101 S102 x0 x1 (fun y0 y1 y2 => K .normal (e169 y0 y1 y2))) := by
  rw [← put_eq h101]
  rw [← put_eq h102]
  kernel_rfl
def g86_8 (x0 : V1) (x1 : Int) (x2 : Bool) (k0 : V1 → Int → Option R) : Option R :=
k0 x0 (IntKind.i64.wrap (x1 + (1 : Int)))
theorem t86_8 (x0 x1 x2) : exec cl N c86_8 (e169 x0 x1 x2) K = (g86_8 x0 x1 x2 (fun y0 y1 => K .normal (e17 y0 y1))) := by
  kernel_rfl
theorem kp86_4 (x0 x1 x2) : keep [0, 3] (e169 x0 x1 x2) = (e17 x0 x1) := by kernel_rfl
theorem hb86_2 (x0 x1 x2) : boolOf? (ent (e169 x0 x1 x2) (.t 25)) = some x2 := by kernel_rfl
def g86_10 (S101 : Int → Option (Bool)) (S102 : Int → Option (Bool)) (x0 : V1) (x1 : Int) (k0 : V1 → Int → Bool → Option R) : Option R :=
if 0 ≤ x1 ∧ x1 < (x0.length : Int) then
brB (((x0.getD x1.toNat 0).toNat : Int) != (45 : Int)) (k0 x0 x1 true) (brB ((IntKind.i64.wrap (x1 + (1 : Int))) == (x0.length : Int)) (k0 x0 x1 true) (let v477 : Int := (IntKind.i64.wrap (x1 + (1 : Int)))
if 0 ≤ v477 ∧ v477 < (x0.length : Int) then
(S101 ((x0.getD v477.toNat 0).toNat : Int)).bind fun r479 =>
brB (!r479) (let v480 : Int := (IntKind.i64.wrap (x1 + (1 : Int)))
if 0 ≤ v480 ∧ v480 < (x0.length : Int) then
(S102 ((x0.getD v480.toNat 0).toNat : Int)).bind fun r482 =>
k0 x0 x1 (!r482)
else none) (k0 x0 x1 false)
else none))
else none
theorem t86_10 (S101) (S102) (h101 : (ctr101 S101).holds cl) (h102 : (ctr102 S102).holds cl) (x0 x1) : exec cl N c86_10 (e17 x0 x1) K = (g86_10 S101 S102 x0 x1 (fun y0 y1 y2 => K .normal (e170 y0 y1 y2))) := by
  rw [← put_eq h101]
  rw [← put_eq h102]
  kernel_rfl
theorem kp86_5 (x0 x1 x2) : keep [0, 3] (e170 x0 x1 x2) = (e17 x0 x1) := by kernel_rfl
theorem hb86_3 (x0 x1 x2) : boolOf? (ent (e170 x0 x1 x2) (.t 54)) = some x2 := by kernel_rfl
def g86_12 (x0 : V1) (x1 : Int) (k0 : V1 → Int → Option R) : Option R :=
k0 x0 (IntKind.i64.wrap (x1 + (2 : Int)))
theorem t86_12 (x0 x1) : exec cl N c86_12 (e17 x0 x1) K = (g86_12 x0 x1 (fun y0 y1 => K .normal (e17 y0 y1))) := by
  kernel_rfl
def g86_14 (S101 : Int → Option (Bool)) (S102 : Int → Option (Bool)) (x0 : V1) (x1 : Int) (k0 : V1 → Int → Option R) (k1 : V1 → Int → Option R) : Option R :=
(g86_5 x0 x1 (fun y0 y1 y2 => brB y2 ((fun y0 y1 => (g86_7 S101 S102 y0 y1 (fun y0 y1 y2 => brB y2 (g86_8 y0 y1 y2 (fun y0 y1 => ((fun y0 y1 => (k0 y0 y1)) y0 y1))) ((fun y0 y1 => (g86_10 S101 S102 y0 y1 (fun y0 y1 y2 => brB y2 (k1 y0 y1) ((fun y0 y1 => (g86_12 y0 y1 (fun y0 y1 => (k0 y0 y1)))) y0 y1)))) y0 y1)))) y0 y1) (k1 y0 y1)))
theorem t86_14 (S101) (S102) (h101 : (ctr101 S101).holds cl) (h102 : (ctr102 S102).holds cl) (x0 x1) : exec cl N c86_14 (e17 x0 x1) K = (g86_14 S101 S102 x0 x1 (fun y0 y1 => K .normal (e17 y0 y1)) (fun y0 y1 => K (.exit 0) (e17 y0 y1))) := by
  simp only [c86_14, exec_seq, seqK_normal, seqK_exit, seqK_ret, t86_5, c86_6, exec_out, exec_cond', hb86_1, Option.bind_some, brB_true, brB_false, exec_skip, exec_exit, kp86_3, c86_13, exec_block, t86_7 S101 S102 h101 h102, c86_9, hb86_2, t86_8, kp86_2, kp86_4, t86_10 S101 S102 h101 h102, c86_11, hb86_3, kp86_5, t86_12, blockK_normal, blockK_ret, blockK_eq, blockK_ne 1 0 rfl]
  rfl
def l86_15 {R : Type} (S101 : Int → Option (Bool)) (S102 : Int → Option (Bool)) (k0 : V1 → Int → Option R) : Nat → V1 → Int → Option R
  | 0, _, _ => none
  | m + 1, x0, x1 => (g86_14 S101 S102 x0 x1 (fun y0 y1 => l86_15 S101 S102 k0 m y0 y1) k0)
theorem lt86_15 (S101) (S102) (h101 : (ctr101 S101).holds cl) (h102 : (ctr102 S102).holds cl) : ∀ (m) (x0 x1), iter [0, 3] (fun env K => exec cl N c86_14 env K) K m (e17 x0 x1) = l86_15 S101 S102 (fun y0 y1 => K (.exit 0) (e17 y0 y1)) m x0 x1 := by
  intro m
  induction m with
  | zero => intros; rfl
  | succ m ih =>
    intro x0 x1
    simp only [iter_succ, t86_14 S101 S102 h101 h102, loopK_normal, loopK_exit, loopK_ret, kp86_2, ih]
    rfl
theorem kp86_6 (x0 x1) : keep [3] (e17 x0 x1) = [(3, .v U2 x1)] := by kernel_rfl
def g86_15 (N : Nat) (S101 : Int → Option (Bool)) (S102 : Int → Option (Bool)) (x0 : V1) (x1 : Int) (k0 : Int → Option R) : Option R :=
l86_15 S101 S102 (fun y0 y1 => k0 y1) N x0 x1
theorem t86_15 (S101) (S102) (h101 : (ctr101 S101).holds cl) (h102 : (ctr102 S102).holds cl) (x0 x1) : exec cl N c86_15 (e17 x0 x1) K = (g86_15 N S101 S102 x0 x1 (fun y0 => K (.exit 0) [(3, .v U2 y0)])) := by
  simp only [c86_15, exec_out, exec_loop, kp86_2, lt86_15 S101 S102 h101 h102, kp86_6]
  rfl
theorem kp86_7 (x0) : keep [3] [(3, .v U2 x0)] = [(3, .v U2 x0)] := by kernel_rfl
def g86_17 (x0 : Int) (k0 : Int → Option R) : Option R :=
k0 x0
theorem t86_17 (x0) : exec cl N c86_17 [(3, .v U2 x0)] K = (g86_17 x0 (fun y0 => K .normal [(2, .v U2 y0)])) := by
  kernel_rfl
def g86_18 (N : Nat) (S101 : Int → Option (Bool)) (S102 : Int → Option (Bool)) (x0 : V1) (k0 : Int → Option R) (k1 : Int → Option R) : Option R :=
(g86_0 x0 (fun y0 => (g86_1 S101 y0 (fun y0 y1 => brB y1 (g86_2 y0 y1 (fun y0 => ((fun y0 => (k0 y0)) y0))) ((fun y0 => (g86_4 y0 (fun y0 y1 => (g86_15 N S101 S102 y0 y1 (fun y0 => ((fun y0 => (g86_17 y0 (fun y0 => (k1 y0)))) y0)))))) y0)))))
theorem t86_18 (S101) (S102) (h101 : (ctr101 S101).holds cl) (h102 : (ctr102 S102).holds cl) (x0) : exec cl N c86_18 [(0, .v .str x0)] K = (g86_18 N S101 S102 x0 (fun y0 => K .ret (e15 y0)) (fun y0 => K .ret [(2, .v U2 y0)])) := by
  simp only [c86_18, exec_seq, seqK_normal, seqK_exit, seqK_ret, t86_0, t86_1 S101 h101, c86_3, exec_out, exec_cond', hb86_0, Option.bind_some, brB_true, brB_false, t86_2, exec_ret, exec_skip, kp86_0, kp86_1, t86_4, c86_16, exec_block, t86_15 S101 S102 h101 h102, blockK_normal, blockK_ret, blockK_eq, kp86_7, t86_17]
  rfl
theorem rk86_0 (y0) : retK d86 .ret (e15 y0) = some [.v U2 y0] := by kernel_rfl
theorem rk86_1 (y0) : retK d86 .ret [(2, .v U2 y0)] = some [.v U2 y0] := by kernel_rfl
def g86 (N : Nat) (S101 : Int → Option (Bool)) (S102 : Int → Option (Bool)) (x0 : V1) (k : Int → Option R) : Option R :=
(g86_18 N S101 S102 x0 (fun y0 => k y0) (fun y0 => k y0))
theorem gen86 {N : Nat} {cl : Cal} (S101 : Int → Option (Bool)) (S102 : Int → Option (Bool)) (h101 : (ctr101 S101).holds cl) (h102 : (ctr102 S102).holds cl) (x0 : V1) {R : Type} (k : List E → Option R) : exec cl N c86 (params 0 [.v .str x0]) (fun e env => (retK d86 e env).bind k) = g86 N S101 S102 x0 (fun (r0 : Int) => k [.v U2 r0]) := by
  have e0 : params 0 [.v .str x0] = [(0, .v .str x0)] := by kernel_rfl
  simp only [c86, e0, t86_18 S101 S102 h101 h102, rk86_0, rk86_1, Option.bind_some]
  rfl
def ctr86 (S : V1 → Option (Int)) : Ctr := { A := V1 × Unit, B := Int, f := 86, enc := fun a => [.v .str a.1], dec := (decC (decV .str) dec0), S := fun a => S a.1, ent := fun b => [.v U2 b], ok := (decV_cons (T := .str) (fun es b h => dec0_some h)) }
def S86 (N : Nat) (x0 : V1) : Option (Int) := g86 N (S101 N) (S102 N) x0 (fun (r0 : Int) => some (r0))
def g65_0 (x0 : V1) (k0 : V1 → Option R) : Option R :=
k0 x0
theorem t65_0 (x0) : exec cl N c65_0 [(0, .v .str x0)] K = (g65_0 x0 (fun y0 => K .normal [(0, .v .str y0)])) := by
  kernel_rfl
def g65_1 (S86 : V1 → Option (Int)) (x0 : V1) (k0 : Bool → Option R) : Option R :=
brB (x0 != ([] : List UInt8)) (brB (decide ((x0.length : Int) ≤ (20 : Int))) ((S86 x0).bind fun r488 =>
k0 (r488 == (x0.length : Int))) (k0 false)) (k0 false)
theorem t65_1 (S86) (h86 : (ctr86 S86).holds cl) (x0) : exec cl N c65_1 [(0, .v .str x0)] K = (g65_1 S86 x0 (fun y0 => K .normal [(2, .v .bool y0)])) := by
  rw [← put_eq h86]
  kernel_rfl
def g65_2 (S86 : V1 → Option (Int)) (x0 : V1) (k0 : Bool → Option R) : Option R :=
(g65_0 x0 (fun y0 => (g65_1 S86 y0 (fun y0 => (k0 y0)))))
theorem t65_2 (S86) (h86 : (ctr86 S86).holds cl) (x0) : exec cl N c65_2 [(0, .v .str x0)] K = (g65_2 S86 x0 (fun y0 => K .ret [(2, .v .bool y0)])) := by
  simp only [c65_2, exec_seq, seqK_normal, seqK_exit, seqK_ret, t65_0, t65_1 S86 h86, exec_ret]
  rfl
theorem rk65_0 (y0) : retK d65 .ret [(2, .v .bool y0)] = some [.v .bool y0] := by kernel_rfl
def g65 (S86 : V1 → Option (Int)) (x0 : V1) (k : Bool → Option R) : Option R :=
(g65_2 S86 x0 (fun y0 => k y0))
theorem gen65 {N : Nat} {cl : Cal} (S86 : V1 → Option (Int)) (h86 : (ctr86 S86).holds cl) (x0 : V1) {R : Type} (k : List E → Option R) : exec cl N c65 (params 0 [.v .str x0]) (fun e env => (retK d65 e env).bind k) = g65 S86 x0 (fun (r0 : Bool) => k [.v .bool r0]) := by
  have e0 : params 0 [.v .str x0] = [(0, .v .str x0)] := by kernel_rfl
  simp only [c65, e0, t65_2 S86 h86, rk65_0, Option.bind_some]
  rfl
def ctr65 (S : V1 → Option (Bool)) : Ctr := { A := V1 × Unit, B := Bool, f := 65, enc := fun a => [.v .str a.1], dec := (decC (decV .str) dec0), S := fun a => S a.1, ent := fun b => [.v .bool b], ok := (decV_cons (T := .str) (fun es b h => dec0_some h)) }
def S65 (N : Nat) (x0 : V1) : Option (Bool) := g65 (S86 N) x0 (fun (r0 : Bool) => some (r0))
def g69_0 (x0 : V1) (k0 : V1 → Option R) : Option R :=
k0 x0
theorem t69_0 (x0) : exec cl N c69_0 [(0, .v .str x0)] K = (g69_0 x0 (fun y0 => K .normal [(0, .v .str y0)])) := by
  kernel_rfl
def g69_1 (x0 : V1) (k0 : V1 → V0 → Option R) : Option R :=
if 0 ≤ (x0.length : Int) ∧ (x0.length : Int) ≤ (x0.length : Int) ∧ (x0.length : Int) ≤ ((140737488355328 : Nat) : Int) then
k0 x0 (List.replicate (x0.length : Int).toNat (0 : Int))
else none
theorem t69_1 (x0) : exec cl N c69_1 [(0, .v .str x0)] K = (g69_1 x0 (fun y0 y1 => K .normal [(0, .v .str y0), (3, .own true 5 U1 .no y1)])) := by
  kernel_rfl
def g69_2 (x0 : V1) (x1 : V0) (k0 : V1 → V0 → Int → Option R) : Option R :=
k0 x0 x1 (0 : Int)
theorem t69_2 (x0 x1) : exec cl N c69_2 [(0, .v .str x0), (3, .own true 5 U1 .no x1)] K = (g69_2 x0 x1 (fun y0 y1 y2 => K .normal (e171 y0 y1 y2))) := by
  kernel_rfl
theorem kp69_0 (x0 x1 x2) : keep [0, 3, 4] (e171 x0 x1 x2) = (e171 x0 x1 x2) := by kernel_rfl
def g69_3 (x0 : V1) (x1 : V0) (x2 : Int) (k0 : V1 → V0 → Int → Bool → Option R) : Option R :=
k0 x0 x1 x2 (decide (x2 < (x0.length : Int)))
theorem t69_3 (x0 x1 x2) : exec cl N c69_3 (e171 x0 x1 x2) K = (g69_3 x0 x1 x2 (fun y0 y1 y2 y3 => K .normal (e172 y0 y1 y2 y3))) := by
  kernel_rfl
theorem kp69_1 (x0 x1 x2 x3) : keep [0, 3, 4] (e172 x0 x1 x2 x3) = (e171 x0 x1 x2) := by kernel_rfl
theorem hb69_0 (x0 x1 x2 x3) : boolOf? (ent (e172 x0 x1 x2 x3) (.t 11)) = some x3 := by kernel_rfl
def g69_5 (x0 : V1) (x1 : V0) (x2 : Int) (k0 : V1 → V0 → Int → Option R) : Option R :=
if 0 ≤ x2 ∧ x2 < (x0.length : Int) then
if 0 ≤ x2 ∧ x2 < (x1.length : Int) then
if x2.toNat < x1.length then
k0 x0 (x1.set x2.toNat ((x0.getD x2.toNat 0).toNat : Int)) x2
else none
else none
else none
theorem t69_5 (x0 x1 x2) : exec cl N c69_5 (e171 x0 x1 x2) K = (g69_5 x0 x1 x2 (fun y0 y1 y2 => K .normal (e171 y0 y1 y2))) := by
  kernel_rfl
def g69_6 (x0 : V1) (x1 : V0) (x2 : Int) (k0 : V1 → V0 → Int → Bool → Option R) : Option R :=
if 0 ≤ x2 ∧ x2 < (x0.length : Int) then
brB (decide (((x0.getD x2.toNat 0).toNat : Int) ≥ (65 : Int))) (if 0 ≤ x2 ∧ x2 < (x0.length : Int) then
k0 x0 x1 x2 (decide (((x0.getD x2.toNat 0).toNat : Int) ≤ (90 : Int)))
else none) (k0 x0 x1 x2 false)
else none
theorem t69_6 (x0 x1 x2) : exec cl N c69_6 (e171 x0 x1 x2) K = (g69_6 x0 x1 x2 (fun y0 y1 y2 y3 => K .normal (e173 y0 y1 y2 y3))) := by
  kernel_rfl
def g69_7 (x0 : V1) (x1 : V0) (x2 : Int) (x3 : Bool) (k0 : V1 → V0 → Int → Option R) : Option R :=
if 0 ≤ x2 ∧ x2 < (x0.length : Int) then
if 0 ≤ x2 ∧ x2 < (x1.length : Int) then
if x2.toNat < x1.length then
k0 x0 (x1.set x2.toNat (IntKind.u8.wrap ((IntKind.u8.wrap (((x0.getD x2.toNat 0).toNat : Int) - (65 : Int))) + (97 : Int)))) x2
else none
else none
else none
theorem t69_7 (x0 x1 x2 x3) : exec cl N c69_7 (e173 x0 x1 x2 x3) K = (g69_7 x0 x1 x2 x3 (fun y0 y1 y2 => K .normal (e171 y0 y1 y2))) := by
  kernel_rfl
theorem kp69_2 (x0 x1 x2 x3) : keep [0, 3, 4] (e173 x0 x1 x2 x3) = (e171 x0 x1 x2) := by kernel_rfl
theorem hb69_1 (x0 x1 x2 x3) : boolOf? (ent (e173 x0 x1 x2 x3) (.t 29)) = some x3 := by kernel_rfl
def g69_9 (x0 : V1) (x1 : V0) (x2 : Int) (k0 : V1 → V0 → Int → Option R) : Option R :=
(g69_5 x0 x1 x2 (fun y0 y1 y2 => (g69_6 y0 y1 y2 (fun y0 y1 y2 y3 => brB y3 (g69_7 y0 y1 y2 y3 (fun y0 y1 y2 => (k0 y0 y1 y2))) (k0 y0 y1 y2)))))
theorem t69_9 (x0 x1 x2) : exec cl N c69_9 (e171 x0 x1 x2) K = (g69_9 x0 x1 x2 (fun y0 y1 y2 => K .normal (e171 y0 y1 y2))) := by
  simp only [c69_9, exec_out, exec_block, exec_seq, seqK_normal, seqK_exit, seqK_ret, t69_5, t69_6, c69_8, exec_cond', hb69_1, Option.bind_some, brB_true, brB_false, t69_7, exec_skip, kp69_0, kp69_2, blockK_normal, blockK_ret, blockK_eq]
  rfl
def g69_10 (x0 : V1) (x1 : V0) (x2 : Int) (k0 : V1 → V0 → Int → Option R) : Option R :=
k0 x0 x1 (IntKind.i64.wrap (x2 + (1 : Int)))
theorem t69_10 (x0 x1 x2) : exec cl N c69_10 (e171 x0 x1 x2) K = (g69_10 x0 x1 x2 (fun y0 y1 y2 => K .normal (e171 y0 y1 y2))) := by
  kernel_rfl
def g69_11 (x0 : V1) (x1 : V0) (x2 : Int) (k0 : V1 → V0 → Int → Option R) (k1 : V1 → V0 → Int → Option R) : Option R :=
(g69_3 x0 x1 x2 (fun y0 y1 y2 y3 => brB y3 ((fun y0 y1 y2 => (g69_9 y0 y1 y2 (fun y0 y1 y2 => (g69_10 y0 y1 y2 k0)))) y0 y1 y2) (k1 y0 y1 y2)))
theorem t69_11 (x0 x1 x2) : exec cl N c69_11 (e171 x0 x1 x2) K = (g69_11 x0 x1 x2 (fun y0 y1 y2 => K .normal (e171 y0 y1 y2)) (fun y0 y1 y2 => K (.exit 0) (e171 y0 y1 y2))) := by
  simp only [c69_11, exec_seq, seqK_normal, seqK_exit, seqK_ret, t69_3, c69_4, exec_out, exec_cond', hb69_0, Option.bind_some, brB_true, brB_false, exec_skip, exec_exit, kp69_1, t69_9, t69_10]
  rfl
def l69_12 {R : Type} (k0 : V1 → V0 → Int → Option R) : Nat → V1 → V0 → Int → Option R
  | 0, _, _, _ => none
  | m + 1, x0, x1, x2 => (g69_11 x0 x1 x2 (fun y0 y1 y2 => l69_12 k0 m y0 y1 y2) k0)
theorem lt69_12 : ∀ (m) (x0 x1 x2), iter [0, 3, 4] (fun env K => exec cl N c69_11 env K) K m (e171 x0 x1 x2) = l69_12 (fun y0 y1 y2 => K (.exit 0) (e171 y0 y1 y2)) m x0 x1 x2 := by
  intro m
  induction m with
  | zero => intros; rfl
  | succ m ih =>
    intro x0 x1 x2
    simp only [iter_succ, t69_11, loopK_normal, loopK_exit, loopK_ret, kp69_0, ih]
    rfl
theorem kp69_3 (x0 x1 x2) : keep [3] (e171 x0 x1 x2) = (e174 x1) := by kernel_rfl
def g69_12 (N : Nat) (x0 : V1) (x1 : V0) (x2 : Int) (k0 : V0 → Option R) : Option R :=
l69_12 (fun y0 y1 y2 => k0 y1) N x0 x1 x2
theorem t69_12 (x0 x1 x2) : exec cl N c69_12 (e171 x0 x1 x2) K = (g69_12 N x0 x1 x2 (fun y0 => K (.exit 0) (e174 y0))) := by
  simp only [c69_12, exec_out, exec_loop, kp69_0, lt69_12, kp69_3]
  rfl
theorem kp69_4 (x0) : keep [3] (e174 x0) = (e174 x0) := by kernel_rfl
def g69_14 (x0 : V0) (k0 : V1 → Option R) : Option R :=
k0 (x0.map fun n => UInt8.ofNat n.toNat)
theorem t69_14 (x0) : exec cl N c69_14 (e174 x0) K = (g69_14 x0 (fun y0 => K .normal [(2, .v .str y0)])) := by
  kernel_rfl
def g69_15 (N : Nat) (x0 : V1) (k0 : V1 → Option R) : Option R :=
(g69_0 x0 (fun y0 => (g69_1 y0 (fun y0 y1 => (g69_2 y0 y1 (fun y0 y1 y2 => (g69_12 N y0 y1 y2 (fun y0 => ((fun y0 => (g69_14 y0 (fun y0 => (k0 y0)))) y0)))))))))
theorem t69_15 (x0) : exec cl N c69_15 [(0, .v .str x0)] K = (g69_15 N x0 (fun y0 => K .ret [(2, .v .str y0)])) := by
  simp only [c69_15, exec_seq, seqK_normal, seqK_exit, seqK_ret, t69_0, t69_1, t69_2, c69_13, exec_out, exec_block, t69_12, blockK_normal, blockK_ret, blockK_eq, kp69_4, t69_14, exec_ret]
  rfl
theorem rk69_0 (y0) : retK d69 .ret [(2, .v .str y0)] = some [.v .str y0] := by kernel_rfl
def g69 (N : Nat) (x0 : V1) (k : V1 → Option R) : Option R :=
(g69_15 N x0 (fun y0 => k y0))
theorem gen69 {N : Nat} {cl : Cal} (x0 : V1) {R : Type} (k : List E → Option R) : exec cl N c69 (params 0 [.v .str x0]) (fun e env => (retK d69 e env).bind k) = g69 N x0 (fun (r0 : V1) => k [.v .str r0]) := by
  have e0 : params 0 [.v .str x0] = [(0, .v .str x0)] := by kernel_rfl
  simp only [c69, e0, t69_15, rk69_0, Option.bind_some]
  rfl
def ctr69 (S : V1 → Option V5) : Ctr := { A := V1 × Unit, B := V1, f := 69, enc := fun a => [.v .str a.1], dec := (decC (decV .str) dec0), S := fun a => S a.1, ent := fun b => [.v .str b], ok := (decV_cons (T := .str) (fun es b h => dec0_some h)) }
def S69 (N : Nat) (x0 : V1) : Option V5 := g69 N x0 (fun (r0 : V1) => some (r0))
def g103_0 (x0 : Int) (k0 : Int → Option R) : Option R :=
k0 x0
theorem t103_0 (x0) : exec cl N c103_0 [(0, .v U1 x0)] K = (g103_0 x0 (fun y0 => K .normal [(0, .v U1 y0)])) := by
  kernel_rfl
def g103_1 (x0 : Int) (k0 : Int → Bool → Option R) : Option R :=
brB (decide (x0 < (32 : Int))) (k0 x0 true) (k0 x0 (decide (x0 > (126 : Int))))
theorem t103_1 (x0) : exec cl N c103_1 [(0, .v U1 x0)] K = (g103_1 x0 (fun y0 y1 => K .normal (e175 y0 y1))) := by
  kernel_rfl
def g103_2 (x0 : Int) (x1 : Bool) (k0 : Bool → Option R) : Option R :=
k0 false
theorem t103_2 (x0 x1) : exec cl N c103_2 (e175 x0 x1) K = (g103_2 x0 x1 (fun y0 => K .normal [(2, .v .bool y0)])) := by
  kernel_rfl
theorem kp103_0 (x0) : keep [0, 2] [(2, .v .bool x0)] = [(0, .dead), (2, .v .bool x0)] := by kernel_rfl
theorem kp103_1 (x0 x1) : keep [0, 2] (e175 x0 x1) = [(0, .v U1 x0), (2, .dead)] := by kernel_rfl
theorem hb103_0 (x0 x1) : boolOf? (ent (e175 x0 x1) (.t 9)) = some x1 := by kernel_rfl
def g103_4 (x0 : Int) (k0 : Int → Int → Option R) : Option R :=
k0 x0 (0 : Int)
theorem t103_4 (x0) : exec cl N c103_4 [(0, .v U1 x0), (2, .dead)] K = (g103_4 x0 (fun y0 y1 => K .normal (e176 y0 y1))) := by
  kernel_rfl
theorem kp103_2 (x0 x1) : keep [0, 3] (e176 x0 x1) = (e176 x0 x1) := by kernel_rfl
def g103_5 (x0 x1 : Int) (k0 : Int → Int → Bool → Option R) : Option R :=
k0 x0 x1 (decide (x1 < (15 : Int)))
theorem t103_5 (x0 x1) : exec cl N c103_5 (e176 x0 x1) K = (g103_5 x0 x1 (fun y0 y1 y2 => K .normal (e177 y0 y1 y2))) := by
  kernel_rfl
theorem kp103_3 (x0 x1 x2) : keep [0, 3] (e177 x0 x1 x2) = (e176 x0 x1) := by kernel_rfl
theorem hb103_1 (x0 x1 x2) : boolOf? (ent (e177 x0 x1 x2) (.t 11)) = some x2 := by kernel_rfl
def g103_7 (x0 x1 : Int) (k0 : Int → Int → Bool → Option R) : Option R :=
if 0 ≤ x1 ∧ x1 < (([32, 46, 44, 59, 58, 33, 63, 34, 45, 91, 93, 60, 62, 123, 125] : List UInt8).length : Int) then
k0 x0 x1 (((([32, 46, 44, 59, 58, 33, 63, 34, 45, 91, 93, 60, 62, 123, 125] : List UInt8).getD x1.toNat 0).toNat : Int) == x0)
else none
theorem t103_7 (x0 x1) : exec cl N c103_7 (e176 x0 x1) K = (g103_7 x0 x1 (fun y0 y1 y2 => K .normal (e178 y0 y1 y2))) := by
  kernel_rfl
def g103_8 (x0 x1 : Int) (x2 : Bool) (k0 : Bool → Option R) : Option R :=
k0 false
theorem t103_8 (x0 x1 x2) : exec cl N c103_8 (e178 x0 x1 x2) K = (g103_8 x0 x1 x2 (fun y0 => K .normal [(2, .v .bool y0)])) := by
  kernel_rfl
theorem kp103_4 (x0) : keep [0, 2, 3] [(2, .v .bool x0)] = (e179 x0) := by kernel_rfl
theorem kp103_5 (x0 x1 x2) : keep [0, 2, 3] (e178 x0 x1 x2) = (e180 x0 x1) := by kernel_rfl
theorem hb103_2 (x0 x1 x2) : boolOf? (ent (e178 x0 x1 x2) (.t 17)) = some x2 := by kernel_rfl
theorem kp103_6 (x0) : keep [0, 2, 3] (e179 x0) = (e179 x0) := by kernel_rfl
theorem kp103_7 (x0 x1) : keep [0, 2, 3] (e180 x0 x1) = (e180 x0 x1) := by kernel_rfl
def g103_11 (x0 x1 : Int) (k0 : Int → Int → Option R) : Option R :=
k0 x0 (IntKind.i64.wrap (x1 + (1 : Int)))
theorem t103_11 (x0 x1) : exec cl N c103_11 (e180 x0 x1) K = (g103_11 x0 x1 (fun y0 y1 => K .normal (e176 y0 y1))) := by
  kernel_rfl
def g103_12 (x0 x1 : Int) (k0 : Bool → Option R) (k1 : Int → Int → Option R) (k2 : Int → Int → Option R) : Option R :=
(g103_5 x0 x1 (fun y0 y1 y2 => brB y2 ((fun y0 y1 => (g103_7 y0 y1 (fun y0 y1 y2 => brB y2 (g103_8 y0 y1 y2 (fun y0 => ((fun y0 => (k0 y0)) y0))) (g103_11 y0 y1 k1)))) y0 y1) (k2 y0 y1)))
theorem t103_12 (x0 x1) : exec cl N c103_12 (e176 x0 x1) K = (g103_12 x0 x1 (fun y0 => K .ret (e179 y0)) (fun y0 y1 => K .normal (e176 y0 y1)) (fun y0 y1 => K (.exit 0) (e176 y0 y1))) := by
  simp only [c103_12, exec_seq, seqK_normal, seqK_exit, seqK_ret, t103_5, c103_6, exec_out, exec_cond', hb103_1, Option.bind_some, brB_true, brB_false, exec_skip, exec_exit, kp103_3, c103_10, exec_block, t103_7, c103_9, hb103_2, t103_8, exec_ret, kp103_4, kp103_5, blockK_normal, blockK_ret, blockK_eq, kp103_6, kp103_7, t103_11]
  rfl
def l103_13 {R : Type} (k0 : Bool → Option R) (k1 : Int → Int → Option R) : Nat → Int → Int → Option R
  | 0, _, _ => none
  | m + 1, x0, x1 => (g103_12 x0 x1 k0 (fun y0 y1 => l103_13 k0 k1 m y0 y1) k1)
theorem lt103_13 : ∀ (m) (x0 x1), iter [0, 3] (fun env K => exec cl N c103_12 env K) K m (e176 x0 x1) = l103_13 (fun y0 => K .ret (e179 y0)) (fun y0 y1 => K (.exit 0) (e176 y0 y1)) m x0 x1 := by
  intro m
  induction m with
  | zero => intros; rfl
  | succ m ih =>
    intro x0 x1
    simp only [iter_succ, t103_12, loopK_normal, loopK_exit, loopK_ret, kp103_2, ih]
    rfl
theorem kp103_8 (x0) : keep [2] (e179 x0) = [(2, .v .bool x0)] := by kernel_rfl
theorem kp103_9 (x0 x1) : keep [2] (e176 x0 x1) = [(2, .dead)] := by kernel_rfl
def g103_13 (N : Nat) (x0 x1 : Int) (k0 : Bool → Option R) (k1 : Option R) : Option R :=
l103_13 (fun y0 => k0 y0) (fun y0 y1 => k1) N x0 x1
theorem t103_13 (x0 x1) : exec cl N c103_13 (e176 x0 x1) K = (g103_13 N x0 x1 (fun y0 => K .ret [(2, .v .bool y0)]) (K (.exit 0) [(2, .dead)])) := by
  simp only [c103_13, exec_out, exec_loop, kp103_2, lt103_13, kp103_8, kp103_9]
  rfl
theorem kp103_10 (x0) : keep [2] [(2, .v .bool x0)] = [(2, .v .bool x0)] := by kernel_rfl
theorem kp103_11 : keep [2] [(2, .dead)] = [(2, .dead)] := by kernel_rfl
def g103_15 (k0 : Bool → Option R) : Option R :=
k0 true
theorem t103_15 : exec cl N c103_15 [(2, .dead)] K = (g103_15 (fun y0 => K .normal [(2, .v .bool y0)])) := by
  kernel_rfl
def g103_16 (N : Nat) (x0 : Int) (k0 : Bool → Option R) (k1 : Bool → Option R) : Option R :=
(g103_0 x0 (fun y0 => (g103_1 y0 (fun y0 y1 => brB y1 (g103_2 y0 y1 (fun y0 => ((fun y0 => (k0 y0)) y0))) ((fun y0 => (g103_4 y0 (fun y0 y1 => (g103_13 N y0 y1 (fun y0 => (k1 y0)) (g103_15 (fun y0 => (k1 y0))))))) y0)))))
theorem t103_16 (x0) : exec cl N c103_16 [(0, .v U1 x0)] K = (g103_16 N x0 (fun y0 => K .ret [(0, .dead), (2, .v .bool y0)]) (fun y0 => K .ret [(2, .v .bool y0)])) := by
  simp only [c103_16, exec_seq, seqK_normal, seqK_exit, seqK_ret, t103_0, t103_1, c103_3, exec_out, exec_cond', hb103_0, Option.bind_some, brB_true, brB_false, t103_2, exec_ret, exec_skip, kp103_0, kp103_1, t103_4, c103_14, exec_block, t103_13, blockK_normal, blockK_ret, blockK_eq, kp103_10, kp103_11, t103_15]
  rfl
theorem rk103_0 (y0) : retK d103 .ret [(0, .dead), (2, .v .bool y0)] = some [.v .bool y0] := by kernel_rfl
theorem rk103_1 (y0) : retK d103 .ret [(2, .v .bool y0)] = some [.v .bool y0] := by kernel_rfl
def g103 (N : Nat) (x0 : Int) (k : Bool → Option R) : Option R :=
(g103_16 N x0 (fun y0 => k y0) (fun y0 => k y0))
theorem gen103 {N : Nat} {cl : Cal} (x0 : Int) {R : Type} (k : List E → Option R) : exec cl N c103 (params 0 [.v U1 x0]) (fun e env => (retK d103 e env).bind k) = g103 N x0 (fun (r0 : Bool) => k [.v .bool r0]) := by
  have e0 : params 0 [.v U1 x0] = [(0, .v U1 x0)] := by kernel_rfl
  simp only [c103, e0, t103_16, rk103_0, rk103_1, Option.bind_some]
  rfl
def ctr103 (S : Int → Option (Bool)) : Ctr := { A := Int × Unit, B := Bool, f := 103, enc := fun a => [.v U1 a.1], dec := (decC (decV U1) dec0), S := fun a => S a.1, ent := fun b => [.v .bool b], ok := (decV_cons (T := U1) (fun es b h => dec0_some h)) }
def S103 (N : Nat) (x0 : Int) : Option (Bool) := g103 N x0 (fun (r0 : Bool) => some (r0))
def g87_0 (x0 : V1) (k0 : V1 → Option R) : Option R :=
k0 x0
theorem t87_0 (x0) : exec cl N c87_0 [(0, .v .str x0)] K = (g87_0 x0 (fun y0 => K .normal [(0, .v .str y0)])) := by
  kernel_rfl
def g87_1 (x0 : V1) (k0 : V1 → Bool → Option R) : Option R :=
k0 x0 (decide ((x0.length : Int) > (16 : Int)))
theorem t87_1 (x0) : exec cl N c87_1 [(0, .v .str x0)] K = (g87_1 x0 (fun y0 y1 => K .normal (e181 y0 y1))) := by
  kernel_rfl
def g87_2 (x0 : V1) (x1 : Bool) (k0 : Int → Option R) : Option R :=
k0 (3 : Int)
theorem t87_2 (x0 x1) : exec cl N c87_2 (e181 x0 x1) K = (g87_2 x0 x1 (fun y0 => K .normal [(2, .v U2 y0)])) := by
  kernel_rfl
theorem kp87_0 (x0) : keep [0, 2] [(2, .v U2 x0)] = (e15 x0) := by kernel_rfl
theorem kp87_1 (x0 x1) : keep [0, 2] (e181 x0 x1) = (e16 x0) := by kernel_rfl
theorem hb87_0 (x0 x1) : boolOf? (ent (e181 x0 x1) (.t 6)) = some x1 := by kernel_rfl
def g87_4 (S69 : V1 → Option V5) (x0 : V1) (k0 : V1 → Bool → Option R) : Option R :=
brB (x0 == ([] : List UInt8)) (k0 x0 true) ((S69 x0).bind fun r540 =>
k0 x0 (r540 != x0))
theorem t87_4 (S69) (h69 : (ctr69 S69).holds cl) (x0) : exec cl N c87_4 (e16 x0) K = (g87_4 S69 x0 (fun y0 y1 => K .normal (e182 y0 y1))) := by
  rw [← put_eq h69]
  kernel_rfl
def g87_5 (x0 : V1) (x1 : Bool) (k0 : Int → Option R) : Option R :=
k0 (2 : Int)
theorem t87_5 (x0 x1) : exec cl N c87_5 (e182 x0 x1) K = (g87_5 x0 x1 (fun y0 => K .normal [(2, .v U2 y0)])) := by
  kernel_rfl
theorem kp87_2 (x0 x1) : keep [0, 2] (e182 x0 x1) = (e16 x0) := by kernel_rfl
theorem hb87_1 (x0 x1) : boolOf? (ent (e182 x0 x1) (.t 14)) = some x1 := by kernel_rfl
def g87_7 (x0 : V1) (k0 : V1 → Int → Option R) : Option R :=
k0 x0 (0 : Int)
theorem t87_7 (x0) : exec cl N c87_7 (e16 x0) K = (g87_7 x0 (fun y0 y1 => K .normal (e17 y0 y1))) := by
  kernel_rfl
theorem kp87_3 (x0 x1) : keep [0, 3] (e17 x0 x1) = (e17 x0 x1) := by kernel_rfl
def g87_8 (x0 : V1) (x1 : Int) (k0 : V1 → Int → Bool → Option R) : Option R :=
k0 x0 x1 (decide (x1 < (x0.length : Int)))
theorem t87_8 (x0 x1) : exec cl N c87_8 (e17 x0 x1) K = (g87_8 x0 x1 (fun y0 y1 y2 => K .normal (e183 y0 y1 y2))) := by
  kernel_rfl
theorem kp87_4 (x0 x1 x2) : keep [0, 3] (e183 x0 x1 x2) = (e17 x0 x1) := by kernel_rfl
theorem hb87_2 (x0 x1 x2) : boolOf? (ent (e183 x0 x1 x2) (.t 18)) = some x2 := by kernel_rfl
def g87_10 (S103 : Int → Option (Bool)) (x0 : V1) (x1 : Int) (k0 : V1 → Int → Bool → Option R) : Option R :=
if 0 ≤ x1 ∧ x1 < (x0.length : Int) then
(S103 ((x0.getD x1.toNat 0).toNat : Int)).bind fun r543 =>
k0 x0 x1 (!r543)
else none
theorem t87_10 (S103) (h103 : (ctr103 S103).holds cl) (x0 x1) : exec cl N c87_10 (e17 x0 x1) K = (g87_10 S103 x0 x1 (fun y0 y1 y2 => K .normal (e169 y0 y1 y2))) := by
  rw [← put_eq h103]
  kernel_rfl
def g87_11 (x0 : V1) (x1 : Int) (x2 : Bool) (k0 : Int → Option R) : Option R :=
k0 (2 : Int)
theorem t87_11 (x0 x1 x2) : exec cl N c87_11 (e169 x0 x1 x2) K = (g87_11 x0 x1 x2 (fun y0 => K .normal [(2, .v U2 y0)])) := by
  kernel_rfl
theorem kp87_5 (x0) : keep [0, 2, 3] [(2, .v U2 x0)] = (e22 x0) := by kernel_rfl
theorem kp87_6 (x0 x1 x2) : keep [0, 2, 3] (e169 x0 x1 x2) = (e20 x0 x1) := by kernel_rfl
theorem hb87_3 (x0 x1 x2) : boolOf? (ent (e169 x0 x1 x2) (.t 25)) = some x2 := by kernel_rfl
theorem kp87_7 (x0) : keep [0, 2, 3] (e22 x0) = (e22 x0) := by kernel_rfl
theorem kp87_8 (x0 x1) : keep [0, 2, 3] (e20 x0 x1) = (e20 x0 x1) := by kernel_rfl
def g87_14 (x0 : V1) (x1 : Int) (k0 : V1 → Int → Option R) : Option R :=
k0 x0 (IntKind.i64.wrap (x1 + (1 : Int)))
theorem t87_14 (x0 x1) : exec cl N c87_14 (e20 x0 x1) K = (g87_14 x0 x1 (fun y0 y1 => K .normal (e17 y0 y1))) := by
  kernel_rfl
def g87_15 (S103 : Int → Option (Bool)) (x0 : V1) (x1 : Int) (k0 : Int → Option R) (k1 : V1 → Int → Option R) (k2 : V1 → Int → Option R) : Option R :=
(g87_8 x0 x1 (fun y0 y1 y2 => brB y2 ((fun y0 y1 => (g87_10 S103 y0 y1 (fun y0 y1 y2 => brB y2 (g87_11 y0 y1 y2 (fun y0 => ((fun y0 => (k0 y0)) y0))) (g87_14 y0 y1 k1)))) y0 y1) (k2 y0 y1)))
theorem t87_15 (S103) (h103 : (ctr103 S103).holds cl) (x0 x1) : exec cl N c87_15 (e17 x0 x1) K = (g87_15 S103 x0 x1 (fun y0 => K .ret (e22 y0)) (fun y0 y1 => K .normal (e17 y0 y1)) (fun y0 y1 => K (.exit 0) (e17 y0 y1))) := by
  simp only [c87_15, exec_seq, seqK_normal, seqK_exit, seqK_ret, t87_8, c87_9, exec_out, exec_cond', hb87_2, Option.bind_some, brB_true, brB_false, exec_skip, exec_exit, kp87_4, c87_13, exec_block, t87_10 S103 h103, c87_12, hb87_3, t87_11, exec_ret, kp87_5, kp87_6, blockK_normal, blockK_ret, blockK_eq, kp87_7, kp87_8, t87_14]
  rfl
def l87_16 {R : Type} (S103 : Int → Option (Bool)) (k0 : Int → Option R) (k1 : V1 → Int → Option R) : Nat → V1 → Int → Option R
  | 0, _, _ => none
  | m + 1, x0, x1 => (g87_15 S103 x0 x1 k0 (fun y0 y1 => l87_16 S103 k0 k1 m y0 y1) k1)
theorem lt87_16 (S103) (h103 : (ctr103 S103).holds cl) : ∀ (m) (x0 x1), iter [0, 3] (fun env K => exec cl N c87_15 env K) K m (e17 x0 x1) = l87_16 S103 (fun y0 => K .ret (e22 y0)) (fun y0 y1 => K (.exit 0) (e17 y0 y1)) m x0 x1 := by
  intro m
  induction m with
  | zero => intros; rfl
  | succ m ih =>
    intro x0 x1
    simp only [iter_succ, t87_15 S103 h103, loopK_normal, loopK_exit, loopK_ret, kp87_3, ih]
    rfl
theorem kp87_9 (x0) : keep [2] (e22 x0) = [(2, .v U2 x0)] := by kernel_rfl
theorem kp87_10 (x0 x1) : keep [2] (e17 x0 x1) = [(2, .dead)] := by kernel_rfl
def g87_16 (N : Nat) (S103 : Int → Option (Bool)) (x0 : V1) (x1 : Int) (k0 : Int → Option R) (k1 : Option R) : Option R :=
l87_16 S103 (fun y0 => k0 y0) (fun y0 y1 => k1) N x0 x1
theorem t87_16 (S103) (h103 : (ctr103 S103).holds cl) (x0 x1) : exec cl N c87_16 (e17 x0 x1) K = (g87_16 N S103 x0 x1 (fun y0 => K .ret [(2, .v U2 y0)]) (K (.exit 0) [(2, .dead)])) := by
  simp only [c87_16, exec_out, exec_loop, kp87_3, lt87_16 S103 h103, kp87_10, kp87_9]
  rfl
theorem kp87_11 (x0) : keep [2] [(2, .v U2 x0)] = [(2, .v U2 x0)] := by kernel_rfl
theorem kp87_12 : keep [2] [(2, .dead)] = [(2, .dead)] := by kernel_rfl
def g87_18 (k0 : Int → Option R) : Option R :=
k0 (0 : Int)
theorem t87_18 : exec cl N c87_18 [(2, .dead)] K = (g87_18 (fun y0 => K .normal [(2, .v U2 y0)])) := by
  kernel_rfl
def g87_19 (N : Nat) (S69 : V1 → Option V5) (S103 : Int → Option (Bool)) (x0 : V1) (k0 : Int → Option R) (k1 : Int → Option R) : Option R :=
(g87_0 x0 (fun y0 => (g87_1 y0 (fun y0 y1 => brB y1 (g87_2 y0 y1 (fun y0 => ((fun y0 => (k0 y0)) y0))) ((fun y0 => (g87_4 S69 y0 (fun y0 y1 => brB y1 (g87_5 y0 y1 (fun y0 => ((fun y0 => (k0 y0)) y0))) ((fun y0 => (g87_7 y0 (fun y0 y1 => (g87_16 N S103 y0 y1 (fun y0 => (k1 y0)) (g87_18 (fun y0 => (k1 y0))))))) y0)))) y0)))))
theorem t87_19 (S69) (S103) (h69 : (ctr69 S69).holds cl) (h103 : (ctr103 S103).holds cl) (x0) : exec cl N c87_19 [(0, .v .str x0)] K = (g87_19 N S69 S103 x0 (fun y0 => K .ret (e15 y0)) (fun y0 => K .ret [(2, .v U2 y0)])) := by
  simp only [c87_19, exec_seq, seqK_normal, seqK_exit, seqK_ret, t87_0, t87_1, c87_3, exec_out, exec_cond', hb87_0, Option.bind_some, brB_true, brB_false, t87_2, exec_ret, exec_skip, kp87_0, kp87_1, t87_4 S69 h69, c87_6, hb87_1, t87_5, kp87_2, t87_7, c87_17, exec_block, t87_16 S103 h103, blockK_normal, blockK_ret, blockK_eq, kp87_11, kp87_12, t87_18]
  rfl
theorem rk87_0 (y0) : retK d87 .ret (e15 y0) = some [.v U2 y0] := by kernel_rfl
theorem rk87_1 (y0) : retK d87 .ret [(2, .v U2 y0)] = some [.v U2 y0] := by kernel_rfl
def g87 (N : Nat) (S69 : V1 → Option V5) (S103 : Int → Option (Bool)) (x0 : V1) (k : Int → Option R) : Option R :=
(g87_19 N S69 S103 x0 (fun y0 => k y0) (fun y0 => k y0))
theorem gen87 {N : Nat} {cl : Cal} (S69 : V1 → Option V5) (S103 : Int → Option (Bool)) (h69 : (ctr69 S69).holds cl) (h103 : (ctr103 S103).holds cl) (x0 : V1) {R : Type} (k : List E → Option R) : exec cl N c87 (params 0 [.v .str x0]) (fun e env => (retK d87 e env).bind k) = g87 N S69 S103 x0 (fun (r0 : Int) => k [.v U2 r0]) := by
  have e0 : params 0 [.v .str x0] = [(0, .v .str x0)] := by kernel_rfl
  simp only [c87, e0, t87_19 S69 S103 h69 h103, rk87_0, rk87_1, Option.bind_some]
  rfl
def ctr87 (S : V1 → Option (Int)) : Ctr := { A := V1 × Unit, B := Int, f := 87, enc := fun a => [.v .str a.1], dec := (decC (decV .str) dec0), S := fun a => S a.1, ent := fun b => [.v U2 b], ok := (decV_cons (T := .str) (fun es b h => dec0_some h)) }
def S87 (N : Nat) (x0 : V1) : Option (Int) := g87 N (S69 N) (S103 N) x0 (fun (r0 : Int) => some (r0))
def g70_0 (x0 : V6) (x1 : V1) (k0 : V6 → V1 → Option R) : Option R :=
k0 x0 x1
theorem t70_0 (x0 x1) : exec cl N c70_0 (e32 x0 x1) K = (g70_0 x0 x1 (fun y0 y1 => K .normal (e32 y0 y1))) := by
  kernel_rfl
def g70_1 (x0 : V6) (x1 : V1) (k0 : V6 → V1 → Int → Option R) : Option R :=
k0 x0 x1 (0 : Int)
theorem t70_1 (x0 x1) : exec cl N c70_1 (e32 x0 x1) K = (g70_1 x0 x1 (fun y0 y1 y2 => K .normal (e37 y0 y1 y2))) := by
  kernel_rfl
theorem kp70_0 (x0 x1 x2) : keep [0, 1, 5] (e37 x0 x1 x2) = (e37 x0 x1 x2) := by kernel_rfl
def g70_2 (x0 : V6) (x1 : V1) (x2 : Int) (k0 : V6 → V1 → Int → Bool → Option R) : Option R :=
k0 x0 x1 x2 (decide (x2 < (x0.length : Int)))
theorem t70_2 (x0 x1 x2) : exec cl N c70_2 (e37 x0 x1 x2) K = (g70_2 x0 x1 x2 (fun y0 y1 y2 y3 => K .normal (e184 y0 y1 y2 y3))) := by
  kernel_rfl
theorem kp70_1 (x0 x1 x2 x3) : keep [0, 1, 5] (e184 x0 x1 x2 x3) = (e37 x0 x1 x2) := by kernel_rfl
theorem hb70_0 (x0 x1 x2 x3) : boolOf? (ent (e184 x0 x1 x2 x3) (.t 9)) = some x3 := by kernel_rfl
def g70_4 (x0 : V6) (x1 : V1) (x2 : Int) (k0 : V6 → V1 → Int → Bool → Option R) : Option R :=
if 0 ≤ x2 ∧ x2 < (x0.length : Int) then
k0 x0 x1 x2 ((x0.getD x2.toNat []) == x1)
else none
theorem t70_4 (x0 x1 x2) : exec cl N c70_4 (e37 x0 x1 x2) K = (g70_4 x0 x1 x2 (fun y0 y1 y2 y3 => K .normal (e185 y0 y1 y2 y3))) := by
  kernel_rfl
def g70_5 (x0 : V6) (x1 : V1) (x2 : Int) (x3 : Bool) (k0 : Bool → Option R) : Option R :=
k0 true
theorem t70_5 (x0 x1 x2 x3) : exec cl N c70_5 (e185 x0 x1 x2 x3) K = (g70_5 x0 x1 x2 x3 (fun y0 => K .normal [(4, .v .bool y0)])) := by
  kernel_rfl
theorem kp70_2 (x0) : keep [0, 1, 4, 5] [(4, .v .bool x0)] = (e186 x0) := by kernel_rfl
theorem kp70_3 (x0 x1 x2 x3) : keep [0, 1, 4, 5] (e185 x0 x1 x2 x3) = (e187 x0 x1 x2) := by kernel_rfl
theorem hb70_1 (x0 x1 x2 x3) : boolOf? (ent (e185 x0 x1 x2 x3) (.t 17)) = some x3 := by kernel_rfl
theorem kp70_4 (x0) : keep [0, 1, 4, 5] (e186 x0) = (e186 x0) := by kernel_rfl
theorem kp70_5 (x0 x1 x2) : keep [0, 1, 4, 5] (e187 x0 x1 x2) = (e187 x0 x1 x2) := by kernel_rfl
def g70_8 (x0 : V6) (x1 : V1) (x2 : Int) (k0 : V6 → V1 → Int → Option R) : Option R :=
k0 x0 x1 (IntKind.i64.wrap (x2 + (1 : Int)))
theorem t70_8 (x0 x1 x2) : exec cl N c70_8 (e187 x0 x1 x2) K = (g70_8 x0 x1 x2 (fun y0 y1 y2 => K .normal (e37 y0 y1 y2))) := by
  kernel_rfl
def g70_9 (x0 : V6) (x1 : V1) (x2 : Int) (k0 : Bool → Option R) (k1 : V6 → V1 → Int → Option R) (k2 : V6 → V1 → Int → Option R) : Option R :=
(g70_2 x0 x1 x2 (fun y0 y1 y2 y3 => brB y3 ((fun y0 y1 y2 => (g70_4 y0 y1 y2 (fun y0 y1 y2 y3 => brB y3 (g70_5 y0 y1 y2 y3 (fun y0 => ((fun y0 => (k0 y0)) y0))) (g70_8 y0 y1 y2 k1)))) y0 y1 y2) (k2 y0 y1 y2)))
theorem t70_9 (x0 x1 x2) : exec cl N c70_9 (e37 x0 x1 x2) K = (g70_9 x0 x1 x2 (fun y0 => K .ret (e186 y0)) (fun y0 y1 y2 => K .normal (e37 y0 y1 y2)) (fun y0 y1 y2 => K (.exit 0) (e37 y0 y1 y2))) := by
  simp only [c70_9, exec_seq, seqK_normal, seqK_exit, seqK_ret, t70_2, c70_3, exec_out, exec_cond', hb70_0, Option.bind_some, brB_true, brB_false, exec_skip, exec_exit, kp70_1, c70_7, exec_block, t70_4, c70_6, hb70_1, t70_5, exec_ret, kp70_2, kp70_3, blockK_normal, blockK_ret, blockK_eq, kp70_4, kp70_5, t70_8]
  rfl
def l70_10 {R : Type} (k0 : Bool → Option R) (k1 : V6 → V1 → Int → Option R) : Nat → V6 → V1 → Int → Option R
  | 0, _, _, _ => none
  | m + 1, x0, x1, x2 => (g70_9 x0 x1 x2 k0 (fun y0 y1 y2 => l70_10 k0 k1 m y0 y1 y2) k1)
theorem lt70_10 : ∀ (m) (x0 x1 x2), iter [0, 1, 5] (fun env K => exec cl N c70_9 env K) K m (e37 x0 x1 x2) = l70_10 (fun y0 => K .ret (e186 y0)) (fun y0 y1 y2 => K (.exit 0) (e37 y0 y1 y2)) m x0 x1 x2 := by
  intro m
  induction m with
  | zero => intros; rfl
  | succ m ih =>
    intro x0 x1 x2
    simp only [iter_succ, t70_9, loopK_normal, loopK_exit, loopK_ret, kp70_0, ih]
    rfl
theorem kp70_6 (x0) : keep [4] (e186 x0) = [(4, .v .bool x0)] := by kernel_rfl
theorem kp70_7 (x0 x1 x2) : keep [4] (e37 x0 x1 x2) = [(4, .dead)] := by kernel_rfl
def g70_10 (N : Nat) (x0 : V6) (x1 : V1) (x2 : Int) (k0 : Bool → Option R) (k1 : Option R) : Option R :=
l70_10 (fun y0 => k0 y0) (fun y0 y1 y2 => k1) N x0 x1 x2
theorem t70_10 (x0 x1 x2) : exec cl N c70_10 (e37 x0 x1 x2) K = (g70_10 N x0 x1 x2 (fun y0 => K .ret [(4, .v .bool y0)]) (K (.exit 0) [(4, .dead)])) := by
  simp only [c70_10, exec_out, exec_loop, kp70_0, lt70_10, kp70_6, kp70_7]
  rfl
theorem kp70_8 (x0) : keep [4] [(4, .v .bool x0)] = [(4, .v .bool x0)] := by kernel_rfl
theorem kp70_9 : keep [4] [(4, .dead)] = [(4, .dead)] := by kernel_rfl
def g70_12 (k0 : Bool → Option R) : Option R :=
k0 false
theorem t70_12 : exec cl N c70_12 [(4, .dead)] K = (g70_12 (fun y0 => K .normal [(4, .v .bool y0)])) := by
  kernel_rfl
def g70_13 (N : Nat) (x0 : V6) (x1 : V1) (k0 : Bool → Option R) : Option R :=
(g70_0 x0 x1 (fun y0 y1 => (g70_1 y0 y1 (fun y0 y1 y2 => (g70_10 N y0 y1 y2 (fun y0 => (k0 y0)) (g70_12 (fun y0 => (k0 y0))))))))
theorem t70_13 (x0 x1) : exec cl N c70_13 (e32 x0 x1) K = (g70_13 N x0 x1 (fun y0 => K .ret [(4, .v .bool y0)])) := by
  simp only [c70_13, exec_seq, seqK_normal, seqK_exit, seqK_ret, t70_0, t70_1, c70_11, exec_out, exec_block, t70_10, blockK_normal, blockK_ret, blockK_eq, kp70_8, kp70_9, t70_12, exec_ret]
  rfl
theorem rk70_0 (y0) : retK d70 .ret [(4, .v .bool y0)] = some [.v .bool y0] := by kernel_rfl
def g70 (N : Nat) (x0 : V6) (x1 : V1) (k : Bool → Option R) : Option R :=
(g70_13 N x0 x1 (fun y0 => k y0))
theorem gen70 {N : Nat} {cl : Cal} (x0 : V6) (x1 : V1) {R : Type} (k : List E → Option R) : exec cl N c70 (params 0 [.v U0 x0, .v .str x1]) (fun e env => (retK d70 e env).bind k) = g70 N x0 x1 (fun (r0 : Bool) => k [.v .bool r0]) := by
  have e0 : params 0 [.v U0 x0, .v .str x1] = (e32 x0 x1) := by kernel_rfl
  simp only [c70, e0, t70_13, rk70_0, Option.bind_some]
  rfl
def ctr70 (S : V6 → V1 → Option (Bool)) : Ctr := { A := V6 × V1 × Unit, B := Bool, f := 70, enc := fun a => [.v U0 a.1, .v .str a.2.1], dec := (decC (decV U0) (decC (decV .str) dec0)), S := fun a => S a.1 a.2.1, ent := fun b => [.v .bool b], ok := (decV_cons (T := U0) (decV_cons (T := .str) (fun es b h => dec0_some h))) }
def S70 (N : Nat) (x0 : V6) (x1 : V1) : Option (Bool) := g70 N x0 x1 (fun (r0 : Bool) => some (r0))
def g66_0 (x0 : V21) (k0 : V21 → Option R) : Option R :=
k0 x0
theorem t66_0 (x0) : exec cl N c66_0 [(0, .v U20 x0)] K = (g66_0 x0 (fun y0 => K .normal [(1, .loc U20 .no y0)])) := by
  kernel_rfl
def g66_1 (x0 : V21) (k0 : V21 → Bool → Option R) : Option R :=
brB (decide (x0.1 < (1 : Int))) (k0 x0 true) (brB (decide (x0.1 > (12 : Int))) (k0 x0 true) (brB (decide (x0.2.1 < (0 : Int))) (k0 x0 true) (k0 x0 (decide (x0.2.1 > (999 : Int))))))
theorem t66_1 (x0) : exec cl N c66_1 [(1, .loc U20 .no x0)] K = (g66_1 x0 (fun y0 y1 => K .normal (e188 y0 y1))) := by
  kernel_rfl
def g66_2 (x0 : V21) (x1 : Bool) (k0 : Int → Option R) : Option R :=
k0 (6 : Int)
theorem t66_2 (x0 x1) : exec cl N c66_2 (e188 x0 x1) K = (g66_2 x0 x1 (fun y0 => K .normal [(2, .v U2 y0)])) := by
  kernel_rfl
theorem kp66_0 (x0) : keep [1, 2] [(2, .v U2 x0)] = (e68 x0) := by kernel_rfl
theorem kp66_1 (x0 x1) : keep [1, 2] (e188 x0 x1) = (e70 x0) := by kernel_rfl
theorem hb66_0 (x0 x1) : boolOf? (ent (e188 x0 x1) (.t 22)) = some x1 := by kernel_rfl
def g66_4 (x0 : V21) (k0 : V21 → Bool → Option R) : Option R :=
k0 x0 (decide ((x0.2.2.1.length : Int) > (20 : Int)))
theorem t66_4 (x0) : exec cl N c66_4 (e70 x0) K = (g66_4 x0 (fun y0 y1 => K .normal (e189 y0 y1))) := by
  kernel_rfl
def g66_5 (x0 : V21) (x1 : Bool) (k0 : Int → Option R) : Option R :=
k0 (3 : Int)
theorem t66_5 (x0 x1) : exec cl N c66_5 (e189 x0 x1) K = (g66_5 x0 x1 (fun y0 => K .normal [(2, .v U2 y0)])) := by
  kernel_rfl
theorem kp66_2 (x0 x1) : keep [1, 2] (e189 x0 x1) = (e70 x0) := by kernel_rfl
theorem hb66_1 (x0 x1) : boolOf? (ent (e189 x0 x1) (.t 26)) = some x1 := by kernel_rfl
def g66_7 (x0 : V21) (k0 : V21 → Int → Option R) : Option R :=
k0 x0 (0 : Int)
theorem t66_7 (x0) : exec cl N c66_7 (e70 x0) K = (g66_7 x0 (fun y0 y1 => K .normal (e190 y0 y1))) := by
  kernel_rfl
theorem kp66_3 (x0 x1) : keep [1, 3] (e190 x0 x1) = (e190 x0 x1) := by kernel_rfl
def g66_8 (x0 : V21) (x1 : Int) (k0 : V21 → Int → Bool → Option R) : Option R :=
k0 x0 x1 (decide (x1 < (x0.2.2.1.length : Int)))
theorem t66_8 (x0 x1) : exec cl N c66_8 (e190 x0 x1) K = (g66_8 x0 x1 (fun y0 y1 y2 => K .normal (e191 y0 y1 y2))) := by
  kernel_rfl
theorem kp66_4 (x0 x1 x2) : keep [1, 3] (e191 x0 x1 x2) = (e190 x0 x1) := by kernel_rfl
theorem hb66_2 (x0 x1 x2) : boolOf? (ent (e191 x0 x1 x2) (.t 31)) = some x2 := by kernel_rfl
def g66_10 (S87 : V1 → Option (Int)) (x0 : V21) (x1 : Int) (k0 : V21 → Int → Int → Option R) : Option R :=
if 0 ≤ x1 ∧ x1 < (x0.2.2.1.length : Int) then
(S87 (x0.2.2.1.getD x1.toNat [])).bind fun r562 =>
k0 x0 x1 r562
else none
theorem t66_10 (S87) (h87 : (ctr87 S87).holds cl) (x0 x1) : exec cl N c66_10 (e190 x0 x1) K = (g66_10 S87 x0 x1 (fun y0 y1 y2 => K .normal [(1, .loc U20 .no y0), (3, .v U2 y1), (4, .v U2 y2)])) := by
  rw [← put_eq h87]
  kernel_rfl
def g66_11 (x0 : V21) (x1 x2 : Int) (k0 : V21 → Int → Int → Bool → Option R) : Option R :=
k0 x0 x1 x2 (x2 != (0 : Int))
theorem t66_11 (x0 x1 x2) : exec cl N c66_11 [(1, .loc U20 .no x0), (3, .v U2 x1), (4, .v U2 x2)] K = (g66_11 x0 x1 x2 (fun y0 y1 y2 y3 => K .normal (e192 y0 y1 y2 y3))) := by
  kernel_rfl
def g66_12 (x0 : V21) (x1 x2 : Int) (x3 : Bool) (k0 : Int → Option R) : Option R :=
k0 x2
theorem t66_12 (x0 x1 x2 x3) : exec cl N c66_12 (e192 x0 x1 x2 x3) K = (g66_12 x0 x1 x2 x3 (fun y0 => K .normal [(2, .v U2 y0)])) := by
  kernel_rfl
theorem kp66_5 (x0) : keep [1, 2, 3] [(2, .v U2 x0)] = (e193 x0) := by kernel_rfl
theorem kp66_6 (x0 x1 x2 x3) : keep [1, 2, 3] (e192 x0 x1 x2 x3) = (e194 x0 x1) := by kernel_rfl
theorem hb66_3 (x0 x1 x2 x3) : boolOf? (ent (e192 x0 x1 x2 x3) (.t 41)) = some x3 := by kernel_rfl
def g66_14 (S70 : V6 → V1 → Option (Bool)) (x0 : V21) (x1 : Int) (k0 : V21 → Int → Bool → Option R) : Option R :=
if 0 ≤ (0 : Int) ∧ (0 : Int) ≤ x1 ∧ x1 ≤ (x0.2.2.1.length : Int) ∧ (x0.2.2.1.length : Int) ≤ (x0.2.2.1.length : Int) then
if 0 ≤ x1 ∧ x1 < (x0.2.2.1.length : Int) then
(S70 ((x0.2.2.1.drop (0 : Int).toNat).take (x1.toNat - (0 : Int).toNat)) (x0.2.2.1.getD x1.toNat [])).bind fun r565 =>
k0 x0 x1 r565
else none
else none
theorem t66_14 (S70) (h70 : (ctr70 S70).holds cl) (x0 x1) : exec cl N c66_14 (e194 x0 x1) K = (g66_14 S70 x0 x1 (fun y0 y1 y2 => K .normal (e195 y0 y1 y2))) := by
  rw [← put_eq h70]
  kernel_rfl
def g66_15 (x0 : V21) (x1 : Int) (x2 : Bool) (k0 : Int → Option R) : Option R :=
k0 (5 : Int)
theorem t66_15 (x0 x1 x2) : exec cl N c66_15 (e195 x0 x1 x2) K = (g66_15 x0 x1 x2 (fun y0 => K .normal [(2, .v U2 y0)])) := by
  kernel_rfl
theorem kp66_7 (x0 x1 x2) : keep [1, 2, 3] (e195 x0 x1 x2) = (e194 x0 x1) := by kernel_rfl
theorem hb66_4 (x0 x1 x2) : boolOf? (ent (e195 x0 x1 x2) (.t 52)) = some x2 := by kernel_rfl
theorem kp66_8 (x0) : keep [1, 2, 3] (e193 x0) = (e193 x0) := by kernel_rfl
theorem kp66_9 (x0 x1) : keep [1, 2, 3] (e194 x0 x1) = (e194 x0 x1) := by kernel_rfl
def g66_18 (x0 : V21) (x1 : Int) (k0 : V21 → Int → Option R) : Option R :=
k0 x0 (IntKind.i64.wrap (x1 + (1 : Int)))
theorem t66_18 (x0 x1) : exec cl N c66_18 (e194 x0 x1) K = (g66_18 x0 x1 (fun y0 y1 => K .normal (e190 y0 y1))) := by
  kernel_rfl
def g66_19 (S70 : V6 → V1 → Option (Bool)) (S87 : V1 → Option (Int)) (x0 : V21) (x1 : Int) (k0 : Int → Option R) (k1 : V21 → Int → Option R) (k2 : V21 → Int → Option R) : Option R :=
(g66_8 x0 x1 (fun y0 y1 y2 => brB y2 ((fun y0 y1 => (g66_10 S87 y0 y1 (fun y0 y1 y2 => (g66_11 y0 y1 y2 (fun y0 y1 y2 y3 => brB y3 (g66_12 y0 y1 y2 y3 (fun y0 => ((fun y0 => (k0 y0)) y0))) ((fun y0 y1 => (g66_14 S70 y0 y1 (fun y0 y1 y2 => brB y2 (g66_15 y0 y1 y2 (fun y0 => ((fun y0 => (k0 y0)) y0))) (g66_18 y0 y1 k1)))) y0 y1)))))) y0 y1) (k2 y0 y1)))
theorem t66_19 (S70) (S87) (h70 : (ctr70 S70).holds cl) (h87 : (ctr87 S87).holds cl) (x0 x1) : exec cl N c66_19 (e190 x0 x1) K = (g66_19 S70 S87 x0 x1 (fun y0 => K .ret (e193 y0)) (fun y0 y1 => K .normal (e190 y0 y1)) (fun y0 y1 => K (.exit 0) (e190 y0 y1))) := by
  simp only [c66_19, exec_seq, seqK_normal, seqK_exit, seqK_ret, t66_8, c66_9, exec_out, exec_cond', hb66_2, Option.bind_some, brB_true, brB_false, exec_skip, exec_exit, kp66_4, c66_17, exec_block, t66_10 S87 h87, t66_11, c66_13, hb66_3, t66_12, exec_ret, kp66_5, kp66_6, t66_14 S70 h70, c66_16, hb66_4, t66_15, kp66_7, blockK_normal, blockK_ret, blockK_eq, kp66_8, kp66_9, t66_18]
  rfl
def l66_20 {R : Type} (S70 : V6 → V1 → Option (Bool)) (S87 : V1 → Option (Int)) (k0 : Int → Option R) (k1 : V21 → Int → Option R) : Nat → V21 → Int → Option R
  | 0, _, _ => none
  | m + 1, x0, x1 => (g66_19 S70 S87 x0 x1 k0 (fun y0 y1 => l66_20 S70 S87 k0 k1 m y0 y1) k1)
theorem lt66_20 (S70) (S87) (h70 : (ctr70 S70).holds cl) (h87 : (ctr87 S87).holds cl) : ∀ (m) (x0 x1), iter [1, 3] (fun env K => exec cl N c66_19 env K) K m (e190 x0 x1) = l66_20 S70 S87 (fun y0 => K .ret (e193 y0)) (fun y0 y1 => K (.exit 0) (e190 y0 y1)) m x0 x1 := by
  intro m
  induction m with
  | zero => intros; rfl
  | succ m ih =>
    intro x0 x1
    simp only [iter_succ, t66_19 S70 S87 h70 h87, loopK_normal, loopK_exit, loopK_ret, kp66_3, ih]
    rfl
theorem kp66_10 (x0) : keep [2] (e193 x0) = [(2, .v U2 x0)] := by kernel_rfl
theorem kp66_11 (x0 x1) : keep [2] (e190 x0 x1) = [(2, .dead)] := by kernel_rfl
def g66_20 (N : Nat) (S70 : V6 → V1 → Option (Bool)) (S87 : V1 → Option (Int)) (x0 : V21) (x1 : Int) (k0 : Int → Option R) (k1 : Option R) : Option R :=
l66_20 S70 S87 (fun y0 => k0 y0) (fun y0 y1 => k1) N x0 x1
theorem t66_20 (S70) (S87) (h70 : (ctr70 S70).holds cl) (h87 : (ctr87 S87).holds cl) (x0 x1) : exec cl N c66_20 (e190 x0 x1) K = (g66_20 N S70 S87 x0 x1 (fun y0 => K .ret [(2, .v U2 y0)]) (K (.exit 0) [(2, .dead)])) := by
  simp only [c66_20, exec_out, exec_loop, kp66_3, lt66_20 S70 S87 h70 h87, kp66_10, kp66_11]
  rfl
theorem kp66_12 (x0) : keep [2] [(2, .v U2 x0)] = [(2, .v U2 x0)] := by kernel_rfl
theorem kp66_13 : keep [2] [(2, .dead)] = [(2, .dead)] := by kernel_rfl
def g66_22 (k0 : Int → Option R) : Option R :=
k0 (0 : Int)
theorem t66_22 : exec cl N c66_22 [(2, .dead)] K = (g66_22 (fun y0 => K .normal [(2, .v U2 y0)])) := by
  kernel_rfl
def g66_23 (N : Nat) (S70 : V6 → V1 → Option (Bool)) (S87 : V1 → Option (Int)) (x0 : V21) (k0 : Int → Option R) (k1 : Int → Option R) : Option R :=
(g66_0 x0 (fun y0 => (g66_1 y0 (fun y0 y1 => brB y1 (g66_2 y0 y1 (fun y0 => ((fun y0 => (k0 y0)) y0))) ((fun y0 => (g66_4 y0 (fun y0 y1 => brB y1 (g66_5 y0 y1 (fun y0 => ((fun y0 => (k0 y0)) y0))) ((fun y0 => (g66_7 y0 (fun y0 y1 => (g66_20 N S70 S87 y0 y1 (fun y0 => (k1 y0)) (g66_22 (fun y0 => (k1 y0))))))) y0)))) y0)))))
theorem t66_23 (S70) (S87) (h70 : (ctr70 S70).holds cl) (h87 : (ctr87 S87).holds cl) (x0) : exec cl N c66_23 [(0, .v U20 x0)] K = (g66_23 N S70 S87 x0 (fun y0 => K .ret (e68 y0)) (fun y0 => K .ret [(2, .v U2 y0)])) := by
  simp only [c66_23, exec_seq, seqK_normal, seqK_exit, seqK_ret, t66_0, t66_1, c66_3, exec_out, exec_cond', hb66_0, Option.bind_some, brB_true, brB_false, t66_2, exec_ret, exec_skip, kp66_0, kp66_1, t66_4, c66_6, hb66_1, t66_5, kp66_2, t66_7, c66_21, exec_block, t66_20 S70 S87 h70 h87, blockK_normal, blockK_ret, blockK_eq, kp66_12, kp66_13, t66_22]
  rfl
theorem rk66_0 (y0) : retK d66 .ret (e68 y0) = some [.v U2 y0] := by kernel_rfl
theorem rk66_1 (y0) : retK d66 .ret [(2, .v U2 y0)] = some [.v U2 y0] := by kernel_rfl
def g66 (N : Nat) (S70 : V6 → V1 → Option (Bool)) (S87 : V1 → Option (Int)) (x0 : V21) (k : Int → Option R) : Option R :=
(g66_23 N S70 S87 x0 (fun y0 => k y0) (fun y0 => k y0))
theorem gen66 {N : Nat} {cl : Cal} (S70 : V6 → V1 → Option (Bool)) (S87 : V1 → Option (Int)) (h70 : (ctr70 S70).holds cl) (h87 : (ctr87 S87).holds cl) (x0 : V21) {R : Type} (k : List E → Option R) : exec cl N c66 (params 0 [.v U20 x0]) (fun e env => (retK d66 e env).bind k) = g66 N S70 S87 x0 (fun (r0 : Int) => k [.v U2 r0]) := by
  have e0 : params 0 [.v U20 x0] = [(0, .v U20 x0)] := by kernel_rfl
  simp only [c66, e0, t66_23 S70 S87 h70 h87, rk66_0, rk66_1, Option.bind_some]
  rfl
def ctr66 (S : V21 → Option (Int)) : Ctr := { A := V21 × Unit, B := Int, f := 66, enc := fun a => [.v U20 a.1], dec := (decC (decV U20) dec0), S := fun a => S a.1, ent := fun b => [.v U2 b], ok := (decV_cons (T := U20) (fun es b h => dec0_some h)) }
def S66 (N : Nat) (x0 : V21) : Option (Int) := g66 N (S70 N) (S87 N) x0 (fun (r0 : Int) => some (r0))
def g38_0 (x0 : V28) (k0 : V28 → Option R) : Option R :=
k0 x0
theorem t38_0 (x0) : exec cl N c38_0 [(0, .v U27 x0)] K = (g38_0 x0 (fun y0 => K .normal [(1, .loc U27 .no y0)])) := by
  kernel_rfl
def g38_1 (S65 : V1 → Option (Bool)) (x0 : V28) (k0 : V28 → Bool → Option R) : Option R :=
(S65 x0.1).bind fun r570 =>
k0 x0 (!r570)
theorem t38_1 (S65) (h65 : (ctr65 S65).holds cl) (x0) : exec cl N c38_1 [(1, .loc U27 .no x0)] K = (g38_1 S65 x0 (fun y0 y1 => K .normal (e196 y0 y1))) := by
  rw [← put_eq h65]
  kernel_rfl
def g38_2 (x0 : V28) (x1 : Bool) (k0 : Int → Option R) : Option R :=
k0 (2 : Int)
theorem t38_2 (x0 x1) : exec cl N c38_2 (e196 x0 x1) K = (g38_2 x0 x1 (fun y0 => K .normal [(2, .v U2 y0)])) := by
  kernel_rfl
theorem kp38_0 (x0) : keep [1, 2] [(2, .v U2 x0)] = (e68 x0) := by kernel_rfl
theorem kp38_1 (x0 x1) : keep [1, 2] (e196 x0 x1) = (e83 x0) := by kernel_rfl
theorem hb38_0 (x0 x1) : boolOf? (ent (e196 x0 x1) (.t 8)) = some x1 := by kernel_rfl
def g38_4 (x0 : V28) (k0 : V28 → Bool → Option R) : Option R :=
k0 x0 (decide ((x0.2.1.length : Int) > (30 : Int)))
theorem t38_4 (x0) : exec cl N c38_4 (e83 x0) K = (g38_4 x0 (fun y0 y1 => K .normal (e197 y0 y1))) := by
  kernel_rfl
def g38_5 (x0 : V28) (x1 : Bool) (k0 : Int → Option R) : Option R :=
k0 (3 : Int)
theorem t38_5 (x0 x1) : exec cl N c38_5 (e197 x0 x1) K = (g38_5 x0 x1 (fun y0 => K .normal [(2, .v U2 y0)])) := by
  kernel_rfl
theorem kp38_2 (x0 x1) : keep [1, 2] (e197 x0 x1) = (e83 x0) := by kernel_rfl
theorem hb38_1 (x0 x1) : boolOf? (ent (e197 x0 x1) (.t 12)) = some x1 := by kernel_rfl
def g38_7 (x0 : V28) (k0 : V28 → Int → Option R) : Option R :=
k0 x0 (0 : Int)
theorem t38_7 (x0) : exec cl N c38_7 (e83 x0) K = (g38_7 x0 (fun y0 y1 => K .normal (e3 y0 y1))) := by
  kernel_rfl
theorem kp38_3 (x0 x1) : keep [1, 3] (e3 x0 x1) = (e3 x0 x1) := by kernel_rfl
def g38_8 (x0 : V28) (x1 : Int) (k0 : V28 → Int → Bool → Option R) : Option R :=
k0 x0 x1 (decide (x1 < (x0.2.1.length : Int)))
theorem t38_8 (x0 x1) : exec cl N c38_8 (e3 x0 x1) K = (g38_8 x0 x1 (fun y0 y1 y2 => K .normal (e198 y0 y1 y2))) := by
  kernel_rfl
theorem kp38_4 (x0 x1 x2) : keep [1, 3] (e198 x0 x1 x2) = (e3 x0 x1) := by kernel_rfl
theorem hb38_2 (x0 x1 x2) : boolOf? (ent (e198 x0 x1 x2) (.t 17)) = some x2 := by kernel_rfl
def g38_10 (S66 : V21 → Option (Int)) (x0 : V28) (x1 : Int) (k0 : V28 → Int → Int → Option R) : Option R :=
if 0 ≤ x1 ∧ x1 < (x0.2.1.length : Int) then
(S66 (x0.2.1.getD x1.toNat ((0 : Int), ((0 : Int), ([], ()))))).bind fun r573 =>
k0 x0 x1 r573
else none
theorem t38_10 (S66) (h66 : (ctr66 S66).holds cl) (x0 x1) : exec cl N c38_10 (e3 x0 x1) K = (g38_10 S66 x0 x1 (fun y0 y1 y2 => K .normal (e4 y0 y1 y2))) := by
  rw [← put_eq h66]
  kernel_rfl
def g38_11 (x0 : V28) (x1 x2 : Int) (k0 : V28 → Int → Int → Bool → Option R) : Option R :=
k0 x0 x1 x2 (x2 != (0 : Int))
theorem t38_11 (x0 x1 x2) : exec cl N c38_11 (e4 x0 x1 x2) K = (g38_11 x0 x1 x2 (fun y0 y1 y2 y3 => K .normal (e199 y0 y1 y2 y3))) := by
  kernel_rfl
def g38_12 (x0 : V28) (x1 x2 : Int) (x3 : Bool) (k0 : Int → Option R) : Option R :=
k0 x2
theorem t38_12 (x0 x1 x2 x3) : exec cl N c38_12 (e199 x0 x1 x2 x3) K = (g38_12 x0 x1 x2 x3 (fun y0 => K .normal [(2, .v U2 y0)])) := by
  kernel_rfl
theorem kp38_5 (x0) : keep [1, 2, 3] [(2, .v U2 x0)] = (e193 x0) := by kernel_rfl
theorem kp38_6 (x0 x1 x2 x3) : keep [1, 2, 3] (e199 x0 x1 x2 x3) = (e200 x0 x1) := by kernel_rfl
theorem hb38_3 (x0 x1 x2 x3) : boolOf? (ent (e199 x0 x1 x2 x3) (.t 27)) = some x3 := by kernel_rfl
theorem kp38_7 (x0) : keep [1, 2, 3] (e193 x0) = (e193 x0) := by kernel_rfl
theorem kp38_8 (x0 x1) : keep [1, 2, 3] (e200 x0 x1) = (e200 x0 x1) := by kernel_rfl
def g38_15 (x0 : V28) (x1 : Int) (k0 : V28 → Int → Option R) : Option R :=
k0 x0 (IntKind.i64.wrap (x1 + (1 : Int)))
theorem t38_15 (x0 x1) : exec cl N c38_15 (e200 x0 x1) K = (g38_15 x0 x1 (fun y0 y1 => K .normal (e3 y0 y1))) := by
  kernel_rfl
def g38_16 (S66 : V21 → Option (Int)) (x0 : V28) (x1 : Int) (k0 : Int → Option R) (k1 : V28 → Int → Option R) (k2 : V28 → Int → Option R) : Option R :=
(g38_8 x0 x1 (fun y0 y1 y2 => brB y2 ((fun y0 y1 => (g38_10 S66 y0 y1 (fun y0 y1 y2 => (g38_11 y0 y1 y2 (fun y0 y1 y2 y3 => brB y3 (g38_12 y0 y1 y2 y3 (fun y0 => ((fun y0 => (k0 y0)) y0))) (g38_15 y0 y1 k1)))))) y0 y1) (k2 y0 y1)))
theorem t38_16 (S66) (h66 : (ctr66 S66).holds cl) (x0 x1) : exec cl N c38_16 (e3 x0 x1) K = (g38_16 S66 x0 x1 (fun y0 => K .ret (e193 y0)) (fun y0 y1 => K .normal (e3 y0 y1)) (fun y0 y1 => K (.exit 0) (e3 y0 y1))) := by
  simp only [c38_16, exec_seq, seqK_normal, seqK_exit, seqK_ret, t38_8, c38_9, exec_out, exec_cond', hb38_2, Option.bind_some, brB_true, brB_false, exec_skip, exec_exit, kp38_4, c38_14, exec_block, t38_10 S66 h66, t38_11, c38_13, hb38_3, t38_12, exec_ret, kp38_5, kp38_6, blockK_normal, blockK_ret, blockK_eq, kp38_7, kp38_8, t38_15]
  rfl
def l38_17 {R : Type} (S66 : V21 → Option (Int)) (k0 : Int → Option R) (k1 : V28 → Int → Option R) : Nat → V28 → Int → Option R
  | 0, _, _ => none
  | m + 1, x0, x1 => (g38_16 S66 x0 x1 k0 (fun y0 y1 => l38_17 S66 k0 k1 m y0 y1) k1)
theorem lt38_17 (S66) (h66 : (ctr66 S66).holds cl) : ∀ (m) (x0 x1), iter [1, 3] (fun env K => exec cl N c38_16 env K) K m (e3 x0 x1) = l38_17 S66 (fun y0 => K .ret (e193 y0)) (fun y0 y1 => K (.exit 0) (e3 y0 y1)) m x0 x1 := by
  intro m
  induction m with
  | zero => intros; rfl
  | succ m ih =>
    intro x0 x1
    simp only [iter_succ, t38_16 S66 h66, loopK_normal, loopK_exit, loopK_ret, kp38_3, ih]
    rfl
theorem kp38_9 (x0) : keep [2] (e193 x0) = [(2, .v U2 x0)] := by kernel_rfl
theorem kp38_10 (x0 x1) : keep [2] (e3 x0 x1) = [(2, .dead)] := by kernel_rfl
def g38_17 (N : Nat) (S66 : V21 → Option (Int)) (x0 : V28) (x1 : Int) (k0 : Int → Option R) (k1 : Option R) : Option R :=
l38_17 S66 (fun y0 => k0 y0) (fun y0 y1 => k1) N x0 x1
theorem t38_17 (S66) (h66 : (ctr66 S66).holds cl) (x0 x1) : exec cl N c38_17 (e3 x0 x1) K = (g38_17 N S66 x0 x1 (fun y0 => K .ret [(2, .v U2 y0)]) (K (.exit 0) [(2, .dead)])) := by
  simp only [c38_17, exec_out, exec_loop, kp38_3, lt38_17 S66 h66, kp38_10, kp38_9]
  rfl
theorem kp38_11 (x0) : keep [2] [(2, .v U2 x0)] = [(2, .v U2 x0)] := by kernel_rfl
theorem kp38_12 : keep [2] [(2, .dead)] = [(2, .dead)] := by kernel_rfl
def g38_19 (k0 : Int → Option R) : Option R :=
k0 (0 : Int)
theorem t38_19 : exec cl N c38_19 [(2, .dead)] K = (g38_19 (fun y0 => K .normal [(2, .v U2 y0)])) := by
  kernel_rfl
def g38_20 (N : Nat) (S65 : V1 → Option (Bool)) (S66 : V21 → Option (Int)) (x0 : V28) (k0 : Int → Option R) (k1 : Int → Option R) : Option R :=
(g38_0 x0 (fun y0 => (g38_1 S65 y0 (fun y0 y1 => brB y1 (g38_2 y0 y1 (fun y0 => ((fun y0 => (k0 y0)) y0))) ((fun y0 => (g38_4 y0 (fun y0 y1 => brB y1 (g38_5 y0 y1 (fun y0 => ((fun y0 => (k0 y0)) y0))) ((fun y0 => (g38_7 y0 (fun y0 y1 => (g38_17 N S66 y0 y1 (fun y0 => (k1 y0)) (g38_19 (fun y0 => (k1 y0))))))) y0)))) y0)))))
theorem t38_20 (S65) (S66) (h65 : (ctr65 S65).holds cl) (h66 : (ctr66 S66).holds cl) (x0) : exec cl N c38_20 [(0, .v U27 x0)] K = (g38_20 N S65 S66 x0 (fun y0 => K .ret (e68 y0)) (fun y0 => K .ret [(2, .v U2 y0)])) := by
  simp only [c38_20, exec_seq, seqK_normal, seqK_exit, seqK_ret, t38_0, t38_1 S65 h65, c38_3, exec_out, exec_cond', hb38_0, Option.bind_some, brB_true, brB_false, t38_2, exec_ret, exec_skip, kp38_0, kp38_1, t38_4, c38_6, hb38_1, t38_5, kp38_2, t38_7, c38_18, exec_block, t38_17 S66 h66, blockK_normal, blockK_ret, blockK_eq, kp38_11, kp38_12, t38_19]
  rfl
theorem rk38_0 (y0) : retK d38 .ret (e68 y0) = some [.v U2 y0] := by kernel_rfl
theorem rk38_1 (y0) : retK d38 .ret [(2, .v U2 y0)] = some [.v U2 y0] := by kernel_rfl
def g38 (N : Nat) (S65 : V1 → Option (Bool)) (S66 : V21 → Option (Int)) (x0 : V28) (k : Int → Option R) : Option R :=
(g38_20 N S65 S66 x0 (fun y0 => k y0) (fun y0 => k y0))
theorem gen38 {N : Nat} {cl : Cal} (S65 : V1 → Option (Bool)) (S66 : V21 → Option (Int)) (h65 : (ctr65 S65).holds cl) (h66 : (ctr66 S66).holds cl) (x0 : V28) {R : Type} (k : List E → Option R) : exec cl N c38 (params 0 [.v U27 x0]) (fun e env => (retK d38 e env).bind k) = g38 N S65 S66 x0 (fun (r0 : Int) => k [.v U2 r0]) := by
  have e0 : params 0 [.v U27 x0] = [(0, .v U27 x0)] := by kernel_rfl
  simp only [c38, e0, t38_20 S65 S66 h65 h66, rk38_0, rk38_1, Option.bind_some]
  rfl
def ctr38 (S : V28 → Option (Int)) : Ctr := { A := V28 × Unit, B := Int, f := 38, enc := fun a => [.v U27 a.1], dec := (decC (decV U27) dec0), S := fun a => S a.1, ent := fun b => [.v U2 b], ok := (decV_cons (T := U27) (fun es b h => dec0_some h)) }
def S38 (N : Nat) (x0 : V28) : Option (Int) := g38 N (S65 N) (S66 N) x0 (fun (r0 : Int) => some (r0))
def g88_0 (x0 : Int) (k0 : Int → Option R) : Option R :=
k0 x0
theorem t88_0 (x0) : exec cl N c88_0 [(0, .v U1 x0)] K = (g88_0 x0 (fun y0 => K .normal [(0, .v U1 y0)])) := by
  kernel_rfl
def g88_1 (x0 : Int) (k0 : Bool → Option R) : Option R :=
brB (decide (x0 ≥ (97 : Int))) (brB (decide (x0 ≤ (122 : Int))) (k0 true) (brB (decide (x0 ≥ (48 : Int))) (brB (decide (x0 ≤ (57 : Int))) (k0 true) (brB (x0 == (95 : Int)) (k0 true) (brB (x0 == (94 : Int)) (k0 true) (k0 (x0 == (39 : Int)))))) (brB (x0 == (95 : Int)) (k0 true) (brB (x0 == (94 : Int)) (k0 true) (k0 (x0 == (39 : Int))))))) (brB (decide (x0 ≥ (48 : Int))) (brB (decide (x0 ≤ (57 : Int))) (k0 true) (brB (x0 == (95 : Int)) (k0 true) (brB (x0 == (94 : Int)) (k0 true) (k0 (x0 == (39 : Int)))))) (brB (x0 == (95 : Int)) (k0 true) (brB (x0 == (94 : Int)) (k0 true) (k0 (x0 == (39 : Int))))))
theorem t88_1 (x0) : exec cl N c88_1 [(0, .v U1 x0)] K = (g88_1 x0 (fun y0 => K .normal [(2, .v .bool y0)])) := by
  kernel_rfl
def g88_2 (x0 : Int) (k0 : Bool → Option R) : Option R :=
(g88_0 x0 (fun y0 => (g88_1 y0 (fun y0 => (k0 y0)))))
theorem t88_2 (x0) : exec cl N c88_2 [(0, .v U1 x0)] K = (g88_2 x0 (fun y0 => K .ret [(2, .v .bool y0)])) := by
  simp only [c88_2, exec_seq, seqK_normal, seqK_exit, seqK_ret, t88_0, t88_1, exec_ret]
  rfl
theorem rk88_0 (y0) : retK d88 .ret [(2, .v .bool y0)] = some [.v .bool y0] := by kernel_rfl
def g88 (x0 : Int) (k : Bool → Option R) : Option R :=
(g88_2 x0 (fun y0 => k y0))
theorem gen88 {N : Nat} {cl : Cal} (x0 : Int) {R : Type} (k : List E → Option R) : exec cl N c88 (params 0 [.v U1 x0]) (fun e env => (retK d88 e env).bind k) = g88 x0 (fun (r0 : Bool) => k [.v .bool r0]) := by
  have e0 : params 0 [.v U1 x0] = [(0, .v U1 x0)] := by kernel_rfl
  simp only [c88, e0, t88_2, rk88_0, Option.bind_some]
  rfl
def ctr88 (S : Int → Option (Bool)) : Ctr := { A := Int × Unit, B := Bool, f := 88, enc := fun a => [.v U1 a.1], dec := (decC (decV U1) dec0), S := fun a => S a.1, ent := fun b => [.v .bool b], ok := (decV_cons (T := U1) (fun es b h => dec0_some h)) }
def S88 (N : Nat) (x0 : Int) : Option (Bool) := g88 x0 (fun (r0 : Bool) => some (r0))
def g73_0 (x0 : V19) (k0 : V19 → Option R) : Option R :=
k0 x0
theorem t73_0 (x0) : exec cl N c73_0 [(0, .v U17 x0)] K = (g73_0 x0 (fun y0 => K .normal [(1, .loc U17 .no y0)])) := by
  kernel_rfl
def g73_1 (x0 : V19) (k0 : V19 → Bool → Option R) : Option R :=
brB (decide (x0.1 < (1 : Int))) (k0 x0 true) (k0 x0 (decide (x0.1 > (9 : Int))))
theorem t73_1 (x0) : exec cl N c73_1 [(1, .loc U17 .no x0)] K = (g73_1 x0 (fun y0 y1 => K .normal (e105 y0 y1))) := by
  kernel_rfl
def g73_2 (x0 : V19) (x1 : Bool) (k0 : Int → Option R) : Option R :=
k0 (1 : Int)
theorem t73_2 (x0 x1) : exec cl N c73_2 (e105 x0 x1) K = (g73_2 x0 x1 (fun y0 => K .normal [(2, .v U2 y0)])) := by
  kernel_rfl
theorem kp73_0 (x0) : keep [1, 2] [(2, .v U2 x0)] = (e68 x0) := by kernel_rfl
theorem kp73_1 (x0 x1) : keep [1, 2] (e105 x0 x1) = (e93 x0) := by kernel_rfl
theorem hb73_0 (x0 x1) : boolOf? (ent (e105 x0 x1) (.t 12)) = some x1 := by kernel_rfl
def g73_4 (x0 : V19) (k0 : V19 → Bool → Option R) : Option R :=
k0 x0 (x0.2.1 == (0 : Int))
theorem t73_4 (x0) : exec cl N c73_4 (e93 x0) K = (g73_4 x0 (fun y0 y1 => K .normal (e104 y0 y1))) := by
  kernel_rfl
def g73_5 (x0 : V19) (x1 : Bool) (k0 : V19 → Bool → Bool → Option R) : Option R :=
k0 x0 x1 (x0.1 == (1 : Int))
theorem t73_5 (x0 x1) : exec cl N c73_5 (e104 x0 x1) K = (g73_5 x0 x1 (fun y0 y1 y2 => K .normal (e201 y0 y1 y2))) := by
  kernel_rfl
def g73_6 (x0 : V19) (x1 x2 : Bool) (k0 : V19 → Bool → Option R) : Option R :=
brB (decide (x0.2.1 ≥ (1 : Int))) (k0 x0 (decide (x0.2.1 ≤ (3 : Int)))) (k0 x0 false)
theorem t73_6 (x0 x1 x2) : exec cl N c73_6 (e201 x0 x1 x2) K = (g73_6 x0 x1 x2 (fun y0 y1 => K .normal (e104 y0 y1))) := by
  kernel_rfl
theorem kp73_2 (x0 x1) : keep [1, 3] (e104 x0 x1) = (e104 x0 x1) := by kernel_rfl
theorem kp73_3 (x0 x1 x2) : keep [1, 3] (e201 x0 x1 x2) = (e104 x0 x1) := by kernel_rfl
theorem hb73_1 (x0 x1 x2) : boolOf? (ent (e201 x0 x1 x2) (.t 18)) = some x2 := by kernel_rfl
def g73_8 (x0 : V19) (x1 : Bool) (k0 : V19 → Bool → Option R) : Option R :=
(g73_5 x0 x1 (fun y0 y1 y2 => brB y2 (g73_6 y0 y1 y2 (fun y0 y1 => (k0 y0 y1))) (k0 y0 y1)))
theorem t73_8 (x0 x1) : exec cl N c73_8 (e104 x0 x1) K = (g73_8 x0 x1 (fun y0 y1 => K .normal (e104 y0 y1))) := by
  simp only [c73_8, exec_seq, seqK_normal, seqK_exit, seqK_ret, t73_5, c73_7, exec_out, exec_cond', hb73_1, Option.bind_some, brB_true, brB_false, t73_6, exec_skip, kp73_2, kp73_3]
  rfl
def g73_9 (x0 : V19) (x1 : Bool) (k0 : V19 → Bool → Bool → Option R) : Option R :=
k0 x0 x1 (x0.1 == (2 : Int))
theorem t73_9 (x0 x1) : exec cl N c73_9 (e104 x0 x1) K = (g73_9 x0 x1 (fun y0 y1 y2 => K .normal (e202 y0 y1 y2))) := by
  kernel_rfl
def g73_10 (x0 : V19) (x1 x2 : Bool) (k0 : V19 → Bool → Option R) : Option R :=
k0 x0 (x0.2.1 == (2 : Int))
theorem t73_10 (x0 x1 x2) : exec cl N c73_10 (e202 x0 x1 x2) K = (g73_10 x0 x1 x2 (fun y0 y1 => K .normal (e104 y0 y1))) := by
  kernel_rfl
theorem kp73_4 (x0 x1 x2) : keep [1, 3] (e202 x0 x1 x2) = (e104 x0 x1) := by kernel_rfl
theorem hb73_2 (x0 x1 x2) : boolOf? (ent (e202 x0 x1 x2) (.t 29)) = some x2 := by kernel_rfl
def g73_12 (x0 : V19) (x1 : Bool) (k0 : V19 → Bool → Option R) : Option R :=
(g73_9 x0 x1 (fun y0 y1 y2 => brB y2 (g73_10 y0 y1 y2 (fun y0 y1 => (k0 y0 y1))) (k0 y0 y1)))
theorem t73_12 (x0 x1) : exec cl N c73_12 (e104 x0 x1) K = (g73_12 x0 x1 (fun y0 y1 => K .normal (e104 y0 y1))) := by
  simp only [c73_12, exec_seq, seqK_normal, seqK_exit, seqK_ret, t73_9, c73_11, exec_out, exec_cond', hb73_2, Option.bind_some, brB_true, brB_false, t73_10, exec_skip, kp73_2, kp73_4]
  rfl
def g73_13 (x0 : V19) (x1 : Bool) (k0 : V19 → Bool → Option R) : Option R :=
k0 x0 (!x1)
theorem t73_13 (x0 x1) : exec cl N c73_13 (e104 x0 x1) K = (g73_13 x0 x1 (fun y0 y1 => K .normal (e203 y0 y1))) := by
  kernel_rfl
def g73_14 (x0 : V19) (x1 : Bool) (k0 : Int → Option R) : Option R :=
k0 (6 : Int)
theorem t73_14 (x0 x1) : exec cl N c73_14 (e203 x0 x1) K = (g73_14 x0 x1 (fun y0 => K .normal [(2, .v U2 y0)])) := by
  kernel_rfl
theorem kp73_5 (x0 x1) : keep [1, 2] (e203 x0 x1) = (e93 x0) := by kernel_rfl
theorem hb73_3 (x0 x1) : boolOf? (ent (e203 x0 x1) (.t 34)) = some x1 := by kernel_rfl
def g73_16 (x0 : V19) (k0 : V19 → Bool → Option R) : Option R :=
k0 x0 (x0.2.2.1 == ([] : List UInt8))
theorem t73_16 (x0) : exec cl N c73_16 (e93 x0) K = (g73_16 x0 (fun y0 y1 => K .normal (e204 y0 y1))) := by
  kernel_rfl
def g73_17 (x0 : V19) (x1 : Bool) (k0 : Int → Option R) : Option R :=
k0 (7 : Int)
theorem t73_17 (x0 x1) : exec cl N c73_17 (e204 x0 x1) K = (g73_17 x0 x1 (fun y0 => K .normal [(2, .v U2 y0)])) := by
  kernel_rfl
theorem kp73_6 (x0 x1) : keep [1, 2] (e204 x0 x1) = (e93 x0) := by kernel_rfl
theorem hb73_4 (x0 x1) : boolOf? (ent (e204 x0 x1) (.t 37)) = some x1 := by kernel_rfl
def g73_19 (x0 : V19) (k0 : V19 → Bool → Option R) : Option R :=
k0 x0 (decide ((x0.2.2.1.length : Int) > (8 : Int)))
theorem t73_19 (x0) : exec cl N c73_19 (e93 x0) K = (g73_19 x0 (fun y0 y1 => K .normal (e205 y0 y1))) := by
  kernel_rfl
def g73_20 (x0 : V19) (x1 : Bool) (k0 : Int → Option R) : Option R :=
k0 (3 : Int)
theorem t73_20 (x0 x1) : exec cl N c73_20 (e205 x0 x1) K = (g73_20 x0 x1 (fun y0 => K .normal [(2, .v U2 y0)])) := by
  kernel_rfl
theorem kp73_7 (x0 x1) : keep [1, 2] (e205 x0 x1) = (e93 x0) := by kernel_rfl
theorem hb73_5 (x0 x1) : boolOf? (ent (e205 x0 x1) (.t 41)) = some x1 := by kernel_rfl
def g73_22 (x0 : V19) (k0 : V19 → Int → Option R) : Option R :=
k0 x0 (0 : Int)
theorem t73_22 (x0) : exec cl N c73_22 (e93 x0) K = (g73_22 x0 (fun y0 y1 => K .normal (e89 y0 y1))) := by
  kernel_rfl
theorem kp73_8 (x0 x1) : keep [1, 4] (e89 x0 x1) = (e89 x0 x1) := by kernel_rfl
def g73_23 (x0 : V19) (x1 : Int) (k0 : V19 → Int → Bool → Option R) : Option R :=
k0 x0 x1 (decide (x1 < (x0.2.2.1.length : Int)))
theorem t73_23 (x0 x1) : exec cl N c73_23 (e89 x0 x1) K = (g73_23 x0 x1 (fun y0 y1 y2 => K .normal (e206 y0 y1 y2))) := by
  kernel_rfl
theorem kp73_9 (x0 x1 x2) : keep [1, 4] (e206 x0 x1 x2) = (e89 x0 x1) := by kernel_rfl
theorem hb73_6 (x0 x1 x2) : boolOf? (ent (e206 x0 x1 x2) (.t 46)) = some x2 := by kernel_rfl
def g73_25 (S88 : Int → Option (Bool)) (x0 : V19) (x1 : Int) (k0 : V19 → Int → Bool → Option R) : Option R :=
if 0 ≤ x1 ∧ x1 < (x0.2.2.1.length : Int) then
(S88 ((x0.2.2.1.getD x1.toNat 0).toNat : Int)).bind fun r642 =>
k0 x0 x1 (!r642)
else none
theorem t73_25 (S88) (h88 : (ctr88 S88).holds cl) (x0 x1) : exec cl N c73_25 (e89 x0 x1) K = (g73_25 S88 x0 x1 (fun y0 y1 y2 => K .normal (e207 y0 y1 y2))) := by
  rw [← put_eq h88]
  kernel_rfl
def g73_26 (x0 : V19) (x1 : Int) (x2 : Bool) (k0 : Int → Option R) : Option R :=
k0 (2 : Int)
theorem t73_26 (x0 x1 x2) : exec cl N c73_26 (e207 x0 x1 x2) K = (g73_26 x0 x1 x2 (fun y0 => K .normal [(2, .v U2 y0)])) := by
  kernel_rfl
theorem kp73_10 (x0) : keep [1, 2, 4] [(2, .v U2 x0)] = (e208 x0) := by kernel_rfl
theorem kp73_11 (x0 x1 x2) : keep [1, 2, 4] (e207 x0 x1 x2) = (e209 x0 x1) := by kernel_rfl
theorem hb73_7 (x0 x1 x2) : boolOf? (ent (e207 x0 x1 x2) (.t 54)) = some x2 := by kernel_rfl
theorem kp73_12 (x0) : keep [1, 2, 4] (e208 x0) = (e208 x0) := by kernel_rfl
theorem kp73_13 (x0 x1) : keep [1, 2, 4] (e209 x0 x1) = (e209 x0 x1) := by kernel_rfl
def g73_29 (x0 : V19) (x1 : Int) (k0 : V19 → Int → Option R) : Option R :=
k0 x0 (IntKind.i64.wrap (x1 + (1 : Int)))
theorem t73_29 (x0 x1) : exec cl N c73_29 (e209 x0 x1) K = (g73_29 x0 x1 (fun y0 y1 => K .normal (e89 y0 y1))) := by
  kernel_rfl
def g73_30 (S88 : Int → Option (Bool)) (x0 : V19) (x1 : Int) (k0 : Int → Option R) (k1 : V19 → Int → Option R) (k2 : V19 → Int → Option R) : Option R :=
(g73_23 x0 x1 (fun y0 y1 y2 => brB y2 ((fun y0 y1 => (g73_25 S88 y0 y1 (fun y0 y1 y2 => brB y2 (g73_26 y0 y1 y2 (fun y0 => ((fun y0 => (k0 y0)) y0))) (g73_29 y0 y1 k1)))) y0 y1) (k2 y0 y1)))
theorem t73_30 (S88) (h88 : (ctr88 S88).holds cl) (x0 x1) : exec cl N c73_30 (e89 x0 x1) K = (g73_30 S88 x0 x1 (fun y0 => K .ret (e208 y0)) (fun y0 y1 => K .normal (e89 y0 y1)) (fun y0 y1 => K (.exit 0) (e89 y0 y1))) := by
  simp only [c73_30, exec_seq, seqK_normal, seqK_exit, seqK_ret, t73_23, c73_24, exec_out, exec_cond', hb73_6, Option.bind_some, brB_true, brB_false, exec_skip, exec_exit, kp73_9, c73_28, exec_block, t73_25 S88 h88, c73_27, hb73_7, t73_26, exec_ret, kp73_10, kp73_11, blockK_normal, blockK_ret, blockK_eq, kp73_12, kp73_13, t73_29]
  rfl
def l73_31 {R : Type} (S88 : Int → Option (Bool)) (k0 : Int → Option R) (k1 : V19 → Int → Option R) : Nat → V19 → Int → Option R
  | 0, _, _ => none
  | m + 1, x0, x1 => (g73_30 S88 x0 x1 k0 (fun y0 y1 => l73_31 S88 k0 k1 m y0 y1) k1)
theorem lt73_31 (S88) (h88 : (ctr88 S88).holds cl) : ∀ (m) (x0 x1), iter [1, 4] (fun env K => exec cl N c73_30 env K) K m (e89 x0 x1) = l73_31 S88 (fun y0 => K .ret (e208 y0)) (fun y0 y1 => K (.exit 0) (e89 y0 y1)) m x0 x1 := by
  intro m
  induction m with
  | zero => intros; rfl
  | succ m ih =>
    intro x0 x1
    simp only [iter_succ, t73_30 S88 h88, loopK_normal, loopK_exit, loopK_ret, kp73_8, ih]
    rfl
theorem kp73_14 (x0) : keep [2] (e208 x0) = [(2, .v U2 x0)] := by kernel_rfl
theorem kp73_15 (x0 x1) : keep [2] (e89 x0 x1) = [(2, .dead)] := by kernel_rfl
def g73_31 (N : Nat) (S88 : Int → Option (Bool)) (x0 : V19) (x1 : Int) (k0 : Int → Option R) (k1 : Option R) : Option R :=
l73_31 S88 (fun y0 => k0 y0) (fun y0 y1 => k1) N x0 x1
theorem t73_31 (S88) (h88 : (ctr88 S88).holds cl) (x0 x1) : exec cl N c73_31 (e89 x0 x1) K = (g73_31 N S88 x0 x1 (fun y0 => K .ret [(2, .v U2 y0)]) (K (.exit 0) [(2, .dead)])) := by
  simp only [c73_31, exec_out, exec_loop, kp73_8, lt73_31 S88 h88, kp73_14, kp73_15]
  rfl
theorem kp73_16 (x0) : keep [2] [(2, .v U2 x0)] = [(2, .v U2 x0)] := by kernel_rfl
theorem kp73_17 : keep [2] [(2, .dead)] = [(2, .dead)] := by kernel_rfl
def g73_33 (k0 : Int → Option R) : Option R :=
k0 (0 : Int)
theorem t73_33 : exec cl N c73_33 [(2, .dead)] K = (g73_33 (fun y0 => K .normal [(2, .v U2 y0)])) := by
  kernel_rfl
def g73_34 (N : Nat) (S88 : Int → Option (Bool)) (x0 : V19) (k0 : Int → Option R) (k1 : Int → Option R) : Option R :=
(g73_0 x0 (fun y0 => (g73_1 y0 (fun y0 y1 => brB y1 (g73_2 y0 y1 (fun y0 => ((fun y0 => (k0 y0)) y0))) ((fun y0 => (g73_4 y0 (fun y0 y1 => (g73_8 y0 y1 (fun y0 y1 => (g73_12 y0 y1 (fun y0 y1 => (g73_13 y0 y1 (fun y0 y1 => brB y1 (g73_14 y0 y1 (fun y0 => ((fun y0 => (k0 y0)) y0))) ((fun y0 => (g73_16 y0 (fun y0 y1 => brB y1 (g73_17 y0 y1 (fun y0 => ((fun y0 => (k0 y0)) y0))) ((fun y0 => (g73_19 y0 (fun y0 y1 => brB y1 (g73_20 y0 y1 (fun y0 => ((fun y0 => (k0 y0)) y0))) ((fun y0 => (g73_22 y0 (fun y0 y1 => (g73_31 N S88 y0 y1 (fun y0 => (k1 y0)) (g73_33 (fun y0 => (k1 y0))))))) y0)))) y0)))) y0)))))))))) y0)))))
theorem t73_34 (S88) (h88 : (ctr88 S88).holds cl) (x0) : exec cl N c73_34 [(0, .v U17 x0)] K = (g73_34 N S88 x0 (fun y0 => K .ret (e68 y0)) (fun y0 => K .ret [(2, .v U2 y0)])) := by
  simp only [c73_34, exec_seq, seqK_normal, seqK_exit, seqK_ret, t73_0, t73_1, c73_3, exec_out, exec_cond', hb73_0, Option.bind_some, brB_true, brB_false, t73_2, exec_ret, exec_skip, kp73_0, kp73_1, t73_4, t73_8, t73_12, t73_13, c73_15, hb73_3, t73_14, kp73_5, t73_16, c73_18, hb73_4, t73_17, kp73_6, t73_19, c73_21, hb73_5, t73_20, kp73_7, t73_22, c73_32, exec_block, t73_31 S88 h88, blockK_normal, blockK_ret, blockK_eq, kp73_16, kp73_17, t73_33]
  rfl
theorem rk73_0 (y0) : retK d73 .ret (e68 y0) = some [.v U2 y0] := by kernel_rfl
theorem rk73_1 (y0) : retK d73 .ret [(2, .v U2 y0)] = some [.v U2 y0] := by kernel_rfl
def g73 (N : Nat) (S88 : Int → Option (Bool)) (x0 : V19) (k : Int → Option R) : Option R :=
(g73_34 N S88 x0 (fun y0 => k y0) (fun y0 => k y0))
theorem gen73 {N : Nat} {cl : Cal} (S88 : Int → Option (Bool)) (h88 : (ctr88 S88).holds cl) (x0 : V19) {R : Type} (k : List E → Option R) : exec cl N c73 (params 0 [.v U17 x0]) (fun e env => (retK d73 e env).bind k) = g73 N S88 x0 (fun (r0 : Int) => k [.v U2 r0]) := by
  have e0 : params 0 [.v U17 x0] = [(0, .v U17 x0)] := by kernel_rfl
  simp only [c73, e0, t73_34 S88 h88, rk73_0, rk73_1, Option.bind_some]
  rfl
def ctr73 (S : V19 → Option (Int)) : Ctr := { A := V19 × Unit, B := Int, f := 73, enc := fun a => [.v U17 a.1], dec := (decC (decV U17) dec0), S := fun a => S a.1, ent := fun b => [.v U2 b], ok := (decV_cons (T := U17) (fun es b h => dec0_some h)) }
def S73 (N : Nat) (x0 : V19) : Option (Int) := g73 N (S88 N) x0 (fun (r0 : Int) => some (r0))
def g67_0 (x0 : V20) (k0 : V20 → Option R) : Option R :=
k0 x0
theorem t67_0 (x0) : exec cl N c67_0 [(0, .v U21 x0)] K = (g67_0 x0 (fun y0 => K .normal [(0, .v U21 y0)])) := by
  kernel_rfl
def g67_1 (x0 : V20) (k0 : V20 → Bool → Option R) : Option R :=
k0 x0 (decide ((x0.length : Int) > (200 : Int)))
theorem t67_1 (x0) : exec cl N c67_1 [(0, .v U21 x0)] K = (g67_1 x0 (fun y0 y1 => K .normal (e210 y0 y1))) := by
  kernel_rfl
def g67_2 (x0 : V20) (x1 : Bool) (k0 : Int → Option R) : Option R :=
k0 (3 : Int)
theorem t67_2 (x0 x1) : exec cl N c67_2 (e210 x0 x1) K = (g67_2 x0 x1 (fun y0 => K .normal [(2, .v U2 y0)])) := by
  kernel_rfl
theorem kp67_0 (x0) : keep [0, 2] [(2, .v U2 x0)] = (e15 x0) := by kernel_rfl
theorem kp67_1 (x0 x1) : keep [0, 2] (e210 x0 x1) = (e109 x0) := by kernel_rfl
theorem hb67_0 (x0 x1) : boolOf? (ent (e210 x0 x1) (.t 7)) = some x1 := by kernel_rfl
def g67_4 (x0 : V20) (k0 : V20 → Int → Option R) : Option R :=
k0 x0 (0 : Int)
theorem t67_4 (x0) : exec cl N c67_4 (e109 x0) K = (g67_4 x0 (fun y0 y1 => K .normal (e120 y0 y1))) := by
  kernel_rfl
theorem kp67_2 (x0 x1) : keep [0, 3] (e120 x0 x1) = (e120 x0 x1) := by kernel_rfl
def g67_5 (x0 : V20) (x1 : Int) (k0 : V20 → Int → Bool → Option R) : Option R :=
k0 x0 x1 (decide (x1 < (x0.length : Int)))
theorem t67_5 (x0 x1) : exec cl N c67_5 (e120 x0 x1) K = (g67_5 x0 x1 (fun y0 y1 y2 => K .normal (e211 y0 y1 y2))) := by
  kernel_rfl
theorem kp67_3 (x0 x1 x2) : keep [0, 3] (e211 x0 x1 x2) = (e120 x0 x1) := by kernel_rfl
theorem hb67_1 (x0 x1 x2) : boolOf? (ent (e211 x0 x1 x2) (.t 11)) = some x2 := by kernel_rfl
def g67_7 (S73 : V19 → Option (Int)) (x0 : V20) (x1 : Int) (k0 : V20 → Int → Int → Option R) : Option R :=
if 0 ≤ x1 ∧ x1 < (x0.length : Int) then
(S73 (x0.getD x1.toNat ((0 : Int), ((0 : Int), ([], ()))))).bind fun r649 =>
k0 x0 x1 r649
else none
theorem t67_7 (S73) (h73 : (ctr73 S73).holds cl) (x0 x1) : exec cl N c67_7 (e120 x0 x1) K = (g67_7 S73 x0 x1 (fun y0 y1 y2 => K .normal [(0, .v U21 y0), (3, .v U2 y1), (4, .v U2 y2)])) := by
  rw [← put_eq h73]
  kernel_rfl
def g67_8 (x0 : V20) (x1 x2 : Int) (k0 : V20 → Int → Int → Bool → Option R) : Option R :=
k0 x0 x1 x2 (x2 != (0 : Int))
theorem t67_8 (x0 x1 x2) : exec cl N c67_8 [(0, .v U21 x0), (3, .v U2 x1), (4, .v U2 x2)] K = (g67_8 x0 x1 x2 (fun y0 y1 y2 y3 => K .normal (e212 y0 y1 y2 y3))) := by
  kernel_rfl
def g67_9 (x0 : V20) (x1 x2 : Int) (x3 : Bool) (k0 : Int → Option R) : Option R :=
k0 x2
theorem t67_9 (x0 x1 x2 x3) : exec cl N c67_9 (e212 x0 x1 x2 x3) K = (g67_9 x0 x1 x2 x3 (fun y0 => K .normal [(2, .v U2 y0)])) := by
  kernel_rfl
theorem kp67_4 (x0) : keep [0, 2, 3] [(2, .v U2 x0)] = (e22 x0) := by kernel_rfl
theorem kp67_5 (x0 x1 x2 x3) : keep [0, 2, 3] (e212 x0 x1 x2 x3) = (e213 x0 x1) := by kernel_rfl
theorem hb67_2 (x0 x1 x2 x3) : boolOf? (ent (e212 x0 x1 x2 x3) (.t 20)) = some x3 := by kernel_rfl
theorem kp67_6 (x0) : keep [0, 2, 3] (e22 x0) = (e22 x0) := by kernel_rfl
theorem kp67_7 (x0 x1) : keep [0, 2, 3] (e213 x0 x1) = (e213 x0 x1) := by kernel_rfl
def g67_12 (x0 : V20) (x1 : Int) (k0 : V20 → Int → Option R) : Option R :=
k0 x0 (IntKind.i64.wrap (x1 + (1 : Int)))
theorem t67_12 (x0 x1) : exec cl N c67_12 (e213 x0 x1) K = (g67_12 x0 x1 (fun y0 y1 => K .normal (e120 y0 y1))) := by
  kernel_rfl
def g67_13 (S73 : V19 → Option (Int)) (x0 : V20) (x1 : Int) (k0 : Int → Option R) (k1 : V20 → Int → Option R) (k2 : V20 → Int → Option R) : Option R :=
(g67_5 x0 x1 (fun y0 y1 y2 => brB y2 ((fun y0 y1 => (g67_7 S73 y0 y1 (fun y0 y1 y2 => (g67_8 y0 y1 y2 (fun y0 y1 y2 y3 => brB y3 (g67_9 y0 y1 y2 y3 (fun y0 => ((fun y0 => (k0 y0)) y0))) (g67_12 y0 y1 k1)))))) y0 y1) (k2 y0 y1)))
theorem t67_13 (S73) (h73 : (ctr73 S73).holds cl) (x0 x1) : exec cl N c67_13 (e120 x0 x1) K = (g67_13 S73 x0 x1 (fun y0 => K .ret (e22 y0)) (fun y0 y1 => K .normal (e120 y0 y1)) (fun y0 y1 => K (.exit 0) (e120 y0 y1))) := by
  simp only [c67_13, exec_seq, seqK_normal, seqK_exit, seqK_ret, t67_5, c67_6, exec_out, exec_cond', hb67_1, Option.bind_some, brB_true, brB_false, exec_skip, exec_exit, kp67_3, c67_11, exec_block, t67_7 S73 h73, t67_8, c67_10, hb67_2, t67_9, exec_ret, kp67_4, kp67_5, blockK_normal, blockK_ret, blockK_eq, kp67_6, kp67_7, t67_12]
  rfl
def l67_14 {R : Type} (S73 : V19 → Option (Int)) (k0 : Int → Option R) (k1 : V20 → Int → Option R) : Nat → V20 → Int → Option R
  | 0, _, _ => none
  | m + 1, x0, x1 => (g67_13 S73 x0 x1 k0 (fun y0 y1 => l67_14 S73 k0 k1 m y0 y1) k1)
theorem lt67_14 (S73) (h73 : (ctr73 S73).holds cl) : ∀ (m) (x0 x1), iter [0, 3] (fun env K => exec cl N c67_13 env K) K m (e120 x0 x1) = l67_14 S73 (fun y0 => K .ret (e22 y0)) (fun y0 y1 => K (.exit 0) (e120 y0 y1)) m x0 x1 := by
  intro m
  induction m with
  | zero => intros; rfl
  | succ m ih =>
    intro x0 x1
    simp only [iter_succ, t67_13 S73 h73, loopK_normal, loopK_exit, loopK_ret, kp67_2, ih]
    rfl
theorem kp67_8 (x0) : keep [2] (e22 x0) = [(2, .v U2 x0)] := by kernel_rfl
theorem kp67_9 (x0 x1) : keep [2] (e120 x0 x1) = [(2, .dead)] := by kernel_rfl
def g67_14 (N : Nat) (S73 : V19 → Option (Int)) (x0 : V20) (x1 : Int) (k0 : Int → Option R) (k1 : Option R) : Option R :=
l67_14 S73 (fun y0 => k0 y0) (fun y0 y1 => k1) N x0 x1
theorem t67_14 (S73) (h73 : (ctr73 S73).holds cl) (x0 x1) : exec cl N c67_14 (e120 x0 x1) K = (g67_14 N S73 x0 x1 (fun y0 => K .ret [(2, .v U2 y0)]) (K (.exit 0) [(2, .dead)])) := by
  simp only [c67_14, exec_out, exec_loop, kp67_2, lt67_14 S73 h73, kp67_8, kp67_9]
  rfl
theorem kp67_10 (x0) : keep [2] [(2, .v U2 x0)] = [(2, .v U2 x0)] := by kernel_rfl
theorem kp67_11 : keep [2] [(2, .dead)] = [(2, .dead)] := by kernel_rfl
def g67_16 (k0 : Int → Option R) : Option R :=
k0 (0 : Int)
theorem t67_16 : exec cl N c67_16 [(2, .dead)] K = (g67_16 (fun y0 => K .normal [(2, .v U2 y0)])) := by
  kernel_rfl
def g67_17 (N : Nat) (S73 : V19 → Option (Int)) (x0 : V20) (k0 : Int → Option R) (k1 : Int → Option R) : Option R :=
(g67_0 x0 (fun y0 => (g67_1 y0 (fun y0 y1 => brB y1 (g67_2 y0 y1 (fun y0 => ((fun y0 => (k0 y0)) y0))) ((fun y0 => (g67_4 y0 (fun y0 y1 => (g67_14 N S73 y0 y1 (fun y0 => (k1 y0)) (g67_16 (fun y0 => (k1 y0))))))) y0)))))
theorem t67_17 (S73) (h73 : (ctr73 S73).holds cl) (x0) : exec cl N c67_17 [(0, .v U21 x0)] K = (g67_17 N S73 x0 (fun y0 => K .ret (e15 y0)) (fun y0 => K .ret [(2, .v U2 y0)])) := by
  simp only [c67_17, exec_seq, seqK_normal, seqK_exit, seqK_ret, t67_0, t67_1, c67_3, exec_out, exec_cond', hb67_0, Option.bind_some, brB_true, brB_false, t67_2, exec_ret, exec_skip, kp67_0, kp67_1, t67_4, c67_15, exec_block, t67_14 S73 h73, blockK_normal, blockK_ret, blockK_eq, kp67_10, kp67_11, t67_16]
  rfl
theorem rk67_0 (y0) : retK d67 .ret (e15 y0) = some [.v U2 y0] := by kernel_rfl
theorem rk67_1 (y0) : retK d67 .ret [(2, .v U2 y0)] = some [.v U2 y0] := by kernel_rfl
def g67 (N : Nat) (S73 : V19 → Option (Int)) (x0 : V20) (k : Int → Option R) : Option R :=
(g67_17 N S73 x0 (fun y0 => k y0) (fun y0 => k y0))
theorem gen67 {N : Nat} {cl : Cal} (S73 : V19 → Option (Int)) (h73 : (ctr73 S73).holds cl) (x0 : V20) {R : Type} (k : List E → Option R) : exec cl N c67 (params 0 [.v U21 x0]) (fun e env => (retK d67 e env).bind k) = g67 N S73 x0 (fun (r0 : Int) => k [.v U2 r0]) := by
  have e0 : params 0 [.v U21 x0] = [(0, .v U21 x0)] := by kernel_rfl
  simp only [c67, e0, t67_17 S73 h73, rk67_0, rk67_1, Option.bind_some]
  rfl
def ctr67 (S : V20 → Option (Int)) : Ctr := { A := V20 × Unit, B := Int, f := 67, enc := fun a => [.v U21 a.1], dec := (decC (decV U21) dec0), S := fun a => S a.1, ent := fun b => [.v U2 b], ok := (decV_cons (T := U21) (fun es b h => dec0_some h)) }
def S67 (N : Nat) (x0 : V20) : Option (Int) := g67 N (S73 N) x0 (fun (r0 : Int) => some (r0))
def g39_0 (x0 x1 : V20) (k0 : V20 → V20 → Option R) : Option R :=
k0 x0 x1
theorem t39_0 (x0 x1) : exec cl N c39_0 (e115 x0 x1) K = (g39_0 x0 x1 (fun y0 y1 => K .normal (e115 y0 y1))) := by
  kernel_rfl
def g39_1 (S67 : V20 → Option (Int)) (x0 x1 : V20) (k0 : V20 → Int → Option R) : Option R :=
(S67 x0).bind fun r655 =>
k0 x1 r655
theorem t39_1 (S67) (h67 : (ctr67 S67).holds cl) (x0 x1) : exec cl N c39_1 (e115 x0 x1) K = (g39_1 S67 x0 x1 (fun y0 y1 => K .normal (e116 y0 y1))) := by
  rw [← put_eq h67]
  kernel_rfl
def g39_2 (x0 : V20) (x1 : Int) (k0 : V20 → Int → Bool → Option R) : Option R :=
k0 x0 x1 (x1 != (0 : Int))
theorem t39_2 (x0 x1) : exec cl N c39_2 (e116 x0 x1) K = (g39_2 x0 x1 (fun y0 y1 y2 => K .normal (e117 y0 y1 y2))) := by
  kernel_rfl
def g39_3 (x0 : V20) (x1 : Int) (x2 : Bool) (k0 : Int → Option R) : Option R :=
k0 x1
theorem t39_3 (x0 x1 x2) : exec cl N c39_3 (e117 x0 x1 x2) K = (g39_3 x0 x1 x2 (fun y0 => K .normal [(4, .v U2 y0)])) := by
  kernel_rfl
theorem kp39_0 (x0) : keep [1, 4] [(4, .v U2 x0)] = (e118 x0) := by kernel_rfl
theorem kp39_1 (x0 x1 x2) : keep [1, 4] (e117 x0 x1 x2) = (e119 x0) := by kernel_rfl
theorem hb39_0 (x0 x1 x2) : boolOf? (ent (e117 x0 x1 x2) (.t 9)) = some x2 := by kernel_rfl
def g39_5 (S67 : V20 → Option (Int)) (x0 : V20) (k0 : Int → Option R) : Option R :=
(S67 x0).bind fun r657 =>
k0 r657
theorem t39_5 (S67) (h67 : (ctr67 S67).holds cl) (x0) : exec cl N c39_5 (e119 x0) K = (g39_5 S67 x0 (fun y0 => K .normal [(4, .v U2 y0)])) := by
  rw [← put_eq h67]
  kernel_rfl
def g39_6 (S67 : V20 → Option (Int)) (x0 x1 : V20) (k0 : Int → Option R) (k1 : Int → Option R) : Option R :=
(g39_0 x0 x1 (fun y0 y1 => (g39_1 S67 y0 y1 (fun y0 y1 => (g39_2 y0 y1 (fun y0 y1 y2 => brB y2 (g39_3 y0 y1 y2 (fun y0 => ((fun y0 => (k0 y0)) y0))) ((fun y0 => (g39_5 S67 y0 (fun y0 => (k1 y0)))) y0)))))))
theorem t39_6 (S67) (h67 : (ctr67 S67).holds cl) (x0 x1) : exec cl N c39_6 (e115 x0 x1) K = (g39_6 S67 x0 x1 (fun y0 => K .ret (e118 y0)) (fun y0 => K .ret [(4, .v U2 y0)])) := by
  simp only [c39_6, exec_seq, seqK_normal, seqK_exit, seqK_ret, t39_0, t39_1 S67 h67, t39_2, c39_4, exec_out, exec_cond', hb39_0, Option.bind_some, brB_true, brB_false, t39_3, exec_ret, exec_skip, kp39_0, kp39_1, t39_5 S67 h67]
  rfl
theorem rk39_0 (y0) : retK d39 .ret (e118 y0) = some [.v U2 y0] := by kernel_rfl
theorem rk39_1 (y0) : retK d39 .ret [(4, .v U2 y0)] = some [.v U2 y0] := by kernel_rfl
def g39 (S67 : V20 → Option (Int)) (x0 x1 : V20) (k : Int → Option R) : Option R :=
(g39_6 S67 x0 x1 (fun y0 => k y0) (fun y0 => k y0))
theorem gen39 {N : Nat} {cl : Cal} (S67 : V20 → Option (Int)) (h67 : (ctr67 S67).holds cl) (x0 : V20) (x1 : V20) {R : Type} (k : List E → Option R) : exec cl N c39 (params 0 [.v U21 x0, .v U21 x1]) (fun e env => (retK d39 e env).bind k) = g39 S67 x0 x1 (fun (r0 : Int) => k [.v U2 r0]) := by
  have e0 : params 0 [.v U21 x0, .v U21 x1] = (e115 x0 x1) := by kernel_rfl
  simp only [c39, e0, t39_6 S67 h67, rk39_0, rk39_1, Option.bind_some]
  rfl
def ctr39 (S : V20 → V20 → Option (Int)) : Ctr := { A := V20 × V20 × Unit, B := Int, f := 39, enc := fun a => [.v U21 a.1, .v U21 a.2.1], dec := (decC (decV U21) (decC (decV U21) dec0)), S := fun a => S a.1 a.2.1, ent := fun b => [.v U2 b], ok := (decV_cons (T := U21) (decV_cons (T := U21) (fun es b h => dec0_some h))) }
def S39 (N : Nat) (x0 : V20) (x1 : V20) : Option (Int) := g39 (S67 N) x0 x1 (fun (r0 : Int) => some (r0))
def g71_0 (x0 : V19) (k0 : V19 → Option R) : Option R :=
k0 x0
theorem t71_0 (x0) : exec cl N c71_0 [(0, .v U17 x0)] K = (g71_0 x0 (fun y0 => K .normal [(1, .loc U17 .no y0)])) := by
  kernel_rfl
def g71_1 (x0 : V19) (k0 : Bool → Option R) : Option R :=
brB (x0.1 == (1 : Int)) (k0 true) (k0 (x0.1 == (2 : Int)))
theorem t71_1 (x0) : exec cl N c71_1 [(1, .loc U17 .no x0)] K = (g71_1 x0 (fun y0 => K .normal [(2, .v .bool y0)])) := by
  kernel_rfl
def g71_2 (x0 : V19) (k0 : Bool → Option R) : Option R :=
(g71_0 x0 (fun y0 => (g71_1 y0 (fun y0 => (k0 y0)))))
theorem t71_2 (x0) : exec cl N c71_2 [(0, .v U17 x0)] K = (g71_2 x0 (fun y0 => K .ret [(2, .v .bool y0)])) := by
  simp only [c71_2, exec_seq, seqK_normal, seqK_exit, seqK_ret, t71_0, t71_1, exec_ret]
  rfl
theorem rk71_0 (y0) : retK d71 .ret [(2, .v .bool y0)] = some [.v .bool y0] := by kernel_rfl
def g71 (x0 : V19) (k : Bool → Option R) : Option R :=
(g71_2 x0 (fun y0 => k y0))
theorem gen71 {N : Nat} {cl : Cal} (x0 : V19) {R : Type} (k : List E → Option R) : exec cl N c71 (params 0 [.v U17 x0]) (fun e env => (retK d71 e env).bind k) = g71 x0 (fun (r0 : Bool) => k [.v .bool r0]) := by
  have e0 : params 0 [.v U17 x0] = [(0, .v U17 x0)] := by kernel_rfl
  simp only [c71, e0, t71_2, rk71_0, Option.bind_some]
  rfl
def ctr71 (S : V19 → Option (Bool)) : Ctr := { A := V19 × Unit, B := Bool, f := 71, enc := fun a => [.v U17 a.1], dec := (decC (decV U17) dec0), S := fun a => S a.1, ent := fun b => [.v .bool b], ok := (decV_cons (T := U17) (fun es b h => dec0_some h)) }
def S71 (N : Nat) (x0 : V19) : Option (Bool) := g71 x0 (fun (r0 : Bool) => some (r0))
def g43_0 (x0 : V20) (k0 : V20 → Option R) : Option R :=
k0 x0
theorem t43_0 (x0) : exec cl N c43_0 [(0, .v U21 x0)] K = (g43_0 x0 (fun y0 => K .normal [(0, .v U21 y0)])) := by
  kernel_rfl
def g43_1 (x0 : V20) (k0 : V20 → Int → Option R) : Option R :=
k0 x0 (x0.length : Int)
theorem t43_1 (x0) : exec cl N c43_1 [(0, .v U21 x0)] K = (g43_1 x0 (fun y0 y1 => K .normal (e120 y0 y1))) := by
  kernel_rfl
def g43_2 (S71 : V19 → Option (Bool)) (x0 : V20) (x1 : Int) (k0 : V20 → Int → Bool → Option R) : Option R :=
brB (decide (x1 > (0 : Int))) (let v675 : Int := (IntKind.i64.wrap (x1 - (1 : Int)))
if 0 ≤ v675 ∧ v675 < (x0.length : Int) then
(S71 (x0.getD v675.toNat ((0 : Int), ((0 : Int), ([], ()))))).bind fun r676 =>
k0 x0 x1 r676
else none) (k0 x0 x1 false)
theorem t43_2 (S71) (h71 : (ctr71 S71).holds cl) (x0 x1) : exec cl N c43_2 (e120 x0 x1) K = (g43_2 S71 x0 x1 (fun y0 y1 y2 => K .normal (e214 y0 y1 y2))) := by
  rw [← put_eq h71]
  kernel_rfl
def g43_3 (x0 : V20) (x1 : Int) (x2 : Bool) (k0 : Int → Option R) : Option R :=
k0 (1 : Int)
theorem t43_3 (x0 x1 x2) : exec cl N c43_3 (e214 x0 x1 x2) K = (g43_3 x0 x1 x2 (fun y0 => K .normal [(2, .v U2 y0)])) := by
  kernel_rfl
theorem kp43_0 (x0) : keep [0, 2, 3] [(2, .v U2 x0)] = (e22 x0) := by kernel_rfl
theorem kp43_1 (x0 x1 x2) : keep [0, 2, 3] (e214 x0 x1 x2) = (e213 x0 x1) := by kernel_rfl
theorem hb43_0 (x0 x1 x2) : boolOf? (ent (e214 x0 x1 x2) (.t 15)) = some x2 := by kernel_rfl
def g43_5 (S71 : V19 → Option (Bool)) (x0 : V20) (x1 : Int) (k0 : Bool → Option R) : Option R :=
brB (decide (x1 > (1 : Int))) (let v678 : Int := (IntKind.i64.wrap (x1 - (2 : Int)))
if 0 ≤ v678 ∧ v678 < (x0.length : Int) then
(S71 (x0.getD v678.toNat ((0 : Int), ((0 : Int), ([], ()))))).bind fun r679 =>
brB r679 (let v680 : Int := (IntKind.i64.wrap (x1 - (1 : Int)))
if 0 ≤ v680 ∧ v680 < (x0.length : Int) then
brB ((x0.getD v680.toNat ((0 : Int), ((0 : Int), ([], ())))).1 == (5 : Int)) (let v682 : Int := (IntKind.i64.wrap (x1 - (1 : Int)))
if 0 ≤ v682 ∧ v682 < (x0.length : Int) then
k0 ((x0.getD v682.toNat ((0 : Int), ((0 : Int), ([], ())))).2.2.1 == ([109] : List UInt8))
else none) (k0 false)
else none) (k0 false)
else none) (k0 false)
theorem t43_5 (S71) (h71 : (ctr71 S71).holds cl) (x0 x1) : exec cl N c43_5 (e213 x0 x1) K = (g43_5 S71 x0 x1 (fun y0 => K .normal [(43, .v .bool y0)])) := by
  rw [← put_eq h71]
  kernel_rfl
def g43_6 (x0 : Bool) (k0 : Int → Option R) : Option R :=
k0 (2 : Int)
theorem t43_6 (x0) : exec cl N c43_6 [(43, .v .bool x0)] K = (g43_6 x0 (fun y0 => K .normal [(2, .v U2 y0)])) := by
  kernel_rfl
theorem kp43_2 (x0) : keep [2] [(2, .v U2 x0)] = [(2, .v U2 x0)] := by kernel_rfl
theorem kp43_3 (x0) : keep [2] [(43, .v .bool x0)] = [(2, .dead)] := by kernel_rfl
theorem hb43_1 (x0) : boolOf? (ent [(43, .v .bool x0)] (.t 43)) = some x0 := by kernel_rfl
def g43_8 (k0 : Int → Option R) : Option R :=
k0 (0 : Int)
theorem t43_8 : exec cl N c43_8 [(2, .dead)] K = (g43_8 (fun y0 => K .normal [(2, .v U2 y0)])) := by
  kernel_rfl
def g43_9 (S71 : V19 → Option (Bool)) (x0 : V20) (k0 : Int → Option R) (k1 : Int → Option R) : Option R :=
(g43_0 x0 (fun y0 => (g43_1 y0 (fun y0 y1 => (g43_2 S71 y0 y1 (fun y0 y1 y2 => brB y2 (g43_3 y0 y1 y2 (fun y0 => ((fun y0 => (k0 y0)) y0))) ((fun y0 y1 => (g43_5 S71 y0 y1 (fun y0 => brB y0 (g43_6 y0 (fun y0 => ((fun y0 => (k1 y0)) y0))) (g43_8 (fun y0 => (k1 y0)))))) y0 y1)))))))
theorem t43_9 (S71) (h71 : (ctr71 S71).holds cl) (x0) : exec cl N c43_9 [(0, .v U21 x0)] K = (g43_9 S71 x0 (fun y0 => K .ret (e22 y0)) (fun y0 => K .ret [(2, .v U2 y0)])) := by
  simp only [c43_9, exec_seq, seqK_normal, seqK_exit, seqK_ret, t43_0, t43_1, t43_2 S71 h71, c43_4, exec_out, exec_cond', hb43_0, Option.bind_some, brB_true, brB_false, t43_3, exec_ret, exec_skip, kp43_0, kp43_1, t43_5 S71 h71, c43_7, hb43_1, t43_6, kp43_2, kp43_3, t43_8]
  rfl
theorem rk43_0 (y0) : retK d43 .ret (e22 y0) = some [.v U2 y0] := by kernel_rfl
theorem rk43_1 (y0) : retK d43 .ret [(2, .v U2 y0)] = some [.v U2 y0] := by kernel_rfl
def g43 (S71 : V19 → Option (Bool)) (x0 : V20) (k : Int → Option R) : Option R :=
(g43_9 S71 x0 (fun y0 => k y0) (fun y0 => k y0))
theorem gen43 {N : Nat} {cl : Cal} (S71 : V19 → Option (Bool)) (h71 : (ctr71 S71).holds cl) (x0 : V20) {R : Type} (k : List E → Option R) : exec cl N c43 (params 0 [.v U21 x0]) (fun e env => (retK d43 e env).bind k) = g43 S71 x0 (fun (r0 : Int) => k [.v U2 r0]) := by
  have e0 : params 0 [.v U21 x0] = [(0, .v U21 x0)] := by kernel_rfl
  simp only [c43, e0, t43_9 S71 h71, rk43_0, rk43_1, Option.bind_some]
  rfl
def ctr43 (S : V20 → Option (Int)) : Ctr := { A := V20 × Unit, B := Int, f := 43, enc := fun a => [.v U21 a.1], dec := (decC (decV U21) dec0), S := fun a => S a.1, ent := fun b => [.v U2 b], ok := (decV_cons (T := U21) (fun es b h => dec0_some h)) }
def S43 (N : Nat) (x0 : V20) : Option (Int) := g43 (S71 N) x0 (fun (r0 : Int) => some (r0))
def g56_0 (x0 : V20) (k0 : V20 → Option R) : Option R :=
k0 x0
theorem t56_0 (x0) : exec cl N c56_0 [(0, .v U21 x0)] K = (g56_0 x0 (fun y0 => K .normal [(0, .v U21 y0)])) := by
  kernel_rfl
def g56_1 (x0 : V20) (k0 : V20 → Int → Option R) : Option R :=
k0 x0 (0 : Int)
theorem t56_1 (x0) : exec cl N c56_1 [(0, .v U21 x0)] K = (g56_1 x0 (fun y0 y1 => K .normal (e120 y0 y1))) := by
  kernel_rfl
theorem kp56_0 (x0 x1) : keep [0, 3] (e120 x0 x1) = (e120 x0 x1) := by kernel_rfl
def g56_2 (x0 : V20) (x1 : Int) (k0 : V20 → Int → Bool → Option R) : Option R :=
k0 x0 x1 (decide (x1 < (x0.length : Int)))
theorem t56_2 (x0 x1) : exec cl N c56_2 (e120 x0 x1) K = (g56_2 x0 x1 (fun y0 y1 y2 => K .normal (e127 y0 y1 y2))) := by
  kernel_rfl
theorem kp56_1 (x0 x1 x2) : keep [0, 3] (e127 x0 x1 x2) = (e120 x0 x1) := by kernel_rfl
theorem hb56_0 (x0 x1 x2) : boolOf? (ent (e127 x0 x1 x2) (.t 7)) = some x2 := by kernel_rfl
def g56_4 (S71 : V19 → Option (Bool)) (x0 : V20) (x1 : Int) (k0 : V20 → Int → Bool → Option R) : Option R :=
if 0 ≤ x1 ∧ x1 < (x0.length : Int) then
(S71 (x0.getD x1.toNat ((0 : Int), ((0 : Int), ([], ()))))).bind fun r690 =>
k0 x0 x1 r690
else none
theorem t56_4 (S71) (h71 : (ctr71 S71).holds cl) (x0 x1) : exec cl N c56_4 (e120 x0 x1) K = (g56_4 S71 x0 x1 (fun y0 y1 y2 => K .normal (e215 y0 y1 y2))) := by
  rw [← put_eq h71]
  kernel_rfl
def g56_5 (x0 : V20) (x1 : Int) (x2 : Bool) (k0 : Int → Option R) : Option R :=
k0 x1
theorem t56_5 (x0 x1 x2) : exec cl N c56_5 (e215 x0 x1 x2) K = (g56_5 x0 x1 x2 (fun y0 => K .normal [(2, .v U2 y0)])) := by
  kernel_rfl
theorem kp56_2 (x0) : keep [0, 2, 3] [(2, .v U2 x0)] = (e22 x0) := by kernel_rfl
theorem kp56_3 (x0 x1 x2) : keep [0, 2, 3] (e215 x0 x1 x2) = (e213 x0 x1) := by kernel_rfl
theorem hb56_1 (x0 x1 x2) : boolOf? (ent (e215 x0 x1 x2) (.t 14)) = some x2 := by kernel_rfl
def g56_7 (x0 : V20) (x1 : Int) (k0 : V20 → Int → Bool → Option R) : Option R :=
if 0 ≤ x1 ∧ x1 < (x0.length : Int) then
k0 x0 x1 ((x0.getD x1.toNat ((0 : Int), ((0 : Int), ([], ())))).1 != (9 : Int))
else none
theorem t56_7 (x0 x1) : exec cl N c56_7 (e213 x0 x1) K = (g56_7 x0 x1 (fun y0 y1 y2 => K .normal (e216 y0 y1 y2))) := by
  kernel_rfl
def g56_8 (x0 : V20) (x1 : Int) (x2 : Bool) (k0 : Int → Option R) : Option R :=
k0 (-1 : Int)
theorem t56_8 (x0 x1 x2) : exec cl N c56_8 (e216 x0 x1 x2) K = (g56_8 x0 x1 x2 (fun y0 => K .normal [(2, .v U2 y0)])) := by
  kernel_rfl
theorem kp56_4 (x0 x1 x2) : keep [0, 2, 3] (e216 x0 x1 x2) = (e213 x0 x1) := by kernel_rfl
theorem hb56_2 (x0 x1 x2) : boolOf? (ent (e216 x0 x1 x2) (.t 21)) = some x2 := by kernel_rfl
theorem kp56_5 (x0) : keep [0, 2, 3] (e22 x0) = (e22 x0) := by kernel_rfl
theorem kp56_6 (x0 x1) : keep [0, 2, 3] (e213 x0 x1) = (e213 x0 x1) := by kernel_rfl
def g56_11 (x0 : V20) (x1 : Int) (k0 : V20 → Int → Option R) : Option R :=
k0 x0 (IntKind.i64.wrap (x1 + (1 : Int)))
theorem t56_11 (x0 x1) : exec cl N c56_11 (e213 x0 x1) K = (g56_11 x0 x1 (fun y0 y1 => K .normal (e120 y0 y1))) := by
  kernel_rfl
def g56_12 (S71 : V19 → Option (Bool)) (x0 : V20) (x1 : Int) (k0 : Int → Option R) (k1 : V20 → Int → Option R) (k2 : V20 → Int → Option R) : Option R :=
(g56_2 x0 x1 (fun y0 y1 y2 => brB y2 ((fun y0 y1 => (g56_4 S71 y0 y1 (fun y0 y1 y2 => brB y2 (g56_5 y0 y1 y2 (fun y0 => ((fun y0 => (k0 y0)) y0))) ((fun y0 y1 => (g56_7 y0 y1 (fun y0 y1 y2 => brB y2 (g56_8 y0 y1 y2 (fun y0 => ((fun y0 => (k0 y0)) y0))) (g56_11 y0 y1 k1)))) y0 y1)))) y0 y1) (k2 y0 y1)))
theorem t56_12 (S71) (h71 : (ctr71 S71).holds cl) (x0 x1) : exec cl N c56_12 (e120 x0 x1) K = (g56_12 S71 x0 x1 (fun y0 => K .ret (e22 y0)) (fun y0 y1 => K .normal (e120 y0 y1)) (fun y0 y1 => K (.exit 0) (e120 y0 y1))) := by
  simp only [c56_12, exec_seq, seqK_normal, seqK_exit, seqK_ret, t56_2, c56_3, exec_out, exec_cond', hb56_0, Option.bind_some, brB_true, brB_false, exec_skip, exec_exit, kp56_1, c56_10, exec_block, t56_4 S71 h71, c56_6, hb56_1, t56_5, exec_ret, kp56_2, kp56_3, t56_7, c56_9, hb56_2, t56_8, kp56_4, blockK_normal, blockK_ret, blockK_eq, kp56_5, kp56_6, t56_11]
  rfl
def l56_13 {R : Type} (S71 : V19 → Option (Bool)) (k0 : Int → Option R) (k1 : V20 → Int → Option R) : Nat → V20 → Int → Option R
  | 0, _, _ => none
  | m + 1, x0, x1 => (g56_12 S71 x0 x1 k0 (fun y0 y1 => l56_13 S71 k0 k1 m y0 y1) k1)
theorem lt56_13 (S71) (h71 : (ctr71 S71).holds cl) : ∀ (m) (x0 x1), iter [0, 3] (fun env K => exec cl N c56_12 env K) K m (e120 x0 x1) = l56_13 S71 (fun y0 => K .ret (e22 y0)) (fun y0 y1 => K (.exit 0) (e120 y0 y1)) m x0 x1 := by
  intro m
  induction m with
  | zero => intros; rfl
  | succ m ih =>
    intro x0 x1
    simp only [iter_succ, t56_12 S71 h71, loopK_normal, loopK_exit, loopK_ret, kp56_0, ih]
    rfl
theorem kp56_7 (x0) : keep [2] (e22 x0) = [(2, .v U2 x0)] := by kernel_rfl
theorem kp56_8 (x0 x1) : keep [2] (e120 x0 x1) = [(2, .dead)] := by kernel_rfl
def g56_13 (N : Nat) (S71 : V19 → Option (Bool)) (x0 : V20) (x1 : Int) (k0 : Int → Option R) (k1 : Option R) : Option R :=
l56_13 S71 (fun y0 => k0 y0) (fun y0 y1 => k1) N x0 x1
theorem t56_13 (S71) (h71 : (ctr71 S71).holds cl) (x0 x1) : exec cl N c56_13 (e120 x0 x1) K = (g56_13 N S71 x0 x1 (fun y0 => K .ret [(2, .v U2 y0)]) (K (.exit 0) [(2, .dead)])) := by
  simp only [c56_13, exec_out, exec_loop, kp56_0, lt56_13 S71 h71, kp56_7, kp56_8]
  rfl
theorem kp56_9 (x0) : keep [2] [(2, .v U2 x0)] = [(2, .v U2 x0)] := by kernel_rfl
theorem kp56_10 : keep [2] [(2, .dead)] = [(2, .dead)] := by kernel_rfl
def g56_15 (k0 : Int → Option R) : Option R :=
k0 (-1 : Int)
theorem t56_15 : exec cl N c56_15 [(2, .dead)] K = (g56_15 (fun y0 => K .normal [(2, .v U2 y0)])) := by
  kernel_rfl
def g56_16 (N : Nat) (S71 : V19 → Option (Bool)) (x0 : V20) (k0 : Int → Option R) : Option R :=
(g56_0 x0 (fun y0 => (g56_1 y0 (fun y0 y1 => (g56_13 N S71 y0 y1 (fun y0 => (k0 y0)) (g56_15 (fun y0 => (k0 y0))))))))
theorem t56_16 (S71) (h71 : (ctr71 S71).holds cl) (x0) : exec cl N c56_16 [(0, .v U21 x0)] K = (g56_16 N S71 x0 (fun y0 => K .ret [(2, .v U2 y0)])) := by
  simp only [c56_16, exec_seq, seqK_normal, seqK_exit, seqK_ret, t56_0, t56_1, c56_14, exec_out, exec_block, t56_13 S71 h71, blockK_normal, blockK_ret, blockK_eq, kp56_10, kp56_9, t56_15, exec_ret]
  rfl
theorem rk56_0 (y0) : retK d56 .ret [(2, .v U2 y0)] = some [.v U2 y0] := by kernel_rfl
def g56 (N : Nat) (S71 : V19 → Option (Bool)) (x0 : V20) (k : Int → Option R) : Option R :=
(g56_16 N S71 x0 (fun y0 => k y0))
theorem gen56 {N : Nat} {cl : Cal} (S71 : V19 → Option (Bool)) (h71 : (ctr71 S71).holds cl) (x0 : V20) {R : Type} (k : List E → Option R) : exec cl N c56 (params 0 [.v U21 x0]) (fun e env => (retK d56 e env).bind k) = g56 N S71 x0 (fun (r0 : Int) => k [.v U2 r0]) := by
  have e0 : params 0 [.v U21 x0] = [(0, .v U21 x0)] := by kernel_rfl
  simp only [c56, e0, t56_16 S71 h71, rk56_0, Option.bind_some]
  rfl
def ctr56 (S : V20 → Option (Int)) : Ctr := { A := V20 × Unit, B := Int, f := 56, enc := fun a => [.v U21 a.1], dec := (decC (decV U21) dec0), S := fun a => S a.1, ent := fun b => [.v U2 b], ok := (decV_cons (T := U21) (fun es b h => dec0_some h)) }
def S56 (N : Nat) (x0 : V20) : Option (Int) := g56 N (S71 N) x0 (fun (r0 : Int) => some (r0))
def g68_0 (x0 : V20) (k0 : V20 → Option R) : Option R :=
k0 x0
theorem t68_0 (x0) : exec cl N c68_0 [(0, .v U21 x0)] K = (g68_0 x0 (fun y0 => K .normal [(0, .v U21 y0)])) := by
  kernel_rfl
def g68_1 (S56 : V20 → Option (Int)) (x0 : V20) (k0 : Bool → Option R) : Option R :=
(S56 x0).bind fun r695 =>
k0 (decide (r695 ≥ (0 : Int)))
theorem t68_1 (S56) (h56 : (ctr56 S56).holds cl) (x0) : exec cl N c68_1 [(0, .v U21 x0)] K = (g68_1 S56 x0 (fun y0 => K .normal [(2, .v .bool y0)])) := by
  rw [← put_eq h56]
  kernel_rfl
def g68_2 (S56 : V20 → Option (Int)) (x0 : V20) (k0 : Bool → Option R) : Option R :=
(g68_0 x0 (fun y0 => (g68_1 S56 y0 (fun y0 => (k0 y0)))))
theorem t68_2 (S56) (h56 : (ctr56 S56).holds cl) (x0) : exec cl N c68_2 [(0, .v U21 x0)] K = (g68_2 S56 x0 (fun y0 => K .ret [(2, .v .bool y0)])) := by
  simp only [c68_2, exec_seq, seqK_normal, seqK_exit, seqK_ret, t68_0, t68_1 S56 h56, exec_ret]
  rfl
theorem rk68_0 (y0) : retK d68 .ret [(2, .v .bool y0)] = some [.v .bool y0] := by kernel_rfl
def g68 (S56 : V20 → Option (Int)) (x0 : V20) (k : Bool → Option R) : Option R :=
(g68_2 S56 x0 (fun y0 => k y0))
theorem gen68 {N : Nat} {cl : Cal} (S56 : V20 → Option (Int)) (h56 : (ctr56 S56).holds cl) (x0 : V20) {R : Type} (k : List E → Option R) : exec cl N c68 (params 0 [.v U21 x0]) (fun e env => (retK d68 e env).bind k) = g68 S56 x0 (fun (r0 : Bool) => k [.v .bool r0]) := by
  have e0 : params 0 [.v U21 x0] = [(0, .v U21 x0)] := by kernel_rfl
  simp only [c68, e0, t68_2 S56 h56, rk68_0, Option.bind_some]
  rfl
def ctr68 (S : V20 → Option (Bool)) : Ctr := { A := V20 × Unit, B := Bool, f := 68, enc := fun a => [.v U21 a.1], dec := (decC (decV U21) dec0), S := fun a => S a.1, ent := fun b => [.v .bool b], ok := (decV_cons (T := U21) (fun es b h => dec0_some h)) }
def S68 (N : Nat) (x0 : V20) : Option (Bool) := g68 (S56 N) x0 (fun (r0 : Bool) => some (r0))
def g40_0 (x0 x1 : V20) (k0 : V20 → V20 → Option R) : Option R :=
k0 x0 x1
theorem t40_0 (x0 x1) : exec cl N c40_0 (e115 x0 x1) K = (g40_0 x0 x1 (fun y0 y1 => K .normal (e115 y0 y1))) := by
  kernel_rfl
def g40_1 (S43 : V20 → Option (Int)) (x0 x1 : V20) (k0 : V20 → V20 → Int → Option R) : Option R :=
(S43 x0).bind fun r702 =>
k0 x0 x1 r702
theorem t40_1 (S43) (h43 : (ctr43 S43).holds cl) (x0 x1) : exec cl N c40_1 (e115 x0 x1) K = (g40_1 S43 x0 x1 (fun y0 y1 y2 => K .normal (e128 y0 y1 y2))) := by
  rw [← put_eq h43]
  kernel_rfl
def g40_2 (S68 : V20 → Option (Bool)) (x0 x1 : V20) (x2 : Int) (k0 : V20 → Int → Bool → Option R) : Option R :=
(S68 x1).bind fun r703 =>
brB (!r703) (k0 x0 x2 true) (k0 x0 x2 (x2 == (0 : Int)))
theorem t40_2 (S68) (h68 : (ctr68 S68).holds cl) (x0 x1 x2) : exec cl N c40_2 (e128 x0 x1 x2) K = (g40_2 S68 x0 x1 x2 (fun y0 y1 y2 => K .normal (e217 y0 y1 y2))) := by
  rw [← put_eq h68]
  kernel_rfl
def g40_3 (x0 : V20) (x1 : Int) (x2 : Bool) (k0 : V0 → Option R) : Option R :=
k0 [(0 : Int)]
theorem t40_3 (x0 x1 x2) : exec cl N c40_3 (e217 x0 x1 x2) K = (g40_3 x0 x1 x2 (fun y0 => K .normal (e130 y0))) := by
  kernel_rfl
theorem kp40_0 (x0) : keep [0, 4, 5] (e130 x0) = (e218 x0) := by kernel_rfl
theorem kp40_1 (x0 x1 x2) : keep [0, 4, 5] (e217 x0 x1 x2) = (e13 x0 x1) := by kernel_rfl
theorem hb40_0 (x0 x1 x2) : boolOf? (ent (e217 x0 x1 x2) (.t 15)) = some x2 := by kernel_rfl
def g40_5 (x0 : V20) (x1 : Int) (k0 : V20 → Bool → Option R) : Option R :=
k0 x0 (x1 == (2 : Int))
theorem t40_5 (x0 x1) : exec cl N c40_5 (e13 x0 x1) K = (g40_5 x0 x1 (fun y0 y1 => K .normal (e219 y0 y1))) := by
  kernel_rfl
def g40_6 (x0 : V20) (x1 : Bool) (k0 : V0 → Option R) : Option R :=
k0 [(1 : Int), (3 : Int)]
theorem t40_6 (x0 x1) : exec cl N c40_6 (e219 x0 x1) K = (g40_6 x0 x1 (fun y0 => K .normal (e130 y0))) := by
  kernel_rfl
theorem kp40_2 (x0) : keep [0, 4] (e130 x0) = (e220 x0) := by kernel_rfl
theorem kp40_3 (x0 x1) : keep [0, 4] (e219 x0 x1) = (e8 x0) := by kernel_rfl
theorem hb40_1 (x0 x1) : boolOf? (ent (e219 x0 x1) (.t 18)) = some x1 := by kernel_rfl
def g40_8 (x0 : V20) (k0 : V20 → V0 → Option R) : Option R :=
k0 x0 [(1 : Int), (2 : Int), (3 : Int)]
theorem t40_8 (x0) : exec cl N c40_8 (e8 x0) K = (g40_8 x0 (fun y0 y1 => K .normal (e221 y0 y1))) := by
  kernel_rfl
def g40_9 (x0 : V20) (x1 : V0) (k0 : V0 → Bool → Option R) : Option R :=
let v706 : Int := (IntKind.i64.wrap ((x0.length : Int) - (1 : Int)))
if 0 ≤ v706 ∧ v706 < (x0.length : Int) then
k0 x1 ((x0.getD v706.toNat ((0 : Int), ((0 : Int), ([], ())))).2.1 != (1 : Int))
else none
theorem t40_9 (x0 x1) : exec cl N c40_9 (e221 x0 x1) K = (g40_9 x0 x1 (fun y0 y1 => K .normal (e222 y0 y1))) := by
  kernel_rfl
def g40_10 (x0 : V0) (x1 : Bool) (k0 : V0 → Option R) : Option R :=
if x0.length + [(4 : Int)].length ≤ 17592186044416 then
k0 (x0 ++ [(4 : Int)])
else none
theorem t40_10 (x0 x1) : exec cl N c40_10 (e222 x0 x1) K = (g40_10 x0 x1 (fun y0 => K .normal (e223 y0))) := by
  kernel_rfl
theorem kp40_4 (x0) : keep [6] (e223 x0) = (e223 x0) := by kernel_rfl
theorem kp40_5 (x0 x1) : keep [6] (e222 x0 x1) = (e223 x0) := by kernel_rfl
theorem hb40_2 (x0 x1) : boolOf? (ent (e222 x0 x1) (.t 28)) = some x1 := by kernel_rfl
def g40_12 (x0 : V20) (x1 : V0) (k0 : V0 → Option R) : Option R :=
(g40_9 x0 x1 (fun y0 y1 => brB y1 (g40_10 y0 y1 (fun y0 => (k0 y0))) (k0 y0)))
theorem t40_12 (x0 x1) : exec cl N c40_12 (e221 x0 x1) K = (g40_12 x0 x1 (fun y0 => K .normal (e223 y0))) := by
  simp only [c40_12, exec_seq, seqK_normal, seqK_exit, seqK_ret, t40_9, c40_11, exec_out, exec_cond', hb40_2, Option.bind_some, brB_true, brB_false, t40_10, exec_skip, kp40_4, kp40_5]
  rfl
def g40_13 (x0 : V0) (k0 : V0 → Option R) : Option R :=
k0 x0
theorem t40_13 (x0) : exec cl N c40_13 (e223 x0) K = (g40_13 x0 (fun y0 => K .normal (e224 y0))) := by
  kernel_rfl
def g40_14 (S43 : V20 → Option (Int)) (S68 : V20 → Option (Bool)) (x0 x1 : V20) (k0 : V0 → Option R) (k1 : V0 → Option R) (k2 : V0 → Option R) : Option R :=
(g40_0 x0 x1 (fun y0 y1 => (g40_1 S43 y0 y1 (fun y0 y1 y2 => (g40_2 S68 y0 y1 y2 (fun y0 y1 y2 => brB y2 (g40_3 y0 y1 y2 (fun y0 => ((fun y0 => (k0 y0)) y0))) ((fun y0 y1 => (g40_5 y0 y1 (fun y0 y1 => brB y1 (g40_6 y0 y1 (fun y0 => ((fun y0 => (k1 y0)) y0))) ((fun y0 => (g40_8 y0 (fun y0 y1 => (g40_12 y0 y1 (fun y0 => (g40_13 y0 (fun y0 => (k2 y0)))))))) y0)))) y0 y1)))))))
theorem t40_14 (S43) (S68) (h43 : (ctr43 S43).holds cl) (h68 : (ctr68 S68).holds cl) (x0 x1) : exec cl N c40_14 (e115 x0 x1) K = (g40_14 S43 S68 x0 x1 (fun y0 => K .ret (e218 y0)) (fun y0 => K .ret (e220 y0)) (fun y0 => K .ret (e224 y0))) := by
  simp only [c40_14, exec_seq, seqK_normal, seqK_exit, seqK_ret, t40_0, t40_1 S43 h43, t40_2 S68 h68, c40_4, exec_out, exec_cond', hb40_0, Option.bind_some, brB_true, brB_false, t40_3, exec_ret, exec_skip, kp40_0, kp40_1, t40_5, c40_7, hb40_1, t40_6, kp40_2, kp40_3, t40_8, t40_12, t40_13]
  rfl
theorem rk40_0 (y0) : retK d40 .ret (e218 y0) = some [.own true 3 U2 .no y0] := by kernel_rfl
theorem rk40_1 (y0) : retK d40 .ret (e220 y0) = some [.own true 3 U2 .no y0] := by kernel_rfl
theorem rk40_2 (y0) : retK d40 .ret (e224 y0) = some [.own true 3 U2 .no y0] := by kernel_rfl
def g40 (S43 : V20 → Option (Int)) (S68 : V20 → Option (Bool)) (x0 x1 : V20) (k : V0 → Option R) : Option R :=
(g40_14 S43 S68 x0 x1 (fun y0 => k y0) (fun y0 => k y0) (fun y0 => k y0))
theorem gen40 {N : Nat} {cl : Cal} (S43 : V20 → Option (Int)) (S68 : V20 → Option (Bool)) (h43 : (ctr43 S43).holds cl) (h68 : (ctr68 S68).holds cl) (x0 : V20) (x1 : V20) {R : Type} (k : List E → Option R) : exec cl N c40 (params 0 [.v U21 x0, .v U21 x1]) (fun e env => (retK d40 e env).bind k) = g40 S43 S68 x0 x1 (fun (r0 : V0) => k [.own true 3 U2 .no r0]) := by
  have e0 : params 0 [.v U21 x0, .v U21 x1] = (e115 x0 x1) := by kernel_rfl
  simp only [c40, e0, t40_14 S43 S68 h43 h68, rk40_0, rk40_1, rk40_2, Option.bind_some]
  rfl
def ctr40 (S : V20 → V20 → Option V3) : Ctr := { A := V20 × V20 × Unit, B := V0, f := 40, enc := fun a => [.v U21 a.1, .v U21 a.2.1], dec := (decC (decV U21) (decC (decV U21) dec0)), S := fun a => S a.1 a.2.1, ent := fun b => [.own true 3 U2 .no b], ok := (decV_cons (T := U21) (decV_cons (T := U21) (fun es b h => dec0_some h))) }
def S40 (N : Nat) (x0 : V20) (x1 : V20) : Option V3 := g40 (S43 N) (S68 N) x0 x1 (fun (r0 : V0) => some (r0))
def g42_0 (x0 x1 : Int) (k0 : Int → Int → Option R) : Option R :=
k0 x0 x1
theorem t42_0 (x0 x1) : exec cl N c42_0 (e132 x0 x1) K = (g42_0 x0 x1 (fun y0 y1 => K .normal (e132 y0 y1))) := by
  kernel_rfl
def g42_1 (x0 x1 : Int) (k0 : Int → Bool → Option R) : Option R :=
brB (x0 == (1 : Int)) (k0 x0 (x1 == (2 : Int))) (k0 x0 false)
theorem t42_1 (x0 x1) : exec cl N c42_1 (e132 x0 x1) K = (g42_1 x0 x1 (fun y0 y1 => K .normal (e225 y0 y1))) := by
  kernel_rfl
def g42_2 (x0 : Int) (x1 : Bool) (k0 : Int → Option R) : Option R :=
k0 (9 : Int)
theorem t42_2 (x0 x1) : exec cl N c42_2 (e225 x0 x1) K = (g42_2 x0 x1 (fun y0 => K .normal [(4, .v U2 y0)])) := by
  kernel_rfl
theorem kp42_0 (x0) : keep [0, 4] [(4, .v U2 x0)] = [(0, .dead), (4, .v U2 x0)] := by kernel_rfl
theorem kp42_1 (x0 x1) : keep [0, 4] (e225 x0 x1) = [(0, .v U2 x0), (4, .dead)] := by kernel_rfl
theorem hb42_0 (x0 x1) : boolOf? (ent (e225 x0 x1) (.t 11)) = some x1 := by kernel_rfl
def g42_4 (x0 : Int) (k0 : Int → V0 → Option R) : Option R :=
k0 x0 [(0 : Int), (8 : Int), (10 : Int), (11 : Int), (12 : Int)]
theorem t42_4 (x0) : exec cl N c42_4 [(0, .v U2 x0), (4, .dead)] K = (g42_4 x0 (fun y0 y1 => K .normal [(0, .v U2 y0), (5, .own true 3 U2 .no y1)])) := by
  kernel_rfl
def g42_5 (x0 : Int) (x1 : V0) (k0 : Int → Option R) : Option R :=
if 0 ≤ x0 ∧ x0 < (x1.length : Int) then
if x0.toNat < x1.length then
k0 (x1.getD x0.toNat (0 : Int))
else none
else none
theorem t42_5 (x0 x1) : exec cl N c42_5 [(0, .v U2 x0), (5, .own true 3 U2 .no x1)] K = (g42_5 x0 x1 (fun y0 => K .normal [(4, .v U2 y0)])) := by
  kernel_rfl
def g42_6 (x0 x1 : Int) (k0 : Int → Option R) (k1 : Int → Option R) : Option R :=
(g42_0 x0 x1 (fun y0 y1 => (g42_1 y0 y1 (fun y0 y1 => brB y1 (g42_2 y0 y1 (fun y0 => ((fun y0 => (k0 y0)) y0))) ((fun y0 => (g42_4 y0 (fun y0 y1 => (g42_5 y0 y1 (fun y0 => (k1 y0)))))) y0)))))
theorem t42_6 (x0 x1) : exec cl N c42_6 (e132 x0 x1) K = (g42_6 x0 x1 (fun y0 => K .ret [(0, .dead), (4, .v U2 y0)]) (fun y0 => K .ret [(4, .v U2 y0)])) := by
  simp only [c42_6, exec_seq, seqK_normal, seqK_exit, seqK_ret, t42_0, t42_1, c42_3, exec_out, exec_cond', hb42_0, Option.bind_some, brB_true, brB_false, t42_2, exec_ret, exec_skip, kp42_0, kp42_1, t42_4, t42_5]
  rfl
theorem rk42_0 (y0) : retK d42 .ret [(0, .dead), (4, .v U2 y0)] = some [.v U2 y0] := by kernel_rfl
theorem rk42_1 (y0) : retK d42 .ret [(4, .v U2 y0)] = some [.v U2 y0] := by kernel_rfl
def g42 (x0 x1 : Int) (k : Int → Option R) : Option R :=
(g42_6 x0 x1 (fun y0 => k y0) (fun y0 => k y0))
theorem gen42 {N : Nat} {cl : Cal} (x0 : Int) (x1 : Int) {R : Type} (k : List E → Option R) : exec cl N c42 (params 0 [.v U2 x0, .v U2 x1]) (fun e env => (retK d42 e env).bind k) = g42 x0 x1 (fun (r0 : Int) => k [.v U2 r0]) := by
  have e0 : params 0 [.v U2 x0, .v U2 x1] = (e132 x0 x1) := by kernel_rfl
  simp only [c42, e0, t42_6, rk42_0, rk42_1, Option.bind_some]
  rfl
def ctr42 (S : Int → Int → Option (Int)) : Ctr := { A := Int × Int × Unit, B := Int, f := 42, enc := fun a => [.v U2 a.1, .v U2 a.2.1], dec := (decC (decV U2) (decC (decV U2) dec0)), S := fun a => S a.1 a.2.1, ent := fun b => [.v U2 b], ok := (decV_cons (T := U2) (decV_cons (T := U2) (fun es b h => dec0_some h))) }
def S42 (N : Nat) (x0 : Int) (x1 : Int) : Option (Int) := g42 x0 x1 (fun (r0 : Int) => some (r0))
def g41_0 (x0 : V28) (x1 : Int) (x2 : V1) (k0 : Int → V1 → V28 → Option R) : Option R :=
k0 x1 x2 x0
theorem t41_0 (x0 x1 x2) : exec cl N c41_0 (e137 x0 x1 x2) K = (g41_0 x0 x1 x2 (fun y0 y1 y2 => K .normal (e138 y0 y1 y2))) := by
  kernel_rfl
def g41_1 (x0 : Int) (x1 : V1) (x2 : V28) (k0 : Int → V1 → V28 → Int → Bool → Option R) : Option R :=
k0 x0 x1 x2 (0 : Int) false
theorem t41_1 (x0 x1 x2) : exec cl N c41_1 (e138 x0 x1 x2) K = (g41_1 x0 x1 x2 (fun y0 y1 y2 y3 y4 => K .normal (e139 y0 y1 y2 y3 y4))) := by
  kernel_rfl
def g41_2 (S69 : V1 → Option V5) (x0 : Int) (x1 : V1) (x2 : V28) (x3 : Int) (x4 : Bool) (k0 : Int → V28 → Int → Bool → V1 → Option R) : Option R :=
(S69 x1).bind fun r730 =>
k0 x0 x2 x3 x4 r730
theorem t41_2 (S69) (h69 : (ctr69 S69).holds cl) (x0 x1 x2 x3 x4) : exec cl N c41_2 (e139 x0 x1 x2 x3 x4) K = (g41_2 S69 x0 x1 x2 x3 x4 (fun y0 y1 y2 y3 y4 => K .normal (e226 y0 y1 y2 y3 y4))) := by
  rw [← put_eq h69]
  kernel_rfl
def g41_3 (x0 : Int) (x1 : V28) (x2 : Int) (x3 : Bool) (x4 : V1) (k0 : Int → V28 → Int → Bool → V1 → Int → Option R) : Option R :=
k0 x0 x1 x2 x3 x4 (0 : Int)
theorem t41_3 (x0 x1 x2 x3 x4) : exec cl N c41_3 (e226 x0 x1 x2 x3 x4) K = (g41_3 x0 x1 x2 x3 x4 (fun y0 y1 y2 y3 y4 y5 => K .normal (e227 y0 y1 y2 y3 y4 y5))) := by
  kernel_rfl
theorem kp41_0 (x0 x1 x2 x3 x4 x5) : keep [1, 3, 8, 9, 10, 11] (e227 x0 x1 x2 x3 x4 x5) = (e227 x0 x1 x2 x3 x4 x5) := by kernel_rfl
def g41_4 (x0 : Int) (x1 : V28) (x2 : Int) (x3 : Bool) (x4 : V1) (x5 : Int) (k0 : Int → V28 → Int → Bool → V1 → Int → Bool → Option R) : Option R :=
k0 x0 x1 x2 x3 x4 x5 (decide (x5 < (x1.2.1.length : Int)))
theorem t41_4 (x0 x1 x2 x3 x4 x5) : exec cl N c41_4 (e227 x0 x1 x2 x3 x4 x5) K = (g41_4 x0 x1 x2 x3 x4 x5 (fun y0 y1 y2 y3 y4 y5 y6 => K .normal (e228 y0 y1 y2 y3 y4 y5 y6))) := by
  kernel_rfl
theorem kp41_1 (x0 x1 x2 x3 x4 x5 x6) : keep [1, 3, 8, 9, 10, 11] (e228 x0 x1 x2 x3 x4 x5 x6) = (e227 x0 x1 x2 x3 x4 x5) := by kernel_rfl
theorem hb41_0 (x0 x1 x2 x3 x4 x5 x6) : boolOf? (ent (e228 x0 x1 x2 x3 x4 x5 x6) (.t 19)) = some x6 := by kernel_rfl
def g41_6 (x0 : Int) (x1 : V28) (x2 : Int) (x3 : Bool) (x4 : V1) (x5 : Int) (k0 : Int → V28 → Int → Bool → V1 → Int → V21 → Option R) : Option R :=
if 0 ≤ x5 ∧ x5 < (x1.2.1.length : Int) then
k0 x0 x1 x2 x3 x4 x5 (x1.2.1.getD x5.toNat ((0 : Int), ((0 : Int), ([], ()))))
else none
theorem t41_6 (x0 x1 x2 x3 x4 x5) : exec cl N c41_6 (e227 x0 x1 x2 x3 x4 x5) K = (g41_6 x0 x1 x2 x3 x4 x5 (fun y0 y1 y2 y3 y4 y5 y6 => K .normal (e229 y0 y1 y2 y3 y4 y5 y6))) := by
  kernel_rfl
def g41_7 (S70 : V6 → V1 → Option (Bool)) (x0 : Int) (x1 : V28) (x2 : Int) (x3 : Bool) (x4 : V1) (x5 : Int) (x6 : V21) (k0 : Int → V28 → Int → Bool → V1 → Int → V21 → Bool → Option R) : Option R :=
brB (x6.1 != x0) (k0 x0 x1 x2 x3 x4 x5 x6 true) (brB (decide ((x6.2.2.1.length : Int) > (0 : Int))) ((S70 x6.2.2.1 x4).bind fun r733 =>
k0 x0 x1 x2 x3 x4 x5 x6 (!r733)) (k0 x0 x1 x2 x3 x4 x5 x6 false))
theorem t41_7 (S70) (h70 : (ctr70 S70).holds cl) (x0 x1 x2 x3 x4 x5 x6) : exec cl N c41_7 (e229 x0 x1 x2 x3 x4 x5 x6) K = (g41_7 S70 x0 x1 x2 x3 x4 x5 x6 (fun y0 y1 y2 y3 y4 y5 y6 y7 => K .normal (e230 y0 y1 y2 y3 y4 y5 y6 y7))) := by
  rw [← put_eq h70]
  kernel_rfl
theorem kp41_2 (x0 x1 x2 x3 x4 x5 x6 x7) : keep [1, 3, 8, 9, 10, 11, 12] (e230 x0 x1 x2 x3 x4 x5 x6 x7) = (e229 x0 x1 x2 x3 x4 x5 x6) := by kernel_rfl
theorem hb41_1 (x0 x1 x2 x3 x4 x5 x6 x7) : boolOf? (ent (e230 x0 x1 x2 x3 x4 x5 x6 x7) (.t 43)) = some x7 := by kernel_rfl
def g41_9 (x0 : Int) (x1 : V28) (x2 : Int) (x3 : Bool) (x4 : V1) (x5 : Int) (x6 : V21) (k0 : Int → V28 → Int → Bool → V1 → Int → V21 → Bool → Option R) : Option R :=
brB (!x3) (k0 x0 x1 x2 x3 x4 x5 x6 true) (k0 x0 x1 x2 x3 x4 x5 x6 (decide (x6.2.1 < x2)))
theorem t41_9 (x0 x1 x2 x3 x4 x5 x6) : exec cl N c41_9 (e229 x0 x1 x2 x3 x4 x5 x6) K = (g41_9 x0 x1 x2 x3 x4 x5 x6 (fun y0 y1 y2 y3 y4 y5 y6 y7 => K .normal (e231 y0 y1 y2 y3 y4 y5 y6 y7))) := by
  kernel_rfl
def g41_10 (x0 : Int) (x1 : V28) (x2 : Int) (x3 : Bool) (x4 : V1) (x5 : Int) (x6 : V21) (x7 : Bool) (k0 : Int → V28 → Int → Bool → V1 → Int → Option R) : Option R :=
k0 x0 x1 x6.2.1 true x4 x5
theorem t41_10 (x0 x1 x2 x3 x4 x5 x6 x7) : exec cl N c41_10 (e231 x0 x1 x2 x3 x4 x5 x6 x7) K = (g41_10 x0 x1 x2 x3 x4 x5 x6 x7 (fun y0 y1 y2 y3 y4 y5 => K .normal (e227 y0 y1 y2 y3 y4 y5))) := by
  kernel_rfl
theorem kp41_3 (x0 x1 x2 x3 x4 x5 x6 x7) : keep [1, 3, 8, 9, 10, 11] (e231 x0 x1 x2 x3 x4 x5 x6 x7) = (e227 x0 x1 x2 x3 x4 x5) := by kernel_rfl
theorem hb41_2 (x0 x1 x2 x3 x4 x5 x6 x7) : boolOf? (ent (e231 x0 x1 x2 x3 x4 x5 x6 x7) (.t 51)) = some x7 := by kernel_rfl
theorem kp41_4 (x0 x1 x2 x3 x4 x5 x6) : keep [1, 3, 8, 9, 10, 11] (e229 x0 x1 x2 x3 x4 x5 x6) = (e227 x0 x1 x2 x3 x4 x5) := by kernel_rfl
def g41_12 (S70 : V6 → V1 → Option (Bool)) (x0 : Int) (x1 : V28) (x2 : Int) (x3 : Bool) (x4 : V1) (x5 : Int) (k0 : Int → V28 → Int → Bool → V1 → Int → Option R) : Option R :=
(g41_6 x0 x1 x2 x3 x4 x5 (fun y0 y1 y2 y3 y4 y5 y6 => (g41_7 S70 y0 y1 y2 y3 y4 y5 y6 (fun y0 y1 y2 y3 y4 y5 y6 y7 => brB y7 (k0 y0 y1 y2 y3 y4 y5) ((fun y0 y1 y2 y3 y4 y5 y6 => (g41_9 y0 y1 y2 y3 y4 y5 y6 (fun y0 y1 y2 y3 y4 y5 y6 y7 => brB y7 (g41_10 y0 y1 y2 y3 y4 y5 y6 y7 (fun y0 y1 y2 y3 y4 y5 => (k0 y0 y1 y2 y3 y4 y5))) (k0 y0 y1 y2 y3 y4 y5)))) y0 y1 y2 y3 y4 y5 y6)))))
theorem t41_12 (S70) (h70 : (ctr70 S70).holds cl) (x0 x1 x2 x3 x4 x5) : exec cl N c41_12 (e227 x0 x1 x2 x3 x4 x5) K = (g41_12 S70 x0 x1 x2 x3 x4 x5 (fun y0 y1 y2 y3 y4 y5 => K .normal (e227 y0 y1 y2 y3 y4 y5))) := by
  simp only [c41_12, exec_out, exec_block, exec_seq, seqK_normal, seqK_exit, seqK_ret, t41_6, t41_7 S70 h70, c41_8, exec_cond', hb41_1, Option.bind_some, brB_true, brB_false, exec_exit, exec_skip, kp41_2, t41_9, c41_11, hb41_2, t41_10, kp41_0, kp41_3, blockK_normal, blockK_ret, blockK_eq, kp41_4]
  rfl
def g41_13 (x0 : Int) (x1 : V28) (x2 : Int) (x3 : Bool) (x4 : V1) (x5 : Int) (k0 : Int → V28 → Int → Bool → V1 → Int → Option R) : Option R :=
k0 x0 x1 x2 x3 x4 (IntKind.i64.wrap (x5 + (1 : Int)))
theorem t41_13 (x0 x1 x2 x3 x4 x5) : exec cl N c41_13 (e227 x0 x1 x2 x3 x4 x5) K = (g41_13 x0 x1 x2 x3 x4 x5 (fun y0 y1 y2 y3 y4 y5 => K .normal (e227 y0 y1 y2 y3 y4 y5))) := by
  kernel_rfl
def g41_14 (S70 : V6 → V1 → Option (Bool)) (x0 : Int) (x1 : V28) (x2 : Int) (x3 : Bool) (x4 : V1) (x5 : Int) (k0 : Int → V28 → Int → Bool → V1 → Int → Option R) (k1 : Int → V28 → Int → Bool → V1 → Int → Option R) : Option R :=
(g41_4 x0 x1 x2 x3 x4 x5 (fun y0 y1 y2 y3 y4 y5 y6 => brB y6 ((fun y0 y1 y2 y3 y4 y5 => (g41_12 S70 y0 y1 y2 y3 y4 y5 (fun y0 y1 y2 y3 y4 y5 => (g41_13 y0 y1 y2 y3 y4 y5 k0)))) y0 y1 y2 y3 y4 y5) (k1 y0 y1 y2 y3 y4 y5)))
theorem t41_14 (S70) (h70 : (ctr70 S70).holds cl) (x0 x1 x2 x3 x4 x5) : exec cl N c41_14 (e227 x0 x1 x2 x3 x4 x5) K = (g41_14 S70 x0 x1 x2 x3 x4 x5 (fun y0 y1 y2 y3 y4 y5 => K .normal (e227 y0 y1 y2 y3 y4 y5)) (fun y0 y1 y2 y3 y4 y5 => K (.exit 0) (e227 y0 y1 y2 y3 y4 y5))) := by
  simp only [c41_14, exec_seq, seqK_normal, seqK_exit, seqK_ret, t41_4, c41_5, exec_out, exec_cond', hb41_0, Option.bind_some, brB_true, brB_false, exec_skip, exec_exit, kp41_1, t41_12 S70 h70, t41_13]
  rfl
def l41_15 {R : Type} (S70 : V6 → V1 → Option (Bool)) (k0 : Int → V28 → Int → Bool → V1 → Int → Option R) : Nat → Int → V28 → Int → Bool → V1 → Int → Option R
  | 0, _, _, _, _, _, _ => none
  | m + 1, x0, x1, x2, x3, x4, x5 => (g41_14 S70 x0 x1 x2 x3 x4 x5 (fun y0 y1 y2 y3 y4 y5 => l41_15 S70 k0 m y0 y1 y2 y3 y4 y5) k0)
theorem lt41_15 (S70) (h70 : (ctr70 S70).holds cl) : ∀ (m) (x0 x1 x2 x3 x4 x5), iter [1, 3, 8, 9, 10, 11] (fun env K => exec cl N c41_14 env K) K m (e227 x0 x1 x2 x3 x4 x5) = l41_15 S70 (fun y0 y1 y2 y3 y4 y5 => K (.exit 0) (e227 y0 y1 y2 y3 y4 y5)) m x0 x1 x2 x3 x4 x5 := by
  intro m
  induction m with
  | zero => intros; rfl
  | succ m ih =>
    intro x0 x1 x2 x3 x4 x5
    simp only [iter_succ, t41_14 S70 h70, loopK_normal, loopK_exit, loopK_ret, kp41_0, ih]
    rfl
theorem kp41_5 (x0 x1 x2 x3 x4 x5) : keep [8, 9] (e227 x0 x1 x2 x3 x4 x5) = (e144 x2 x3) := by kernel_rfl
def g41_15 (N : Nat) (S70 : V6 → V1 → Option (Bool)) (x0 : Int) (x1 : V28) (x2 : Int) (x3 : Bool) (x4 : V1) (x5 : Int) (k0 : Int → Bool → Option R) : Option R :=
l41_15 S70 (fun y0 y1 y2 y3 y4 y5 => k0 y2 y3) N x0 x1 x2 x3 x4 x5
theorem t41_15 (S70) (h70 : (ctr70 S70).holds cl) (x0 x1 x2 x3 x4 x5) : exec cl N c41_15 (e227 x0 x1 x2 x3 x4 x5) K = (g41_15 N S70 x0 x1 x2 x3 x4 x5 (fun y0 y1 => K (.exit 0) (e144 y0 y1))) := by
  simp only [c41_15, exec_out, exec_loop, kp41_0, lt41_15 S70 h70, kp41_5]
  rfl
theorem kp41_6 (x0 x1) : keep [8, 9] (e144 x0 x1) = (e144 x0 x1) := by kernel_rfl
def g41_17 (x0 : Int) (x1 : Bool) (k0 : Int → Bool → Option R) : Option R :=
k0 x0 x1
theorem t41_17 (x0 x1) : exec cl N c41_17 (e144 x0 x1) K = (g41_17 x0 x1 (fun y0 y1 => K .normal (e145 y0 y1))) := by
  kernel_rfl
def g41_18 (N : Nat) (S69 : V1 → Option V5) (S70 : V6 → V1 → Option (Bool)) (x0 : V28) (x1 : Int) (x2 : V1) (k0 : Int → Bool → Option R) : Option R :=
(g41_0 x0 x1 x2 (fun y0 y1 y2 => (g41_1 y0 y1 y2 (fun y0 y1 y2 y3 y4 => (g41_2 S69 y0 y1 y2 y3 y4 (fun y0 y1 y2 y3 y4 => (g41_3 y0 y1 y2 y3 y4 (fun y0 y1 y2 y3 y4 y5 => (g41_15 N S70 y0 y1 y2 y3 y4 y5 (fun y0 y1 => ((fun y0 y1 => (g41_17 y0 y1 (fun y0 y1 => (k0 y0 y1)))) y0 y1)))))))))))
theorem t41_18 (S69) (S70) (h69 : (ctr69 S69).holds cl) (h70 : (ctr70 S70).holds cl) (x0 x1 x2) : exec cl N c41_18 (e137 x0 x1 x2) K = (g41_18 N S69 S70 x0 x1 x2 (fun y0 y1 => K .ret (e145 y0 y1))) := by
  simp only [c41_18, exec_seq, seqK_normal, seqK_exit, seqK_ret, t41_0, t41_1, t41_2 S69 h69, t41_3, c41_16, exec_out, exec_block, t41_15 S70 h70, blockK_normal, blockK_ret, blockK_eq, kp41_6, t41_17, exec_ret]
  rfl
theorem rk41_0 (y0 y1) : retK d41 .ret (e145 y0 y1) = some [.v U2 y0, .v .bool y1] := by kernel_rfl
def g41 (N : Nat) (S69 : V1 → Option V5) (S70 : V6 → V1 → Option (Bool)) (x0 : V28) (x1 : Int) (x2 : V1) (k : Int → Bool → Option R) : Option R :=
(g41_18 N S69 S70 x0 x1 x2 (fun y0 y1 => k y0 y1))
theorem gen41 {N : Nat} {cl : Cal} (S69 : V1 → Option V5) (S70 : V6 → V1 → Option (Bool)) (h69 : (ctr69 S69).holds cl) (h70 : (ctr70 S70).holds cl) (x0 : V28) (x1 : Int) (x2 : V1) {R : Type} (k : List E → Option R) : exec cl N c41 (params 0 [.v U27 x0, .v U2 x1, .v .str x2]) (fun e env => (retK d41 e env).bind k) = g41 N S69 S70 x0 x1 x2 (fun (r0 : Int) (r1 : Bool) => k [.v U2 r0, .v .bool r1]) := by
  have e0 : params 0 [.v U27 x0, .v U2 x1, .v .str x2] = (e137 x0 x1 x2) := by kernel_rfl
  simp only [c41, e0, t41_18 S69 S70 h69 h70, rk41_0, Option.bind_some]
  rfl
def ctr41 (S : V28 → Int → V1 → Option V4) : Ctr := { A := V28 × Int × V1 × Unit, B := Int × Bool, f := 41, enc := fun a => [.v U27 a.1, .v U2 a.2.1, .v .str a.2.2.1], dec := (decC (decV U27) (decC (decV U2) (decC (decV .str) dec0))), S := fun a => S a.1 a.2.1 a.2.2.1, ent := fun b => [.v U2 b.1, .v .bool b.2], ok := (decV_cons (T := U27) (decV_cons (T := U2) (decV_cons (T := .str) (fun es b h => dec0_some h)))) }
def S41 (N : Nat) (x0 : V28) (x1 : Int) (x2 : V1) : Option V4 := g41 N (S69 N) (S70 N) x0 x1 x2 (fun (r0 : Int) (r1 : Bool) => some (r0, r1))
end Go.Fw.L19
