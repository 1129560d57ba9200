/- Printed by an own program for this claim: the machine's code of functions, or their typed forms with their equations; no conditions. -/
import Derived.Test.YtggppceiapjadaaGreatFwMc19a
import Derived.Test.YtggppceiapjadaaGreatFwB1
set_option linter.unusedVariables false
set_option linter.unusedSimpArgs false
namespace Go.Fw.L19
open Go Go.Fw
set_option maxRecDepth 100000
set_option linter.unusedVariables false
set_option linter.unusedSimpArgs false
def g63_0 {R : Type} (x0 : V22) (x1 : V1) (k0 : V1 → V22 → Option R) : Option R :=
k0 x1 x0
theorem t63_0 {N cl} {R} (K : KE R) (x0 x1) : exec cl N c63_0 [(0, .v U20 x0), (1, .v .str x1)] K = (g63_0 x0 x1 (fun y0 y1 => K .normal [(1, .v .str y0), (2, .loc U20 .no y1)])) := by
  kernel_rfl
def g63_1 {R : Type} (S84 : V6 → V1 → Option (Bool)) (x0 : V1) (x1 : V22) (k0 : Bool → Option R) : Option R :=
brB ((x1.2.2.1.length : Int) == (0 : Int)) (k0 true) ((S84 x1.2.2.1 x0).bind fun r437 =>
k0 r437)
theorem t63_1 {N cl} (S84) (h84 : (ctr84 S84).holds cl) {R} (K : KE R) (x0 x1) : exec cl N c63_1 [(1, .v .str x0), (2, .loc U20 .no x1)] K = (g63_1 S84 x0 x1 (fun y0 => K .normal [(4, .v .bool y0)])) := by
  rw [← put_eq h84]
  kernel_rfl
def g63_2 {R : Type} (S84 : V6 → V1 → Option (Bool)) (x0 : V22) (x1 : V1) (k0 : Bool → Option R) : Option R :=
(g63_0 x0 x1 (fun y0 y1 => (g63_1 S84 y0 y1 (fun y0 => (k0 y0)))))
theorem t63_2 {N cl} (S84) (h84 : (ctr84 S84).holds cl) {R} (K : KE R) (x0 x1) : exec cl N c63_2 [(0, .v U20 x0), (1, .v .str x1)] K = (g63_2 S84 x0 x1 (fun y0 => K .ret [(4, .v .bool y0)])) := by
  simp only [c63_2, exec_seq, seqK_normal, seqK_exit, seqK_ret, t63_0, t63_1 S84 h84, exec_ret]
  rfl
theorem rk63_0 (y0 : Bool) : retK d63 .ret [(4, .v .bool y0)] = some [.v .bool y0] := by kernel_rfl
def g63 {R : Type} (S84 : V6 → V1 → Option (Bool)) (x0 : V22) (x1 : V1) (k : Bool → Option R) : Option R :=
(g63_2 S84 x0 x1 (fun y0 => k y0))
theorem gen63 {N : Nat} {cl : Cal} (S84 : V6 → V1 → Option (Bool)) (h84 : (ctr84 S84).holds cl) (x0 : V22) (x1 : V1) {R : Type} (k : List E → Option R) : exec cl N c63 (params 0 [.v U20 x0, .v .str x1]) (fun e env => (retK d63 e env).bind k) = g63 S84 x0 x1 (fun (r0 : Bool) => k [.v .bool r0]) := by
  have e0 : params 0 [.v U20 x0, .v .str x1] = [(0, .v U20 x0), (1, .v .str x1)] := by kernel_rfl
  simp only [c63, e0, t63_2 S84 h84, rk63_0, Option.bind_some]
  rfl
def ctr63 (S : V22 → V1 → Option (Bool)) : Ctr := { A := V22 × V1 × Unit, B := Bool, f := 63, enc := fun a => [.v U20 a.1, .v .str a.2.1], dec := (decC (decV U20) (decC (decV .str) dec0)), S := fun a => S a.1 a.2.1, ent := fun b => [.v .bool b], ok := (decV_cons (T := U20) (decV_cons (T := .str) (fun es b h => dec0_some h))) }
def S63 (N : Nat) (x0 : V22) (x1 : V1) : Option (Bool) := g63 (S84 N) x0 x1 (fun (r0 : Bool) => some (r0))
def g35_0 {R : Type} (x0 : V29) (x1 : Int) (x2 : V1) (k0 : Int → V1 → V29 → Option R) : Option R :=
k0 x1 x2 x0
theorem t35_0 {N cl} {R} (K : KE R) (x0 x1 x2) : exec cl N c35_0 [(0, .v U27 x0), (1, .v U2 x1), (2, .v .str x2)] K = (g35_0 x0 x1 x2 (fun y0 y1 y2 => K .normal [(1, .v U2 y0), (2, .v .str y1), (3, .loc U27 .no y2)])) := by
  kernel_rfl
def g35_1 {R : Type} (S62 : V1 → Option V5) (x0 : Int) (x1 : V1) (x2 : V29) (k0 : Int → V1 → V29 → Option R) : Option R :=
(S62 x1).bind fun r441 =>
k0 x0 r441 x2
theorem t35_1 {N cl} (S62) (h62 : (ctr62 S62).holds cl) {R} (K : KE R) (x0 x1 x2) : exec cl N c35_1 [(1, .v U2 x0), (2, .v .str x1), (3, .loc U27 .no x2)] K = (g35_1 S62 x0 x1 x2 (fun y0 y1 y2 => K .normal [(1, .v U2 y0), (2, .v .str y1), (3, .loc U27 .no y2)])) := by
  rw [← put_eq h62]
  kernel_rfl
def g35_2 {R : Type} (x0 : Int) (x1 : V1) (x2 : V29) (k0 : Int → V1 → V29 → Int → Bool → Option R) : Option R :=
k0 x0 x1 x2 (0 : Int) false
theorem t35_2 {N cl} {R} (K : KE R) (x0 x1 x2) : exec cl N c35_2 [(1, .v U2 x0), (2, .v .str x1), (3, .loc U27 .no x2)] K = (g35_2 x0 x1 x2 (fun y0 y1 y2 y3 y4 => K .normal [(1, .v U2 y0), (2, .v .str y1), (3, .loc U27 .no y2), (8, .v U2 y3), (9, .v .bool y4)])) := by
  kernel_rfl
def g35_3 {R : Type} (x0 : Int) (x1 : V1) (x2 : V29) (x3 : Int) (x4 : Bool) (k0 : Int → V1 → Int → Bool → V25 → Int → Int → Option R) : Option R :=
k0 x0 x1 x3 x4 x2.2.1 (x2.2.1.length : Int) (0 : Int)
theorem t35_3 {N cl} {R} (K : KE R) (x0 x1 x2 x3 x4) : exec cl N c35_3 [(1, .v U2 x0), (2, .v .str x1), (3, .loc U27 .no x2), (8, .v U2 x3), (9, .v .bool x4)] K = (g35_3 x0 x1 x2 x3 x4 (fun y0 y1 y2 y3 y4 y5 y6 => K .normal [(1, .v U2 y0), (2, .v .str y1), (8, .v U2 y2), (9, .v .bool y3), (15, .v U22 y4), (16, .v U2 y5), (17, .v U2 y6)])) := by
  kernel_rfl
theorem kp35_0 (x0 x1 x2 x3 x4 x5 x6) : keep [1, 2, 8, 9, 15, 16, 17] [(1, .v U2 x0), (2, .v .str x1), (8, .v U2 x2), (9, .v .bool x3), (15, .v U22 x4), (16, .v U2 x5), (17, .v U2 x6)] = [(1, .v U2 x0), (2, .v .str x1), (8, .v U2 x2), (9, .v .bool x3), (15, .v U22 x4), (16, .v U2 x5), (17, .v U2 x6)] := by kernel_rfl
def g35_4 {R : Type} (x0 : Int) (x1 : V1) (x2 : Int) (x3 : Bool) (x4 : V25) (x5 : Int) (x6 : Int) (k0 : Int → V1 → Int → Bool → V25 → Int → Int → Bool → Option R) : Option R :=
k0 x0 x1 x2 x3 x4 x5 x6 (decide (x6 < x5))
theorem t35_4 {N cl} {R} (K : KE R) (x0 x1 x2 x3 x4 x5 x6) : exec cl N c35_4 [(1, .v U2 x0), (2, .v .str x1), (8, .v U2 x2), (9, .v .bool x3), (15, .v U22 x4), (16, .v U2 x5), (17, .v U2 x6)] K = (g35_4 x0 x1 x2 x3 x4 x5 x6 (fun y0 y1 y2 y3 y4 y5 y6 y7 => K .normal [(1, .v U2 y0), (2, .v .str y1), (8, .v U2 y2), (9, .v .bool y3), (15, .v U22 y4), (16, .v U2 y5), (17, .v U2 y6), (18, .v .bool y7)])) := by
  kernel_rfl
theorem kp35_1 (x0 x1 x2 x3 x4 x5 x6 x7) : keep [1, 2, 8, 9, 15, 16, 17] [(1, .v U2 x0), (2, .v .str x1), (8, .v U2 x2), (9, .v .bool x3), (15, .v U22 x4), (16, .v U2 x5), (17, .v U2 x6), (18, .v .bool x7)] = [(1, .v U2 x0), (2, .v .str x1), (8, .v U2 x2), (9, .v .bool x3), (15, .v U22 x4), (16, .v U2 x5), (17, .v U2 x6)] := by kernel_rfl
theorem hb35_0 (x0 : Int) (x1 : V1) (x2 : Int) (x3 : Bool) (x4 : V25) (x5 : Int) (x6 : Int) (x7 : Bool) : boolOf? (ent [(1, .v U2 x0), (2, .v .str x1), (8, .v U2 x2), (9, .v .bool x3), (15, .v U22 x4), (16, .v U2 x5), (17, .v U2 x6), (18, .v .bool x7)] (.t 18)) = some x7 := by kernel_rfl
def g35_6 {R : Type} (x0 : Int) (x1 : V1) (x2 : Int) (x3 : Bool) (x4 : V25) (x5 : Int) (x6 : Int) (k0 : Int → V1 → Int → Bool → V22 → V25 → Int → Int → Option R) : Option R :=
if 0 ≤ x6 ∧ x6 < (x4.length : Int) then
k0 x0 x1 x2 x3 (x4.getD x6.toNat ((0 : Int), ((0 : Int), ([], ())))) x4 x5 x6
else none
theorem t35_6 {N cl} {R} (K : KE R) (x0 x1 x2 x3 x4 x5 x6) : exec cl N c35_6 [(1, .v U2 x0), (2, .v .str x1), (8, .v U2 x2), (9, .v .bool x3), (15, .v U22 x4), (16, .v U2 x5), (17, .v U2 x6)] K = (g35_6 x0 x1 x2 x3 x4 x5 x6 (fun y0 y1 y2 y3 y4 y5 y6 y7 => K .normal [(1, .v U2 y0), (2, .v .str y1), (8, .v U2 y2), (9, .v .bool y3), (11, .loc U20 .no y4), (15, .v U22 y5), (16, .v U2 y6), (17, .v U2 y7)])) := by
  kernel_rfl
def g35_7 {R : Type} (S63 : V22 → V1 → Option (Bool)) (x0 : Int) (x1 : V1) (x2 : Int) (x3 : Bool) (x4 : V22) (x5 : V25) (x6 : Int) (x7 : Int) (k0 : Int → V1 → Int → Bool → V22 → V25 → Int → Int → Bool → Option R) : Option R :=
brB (x4.1 == x0) ((S63 x4 x1).bind fun r443 =>
brB r443 (brB (!x3) (k0 x0 x1 x2 x3 x4 x5 x6 x7 true) (k0 x0 x1 x2 x3 x4 x5 x6 x7 (decide (x4.2.1 < x2)))) (k0 x0 x1 x2 x3 x4 x5 x6 x7 false)) (k0 x0 x1 x2 x3 x4 x5 x6 x7 false)
theorem t35_7 {N cl} (S63) (h63 : (ctr63 S63).holds cl) {R} (K : KE R) (x0 x1 x2 x3 x4 x5 x6 x7) : exec cl N c35_7 [(1, .v U2 x0), (2, .v .str x1), (8, .v U2 x2), (9, .v .bool x3), (11, .loc U20 .no x4), (15, .v U22 x5), (16, .v U2 x6), (17, .v U2 x7)] K = (g35_7 S63 x0 x1 x2 x3 x4 x5 x6 x7 (fun y0 y1 y2 y3 y4 y5 y6 y7 y8 => K .normal [(1, .v U2 y0), (2, .v .str y1), (8, .v U2 y2), (9, .v .bool y3), (11, .loc U20 .no y4), (15, .v U22 y5), (16, .v U2 y6), (17, .v U2 y7), (39, .v .bool y8)])) := by
  rw [← put_eq h63]
  kernel_rfl
def g35_8 {R : Type} (x0 : Int) (x1 : V1) (x2 : Int) (x3 : Bool) (x4 : V22) (x5 : V25) (x6 : Int) (x7 : Int) (x8 : Bool) (k0 : Int → V1 → Int → Bool → V25 → Int → Int → Option R) : Option R :=
k0 x0 x1 x4.2.1 true x5 x6 x7
theorem t35_8 {N cl} {R} (K : KE R) (x0 x1 x2 x3 x4 x5 x6 x7 x8) : exec cl N c35_8 [(1, .v U2 x0), (2, .v .str x1), (8, .v U2 x2), (9, .v .bool x3), (11, .loc U20 .no x4), (15, .v U22 x5), (16, .v U2 x6), (17, .v U2 x7), (39, .v .bool x8)] K = (g35_8 x0 x1 x2 x3 x4 x5 x6 x7 x8 (fun y0 y1 y2 y3 y4 y5 y6 => K .normal [(1, .v U2 y0), (2, .v .str y1), (8, .v U2 y2), (9, .v .bool y3), (15, .v U22 y4), (16, .v U2 y5), (17, .v U2 y6)])) := by
  kernel_rfl
theorem kp35_2 (x0 x1 x2 x3 x4 x5 x6 x7 x8) : keep [1, 2, 8, 9, 15, 16, 17] [(1, .v U2 x0), (2, .v .str x1), (8, .v U2 x2), (9, .v .bool x3), (11, .loc U20 .no x4), (15, .v U22 x5), (16, .v U2 x6), (17, .v U2 x7), (39, .v .bool x8)] = [(1, .v U2 x0), (2, .v .str x1), (8, .v U2 x2), (9, .v .bool x3), (15, .v U22 x5), (16, .v U2 x6), (17, .v U2 x7)] := by kernel_rfl
theorem hb35_1 (x0 : Int) (x1 : V1) (x2 : Int) (x3 : Bool) (x4 : V22) (x5 : V25) (x6 : Int) (x7 : Int) (x8 : Bool) : boolOf? (ent [(1, .v U2 x0), (2, .v .str x1), (8, .v U2 x2), (9, .v .bool x3), (11, .loc U20 .no x4), (15, .v U22 x5), (16, .v U2 x6), (17, .v U2 x7), (39, .v .bool x8)] (.t 39)) = some x8 := by kernel_rfl
def g35_10 {R : Type} (S63 : V22 → V1 → Option (Bool)) (x0 : Int) (x1 : V1) (x2 : Int) (x3 : Bool) (x4 : V25) (x5 : Int) (x6 : Int) (k0 : Int → V1 → Int → Bool → V25 → Int → Int → Option R) : Option R :=
(g35_6 x0 x1 x2 x3 x4 x5 x6 (fun y0 y1 y2 y3 y4 y5 y6 y7 => (g35_7 S63 y0 y1 y2 y3 y4 y5 y6 y7 (fun y0 y1 y2 y3 y4 y5 y6 y7 y8 => brB y8 (g35_8 y0 y1 y2 y3 y4 y5 y6 y7 y8 (fun y0 y1 y2 y3 y4 y5 y6 => (k0 y0 y1 y2 y3 y4 y5 y6))) (k0 y0 y1 y2 y3 y5 y6 y7)))))
theorem t35_10 {N cl} (S63) (h63 : (ctr63 S63).holds cl) {R} (K : KE R) (x0 x1 x2 x3 x4 x5 x6) : exec cl N c35_10 [(1, .v U2 x0), (2, .v .str x1), (8, .v U2 x2), (9, .v .bool x3), (15, .v U22 x4), (16, .v U2 x5), (17, .v U2 x6)] K = (g35_10 S63 x0 x1 x2 x3 x4 x5 x6 (fun y0 y1 y2 y3 y4 y5 y6 => K .normal [(1, .v U2 y0), (2, .v .str y1), (8, .v U2 y2), (9, .v .bool y3), (15, .v U22 y4), (16, .v U2 y5), (17, .v U2 y6)])) := by
  simp only [c35_10, exec_out, exec_block, exec_seq, seqK_normal, seqK_exit, seqK_ret, t35_6, t35_7 S63 h63, c35_9, exec_cond', hb35_1, Option.bind_some, brB_true, brB_false, t35_8, exec_skip, kp35_0, kp35_2, blockK_normal, blockK_ret, blockK_eq]
  rfl
def g35_11 {R : Type} (x0 : Int) (x1 : V1) (x2 : Int) (x3 : Bool) (x4 : V25) (x5 : Int) (x6 : Int) (k0 : Int → V1 → Int → Bool → V25 → Int → Int → Option R) : Option R :=
k0 x0 x1 x2 x3 x4 x5 (IntKind.i64.wrap (x6 + (1 : Int)))
theorem t35_11 {N cl} {R} (K : KE R) (x0 x1 x2 x3 x4 x5 x6) : exec cl N c35_11 [(1, .v U2 x0), (2, .v .str x1), (8, .v U2 x2), (9, .v .bool x3), (15, .v U22 x4), (16, .v U2 x5), (17, .v U2 x6)] K = (g35_11 x0 x1 x2 x3 x4 x5 x6 (fun y0 y1 y2 y3 y4 y5 y6 => K .normal [(1, .v U2 y0), (2, .v .str y1), (8, .v U2 y2), (9, .v .bool y3), (15, .v U22 y4), (16, .v U2 y5), (17, .v U2 y6)])) := by
  kernel_rfl
def g35_12 {R : Type} (S63 : V22 → V1 → Option (Bool)) (x0 : Int) (x1 : V1) (x2 : Int) (x3 : Bool) (x4 : V25) (x5 : Int) (x6 : Int) (k0 : Int → V1 → Int → Bool → V25 → Int → Int → Option R) (k1 : Int → V1 → Int → Bool → V25 → Int → Int → Option R) : Option R :=
(g35_4 x0 x1 x2 x3 x4 x5 x6 (fun y0 y1 y2 y3 y4 y5 y6 y7 => brB y7 ((fun y0 y1 y2 y3 y4 y5 y6 => (g35_10 S63 y0 y1 y2 y3 y4 y5 y6 (fun y0 y1 y2 y3 y4 y5 y6 => (g35_11 y0 y1 y2 y3 y4 y5 y6 k0)))) y0 y1 y2 y3 y4 y5 y6) (k1 y0 y1 y2 y3 y4 y5 y6)))
theorem t35_12 {N cl} (S63) (h63 : (ctr63 S63).holds cl) {R} (K : KE R) (x0 x1 x2 x3 x4 x5 x6) : exec cl N c35_12 [(1, .v U2 x0), (2, .v .str x1), (8, .v U2 x2), (9, .v .bool x3), (15, .v U22 x4), (16, .v U2 x5), (17, .v U2 x6)] K = (g35_12 S63 x0 x1 x2 x3 x4 x5 x6 (fun y0 y1 y2 y3 y4 y5 y6 => K .normal [(1, .v U2 y0), (2, .v .str y1), (8, .v U2 y2), (9, .v .bool y3), (15, .v U22 y4), (16, .v U2 y5), (17, .v U2 y6)]) (fun y0 y1 y2 y3 y4 y5 y6 => K (.exit 0) [(1, .v U2 y0), (2, .v .str y1), (8, .v U2 y2), (9, .v .bool y3), (15, .v U22 y4), (16, .v U2 y5), (17, .v U2 y6)])) := by
  simp only [c35_12, exec_seq, seqK_normal, seqK_exit, seqK_ret, t35_4, c35_5, exec_out, exec_cond', hb35_0, Option.bind_some, brB_true, brB_false, exec_skip, exec_exit, kp35_1, t35_10 S63 h63, t35_11]
  rfl
def l35_13 {R : Type} (S63 : V22 → V1 → Option (Bool)) (k0 : Int → V1 → Int → Bool → V25 → Int → Int → Option R) : Nat → Int → V1 → Int → Bool → V25 → Int → Int → Option R
  | 0, _, _, _, _, _, _, _ => none
  | m + 1, x0, x1, x2, x3, x4, x5, x6 => (g35_12 S63 x0 x1 x2 x3 x4 x5 x6 (fun y0 y1 y2 y3 y4 y5 y6 => l35_13 S63 k0 m y0 y1 y2 y3 y4 y5 y6) k0)
theorem lt35_13 {N cl} (S63) (h63 : (ctr63 S63).holds cl) {R} (K : KE R) : ∀ (m) (x0 x1 x2 x3 x4 x5 x6), iter [1, 2, 8, 9, 15, 16, 17] (fun env K => exec cl N c35_12 env K) K m [(1, .v U2 x0), (2, .v .str x1), (8, .v U2 x2), (9, .v .bool x3), (15, .v U22 x4), (16, .v U2 x5), (17, .v U2 x6)] = l35_13 S63 (fun y0 y1 y2 y3 y4 y5 y6 => K (.exit 0) [(1, .v U2 y0), (2, .v .str y1), (8, .v U2 y2), (9, .v .bool y3), (15, .v U22 y4), (16, .v U2 y5), (17, .v U2 y6)]) m x0 x1 x2 x3 x4 x5 x6 := by
  intro m
  induction m with
  | zero => intros; rfl
  | succ m ih =>
    intro x0 x1 x2 x3 x4 x5 x6
    simp only [iter_succ, t35_12 S63 h63, loopK_normal, loopK_exit, loopK_ret, kp35_0, ih]
    rfl
theorem kp35_3 (x0 x1 x2 x3 x4 x5 x6) : keep [8, 9] [(1, .v U2 x0), (2, .v .str x1), (8, .v U2 x2), (9, .v .bool x3), (15, .v U22 x4), (16, .v U2 x5), (17, .v U2 x6)] = [(8, .v U2 x2), (9, .v .bool x3)] := by kernel_rfl
def g35_13 {R : Type} (N : Nat) (S63 : V22 → V1 → Option (Bool)) (x0 : Int) (x1 : V1) (x2 : Int) (x3 : Bool) (x4 : V25) (x5 : Int) (x6 : Int) (k0 : Int → Bool → Option R) : Option R :=
l35_13 S63 (fun y0 y1 y2 y3 y4 y5 y6 => k0 y2 y3) N x0 x1 x2 x3 x4 x5 x6
theorem t35_13 {N cl} (S63) (h63 : (ctr63 S63).holds cl) {R} (K : KE R) (x0 x1 x2 x3 x4 x5 x6) : exec cl N c35_13 [(1, .v U2 x0), (2, .v .str x1), (8, .v U2 x2), (9, .v .bool x3), (15, .v U22 x4), (16, .v U2 x5), (17, .v U2 x6)] K = (g35_13 N S63 x0 x1 x2 x3 x4 x5 x6 (fun y0 y1 => K (.exit 0) [(8, .v U2 y0), (9, .v .bool y1)])) := by
  simp only [c35_13, exec_out, exec_loop, kp35_0, lt35_13 S63 h63, kp35_3]
  rfl
theorem kp35_4 (x0 x1) : keep [8, 9] [(8, .v U2 x0), (9, .v .bool x1)] = [(8, .v U2 x0), (9, .v .bool x1)] := by kernel_rfl
def g35_15 {R : Type} (x0 : Int) (x1 : Bool) (k0 : Int → Bool → Option R) : Option R :=
k0 x0 x1
theorem t35_15 {N cl} {R} (K : KE R) (x0 x1) : exec cl N c35_15 [(8, .v U2 x0), (9, .v .bool x1)] K = (g35_15 x0 x1 (fun y0 y1 => K .normal [(6, .v U2 y0), (7, .v .bool y1)])) := by
  kernel_rfl
def g35_16 {R : Type} (N : Nat) (S62 : V1 → Option V5) (S63 : V22 → V1 → Option (Bool)) (x0 : V29) (x1 : Int) (x2 : V1) (k0 : Int → Bool → Option R) : Option R :=
(g35_0 x0 x1 x2 (fun y0 y1 y2 => (g35_1 S62 y0 y1 y2 (fun y0 y1 y2 => (g35_2 y0 y1 y2 (fun y0 y1 y2 y3 y4 => (g35_3 y0 y1 y2 y3 y4 (fun y0 y1 y2 y3 y4 y5 y6 => (g35_13 N S63 y0 y1 y2 y3 y4 y5 y6 (fun y0 y1 => ((fun y0 y1 => (g35_15 y0 y1 (fun y0 y1 => (k0 y0 y1)))) y0 y1)))))))))))
theorem t35_16 {N cl} (S62) (S63) (h62 : (ctr62 S62).holds cl) (h63 : (ctr63 S63).holds cl) {R} (K : KE R) (x0 x1 x2) : exec cl N c35_16 [(0, .v U27 x0), (1, .v U2 x1), (2, .v .str x2)] K = (g35_16 N S62 S63 x0 x1 x2 (fun y0 y1 => K .ret [(6, .v U2 y0), (7, .v .bool y1)])) := by
  simp only [c35_16, exec_seq, seqK_normal, seqK_exit, seqK_ret, t35_0, t35_1 S62 h62, t35_2, t35_3, c35_14, exec_out, exec_block, t35_13 S63 h63, blockK_normal, blockK_ret, blockK_eq, kp35_4, t35_15, exec_ret]
  rfl
theorem rk35_0 (y0 : Int) (y1 : Bool) : retK d35 .ret [(6, .v U2 y0), (7, .v .bool y1)] = some [.v U2 y0, .v .bool y1] := by kernel_rfl
def g35 {R : Type} (N : Nat) (S62 : V1 → Option V5) (S63 : V22 → V1 → Option (Bool)) (x0 : V29) (x1 : Int) (x2 : V1) (k : Int → Bool → Option R) : Option R :=
(g35_16 N S62 S63 x0 x1 x2 (fun y0 y1 => k y0 y1))
theorem gen35 {N : Nat} {cl : Cal} (S62 : V1 → Option V5) (S63 : V22 → V1 → Option (Bool)) (h62 : (ctr62 S62).holds cl) (h63 : (ctr63 S63).holds cl) (x0 : V29) (x1 : Int) (x2 : V1) {R : Type} (k : List E → Option R) : exec cl N c35 (params 0 [.v U27 x0, .v U2 x1, .v .str x2]) (fun e env => (retK d35 e env).bind k) = g35 N S62 S63 x0 x1 x2 (fun (r0 : Int) (r1 : Bool) => k [.v U2 r0, .v .bool r1]) := by
  have e0 : params 0 [.v U27 x0, .v U2 x1, .v .str x2] = [(0, .v U27 x0), (1, .v U2 x1), (2, .v .str x2)] := by kernel_rfl
  simp only [c35, e0, t35_16 S62 S63 h62 h63, rk35_0, Option.bind_some]
  rfl
def ctr35 (S : V29 → Int → V1 → Option V4) : Ctr := { A := V29 × Int × V1 × Unit, B := Int × Bool, f := 35, enc := fun a => [.v U27 a.1, .v U2 a.2.1, .v .str a.2.2.1], dec := (decC (decV U27) (decC (decV U2) (decC (decV .str) dec0))), S := fun a => S a.1 a.2.1 a.2.2.1, ent := fun b => [.v U2 b.1, .v .bool b.2], ok := (decV_cons (T := U27) (decV_cons (T := U2) (decV_cons (T := .str) (fun es b h => dec0_some h)))) }
def S35 (N : Nat) (x0 : V29) (x1 : Int) (x2 : V1) : Option V4 := g35 N (S62 N) (S63 N) x0 x1 x2 (fun (r0 : Int) (r1 : Bool) => some (r0, r1))
def g16_0 {R : Type} (x0 : V29) (x1 : V1) (x2 : V1) (x3 : V21) (x4 : V21) (k0 : V1 → V1 → V21 → V21 → V29 → Option R) : Option R :=
k0 x1 x2 x3 x4 x0
theorem t16_0 {N cl} {R} (K : KE R) (x0 x1 x2 x3 x4) : exec cl N c16_0 [(0, .v U27 x0), (1, .v .str x1), (2, .v .str x2), (3, .v U21 x3), (4, .v U21 x4)] K = (g16_0 x0 x1 x2 x3 x4 (fun y0 y1 y2 y3 y4 => K .normal [(1, .v .str y0), (2, .v .str y1), (3, .v U21 y2), (4, .v U21 y3), (5, .loc U27 .no y4)])) := by
  kernel_rfl
def g16_1 {R : Type} (S32 : V29 → Option (Int)) (x0 : V1) (x1 : V1) (x2 : V21) (x3 : V21) (x4 : V29) (k0 : V1 → V1 → V21 → V21 → V29 → Int → Option R) : Option R :=
(S32 x4).bind fun r448 =>
k0 x0 x1 x2 x3 x4 r448
theorem t16_1 {N cl} (S32) (h32 : (ctr32 S32).holds cl) {R} (K : KE R) (x0 x1 x2 x3 x4) : exec cl N c16_1 [(1, .v .str x0), (2, .v .str x1), (3, .v U21 x2), (4, .v U21 x3), (5, .loc U27 .no x4)] K = (g16_1 S32 x0 x1 x2 x3 x4 (fun y0 y1 y2 y3 y4 y5 => K .normal [(1, .v .str y0), (2, .v .str y1), (3, .v U21 y2), (4, .v U21 y3), (5, .loc U27 .no y4), (12, .v U2 y5)])) := by
  rw [← put_eq h32]
  kernel_rfl
def g16_2 {R : Type} (x0 : V1) (x1 : V1) (x2 : V21) (x3 : V21) (x4 : V29) (x5 : Int) (k0 : V1 → V1 → V21 → V21 → V29 → Int → Bool → Option R) : Option R :=
k0 x0 x1 x2 x3 x4 x5 (x5 != (0 : Int))
theorem t16_2 {N cl} {R} (K : KE R) (x0 x1 x2 x3 x4 x5) : exec cl N c16_2 [(1, .v .str x0), (2, .v .str x1), (3, .v U21 x2), (4, .v U21 x3), (5, .loc U27 .no x4), (12, .v U2 x5)] K = (g16_2 x0 x1 x2 x3 x4 x5 (fun y0 y1 y2 y3 y4 y5 y6 => K .normal [(1, .v .str y0), (2, .v .str y1), (3, .v U21 y2), (4, .v U21 y3), (5, .loc U27 .no y4), (12, .v U2 y5), (23, .v .bool y6)])) := by
  kernel_rfl
def g16_3 {R : Type} (x0 : V1) (x1 : V1) (x2 : V21) (x3 : V21) (x4 : V29) (x5 : Int) (x6 : Bool) (k0 : V11 → Int → Option R) : Option R :=
k0 [] x5
theorem t16_3 {N cl} {R} (K : KE R) (x0 x1 x2 x3 x4 x5 x6) : exec cl N c16_3 [(1, .v .str x0), (2, .v .str x1), (3, .v U21 x2), (4, .v U21 x3), (5, .loc U27 .no x4), (12, .v U2 x5), (23, .v .bool x6)] K = (g16_3 x0 x1 x2 x3 x4 x5 x6 (fun y0 y1 => K .normal [(10, .own true 45 U15 .no y0), (11, .v U2 y1)])) := by
  kernel_rfl
theorem kp16_0 (x0 x1) : keep [1, 2, 3, 4, 5, 10, 11] [(10, .own true 45 U15 .no x0), (11, .v U2 x1)] = [(1, .dead), (2, .dead), (3, .dead), (4, .dead), (5, .dead), (10, .own true 45 U15 .no x0), (11, .v U2 x1)] := by kernel_rfl
theorem kp16_1 (x0 x1 x2 x3 x4 x5 x6) : keep [1, 2, 3, 4, 5, 10, 11] [(1, .v .str x0), (2, .v .str x1), (3, .v U21 x2), (4, .v U21 x3), (5, .loc U27 .no x4), (12, .v U2 x5), (23, .v .bool x6)] = [(1, .v .str x0), (2, .v .str x1), (3, .v U21 x2), (4, .v U21 x3), (5, .loc U27 .no x4), (10, .dead), (11, .dead)] := by kernel_rfl
theorem hb16_0 (x0 : V1) (x1 : V1) (x2 : V21) (x3 : V21) (x4 : V29) (x5 : Int) (x6 : Bool) : boolOf? (ent [(1, .v .str x0), (2, .v .str x1), (3, .v U21 x2), (4, .v U21 x3), (5, .loc U27 .no x4), (12, .v U2 x5), (23, .v .bool x6)] (.t 23)) = some x6 := by kernel_rfl
def g16_5 {R : Type} (S33 : V21 → V21 → Option (Int)) (x0 : V1) (x1 : V1) (x2 : V21) (x3 : V21) (x4 : V29) (k0 : V1 → V1 → V21 → V21 → V29 → Int → Option R) : Option R :=
(S33 x2 x3).bind fun r450 =>
k0 x0 x1 x2 x3 x4 r450
theorem t16_5 {N cl} (S33) (h33 : (ctr33 S33).holds cl) {R} (K : KE R) (x0 x1 x2 x3 x4) : exec cl N c16_5 [(1, .v .str x0), (2, .v .str x1), (3, .v U21 x2), (4, .v U21 x3), (5, .loc U27 .no x4), (10, .dead), (11, .dead)] K = (g16_5 S33 x0 x1 x2 x3 x4 (fun y0 y1 y2 y3 y4 y5 => K .normal [(1, .v .str y0), (2, .v .str y1), (3, .v U21 y2), (4, .v U21 y3), (5, .loc U27 .no y4), (13, .v U2 y5)])) := by
  rw [← put_eq h33]
  kernel_rfl
def g16_6 {R : Type} (x0 : V1) (x1 : V1) (x2 : V21) (x3 : V21) (x4 : V29) (x5 : Int) (k0 : V1 → V1 → V21 → V21 → V29 → Int → Bool → Option R) : Option R :=
k0 x0 x1 x2 x3 x4 x5 (x5 != (0 : Int))
theorem t16_6 {N cl} {R} (K : KE R) (x0 x1 x2 x3 x4 x5) : exec cl N c16_6 [(1, .v .str x0), (2, .v .str x1), (3, .v U21 x2), (4, .v U21 x3), (5, .loc U27 .no x4), (13, .v U2 x5)] K = (g16_6 x0 x1 x2 x3 x4 x5 (fun y0 y1 y2 y3 y4 y5 y6 => K .normal [(1, .v .str y0), (2, .v .str y1), (3, .v U21 y2), (4, .v U21 y3), (5, .loc U27 .no y4), (13, .v U2 y5), (29, .v .bool y6)])) := by
  kernel_rfl
def g16_7 {R : Type} (x0 : V1) (x1 : V1) (x2 : V21) (x3 : V21) (x4 : V29) (x5 : Int) (x6 : Bool) (k0 : V11 → Int → Option R) : Option R :=
k0 [] x5
theorem t16_7 {N cl} {R} (K : KE R) (x0 x1 x2 x3 x4 x5 x6) : exec cl N c16_7 [(1, .v .str x0), (2, .v .str x1), (3, .v U21 x2), (4, .v U21 x3), (5, .loc U27 .no x4), (13, .v U2 x5), (29, .v .bool x6)] K = (g16_7 x0 x1 x2 x3 x4 x5 x6 (fun y0 y1 => K .normal [(10, .own true 45 U15 .no y0), (11, .v U2 y1)])) := by
  kernel_rfl
theorem kp16_2 (x0 x1 x2 x3 x4 x5 x6) : keep [1, 2, 3, 4, 5, 10, 11] [(1, .v .str x0), (2, .v .str x1), (3, .v U21 x2), (4, .v U21 x3), (5, .loc U27 .no x4), (13, .v U2 x5), (29, .v .bool x6)] = [(1, .v .str x0), (2, .v .str x1), (3, .v U21 x2), (4, .v U21 x3), (5, .loc U27 .no x4), (10, .dead), (11, .dead)] := by kernel_rfl
theorem hb16_1 (x0 : V1) (x1 : V1) (x2 : V21) (x3 : V21) (x4 : V29) (x5 : Int) (x6 : Bool) : boolOf? (ent [(1, .v .str x0), (2, .v .str x1), (3, .v U21 x2), (4, .v U21 x3), (5, .loc U27 .no x4), (13, .v U2 x5), (29, .v .bool x6)] (.t 29)) = some x6 := by kernel_rfl
def g16_9 {R : Type} (x0 : V1) (x1 : V1) (x2 : V21) (x3 : V21) (x4 : V29) (k0 : V1 → V1 → V21 → V21 → V29 → V11 → Option R) : Option R :=
k0 x0 x1 x2 x3 x4 []
theorem t16_9 {N cl} {R} (K : KE R) (x0 x1 x2 x3 x4) : exec cl N c16_9 [(1, .v .str x0), (2, .v .str x1), (3, .v U21 x2), (4, .v U21 x3), (5, .loc U27 .no x4), (10, .dead), (11, .dead)] K = (g16_9 x0 x1 x2 x3 x4 (fun y0 y1 y2 y3 y4 y5 => K .normal [(1, .v .str y0), (2, .v .str y1), (3, .v U21 y2), (4, .v U21 y3), (5, .loc U27 .no y4), (14, .own true 45 U15 .no y5)])) := by
  kernel_rfl
def g16_10 {R : Type} (S34 : V21 → V21 → Option V3) (x0 : V1) (x1 : V1) (x2 : V21) (x3 : V21) (x4 : V29) (x5 : V11) (k0 : V1 → V1 → V21 → V29 → V11 → V0 → Int → Int → Option R) : Option R :=
(S34 x2 x3).bind fun r452 =>
k0 x0 x1 x2 x4 x5 r452 (r452.length : Int) (0 : Int)
theorem t16_10 {N cl} (S34) (h34 : (ctr34 S34).holds cl) {R} (K : KE R) (x0 x1 x2 x3 x4 x5) : exec cl N c16_10 [(1, .v .str x0), (2, .v .str x1), (3, .v U21 x2), (4, .v U21 x3), (5, .loc U27 .no x4), (14, .own true 45 U15 .no x5)] K = (g16_10 S34 x0 x1 x2 x3 x4 x5 (fun y0 y1 y2 y3 y4 y5 y6 y7 => K .normal [(1, .v .str y0), (2, .v .str y1), (3, .v U21 y2), (5, .loc U27 .no y3), (14, .own true 45 U15 .no y4), (33, .own true 3 U2 .no y5), (34, .v U2 y6), (35, .v U2 y7)])) := by
  rw [← put_eq h34]
  kernel_rfl
theorem kp16_3 (x0 x1 x2 x3 x4 x5 x6 x7) : keep [1, 2, 3, 5, 14, 33, 34, 35] [(1, .v .str x0), (2, .v .str x1), (3, .v U21 x2), (5, .loc U27 .no x3), (14, .own true 45 U15 .no x4), (33, .own true 3 U2 .no x5), (34, .v U2 x6), (35, .v U2 x7)] = [(1, .v .str x0), (2, .v .str x1), (3, .v U21 x2), (5, .loc U27 .no x3), (14, .own true 45 U15 .no x4), (33, .own true 3 U2 .no x5), (34, .v U2 x6), (35, .v U2 x7)] := by kernel_rfl
def g16_11 {R : Type} (x0 : V1) (x1 : V1) (x2 : V21) (x3 : V29) (x4 : V11) (x5 : V0) (x6 : Int) (x7 : Int) (k0 : V1 → V1 → V21 → V29 → V11 → V0 → Int → Int → Bool → Option R) : Option R :=
k0 x0 x1 x2 x3 x4 x5 x6 x7 (decide (x7 < x6))
theorem t16_11 {N cl} {R} (K : KE R) (x0 x1 x2 x3 x4 x5 x6 x7) : exec cl N c16_11 [(1, .v .str x0), (2, .v .str x1), (3, .v U21 x2), (5, .loc U27 .no x3), (14, .own true 45 U15 .no x4), (33, .own true 3 U2 .no x5), (34, .v U2 x6), (35, .v U2 x7)] K = (g16_11 x0 x1 x2 x3 x4 x5 x6 x7 (fun y0 y1 y2 y3 y4 y5 y6 y7 y8 => K .normal [(1, .v .str y0), (2, .v .str y1), (3, .v U21 y2), (5, .loc U27 .no y3), (14, .own true 45 U15 .no y4), (33, .own true 3 U2 .no y5), (34, .v U2 y6), (35, .v U2 y7), (36, .v .bool y8)])) := by
  kernel_rfl
theorem kp16_4 (x0 x1 x2 x3 x4 x5 x6 x7 x8) : keep [1, 2, 3, 5, 14, 33, 34, 35] [(1, .v .str x0), (2, .v .str x1), (3, .v U21 x2), (5, .loc U27 .no x3), (14, .own true 45 U15 .no x4), (33, .own true 3 U2 .no x5), (34, .v U2 x6), (35, .v U2 x7), (36, .v .bool x8)] = [(1, .v .str x0), (2, .v .str x1), (3, .v U21 x2), (5, .loc U27 .no x3), (14, .own true 45 U15 .no x4), (33, .own true 3 U2 .no x5), (34, .v U2 x6), (35, .v U2 x7)] := by kernel_rfl
theorem hb16_2 (x0 : V1) (x1 : V1) (x2 : V21) (x3 : V29) (x4 : V11) (x5 : V0) (x6 : Int) (x7 : Int) (x8 : Bool) : boolOf? (ent [(1, .v .str x0), (2, .v .str x1), (3, .v U21 x2), (5, .loc U27 .no x3), (14, .own true 45 U15 .no x4), (33, .own true 3 U2 .no x5), (34, .v U2 x6), (35, .v U2 x7), (36, .v .bool x8)] (.t 36)) = some x8 := by kernel_rfl
def g16_13 {R : Type} (x0 : V1) (x1 : V1) (x2 : V21) (x3 : V29) (x4 : V11) (x5 : V0) (x6 : Int) (x7 : Int) (k0 : V1 → V1 → V21 → V29 → V11 → Int → V0 → Int → Int → Option R) : Option R :=
if 0 ≤ x7 ∧ x7 < (x5.length : Int) then
if x7.toNat < x5.length then
k0 x0 x1 x2 x3 x4 (x5.getD x7.toNat (0 : Int)) x5 x6 x7
else none
else none
theorem t16_13 {N cl} {R} (K : KE R) (x0 x1 x2 x3 x4 x5 x6 x7) : exec cl N c16_13 [(1, .v .str x0), (2, .v .str x1), (3, .v U21 x2), (5, .loc U27 .no x3), (14, .own true 45 U15 .no x4), (33, .own true 3 U2 .no x5), (34, .v U2 x6), (35, .v U2 x7)] K = (g16_13 x0 x1 x2 x3 x4 x5 x6 x7 (fun y0 y1 y2 y3 y4 y5 y6 y7 y8 => K .normal [(1, .v .str y0), (2, .v .str y1), (3, .v U21 y2), (5, .loc U27 .no y3), (14, .own true 45 U15 .no y4), (16, .v U2 y5), (33, .own true 3 U2 .no y6), (34, .v U2 y7), (35, .v U2 y8)])) := by
  kernel_rfl
def g16_14 {R : Type} (x0 : V1) (x1 : V1) (x2 : V21) (x3 : V29) (x4 : V11) (x5 : Int) (x6 : V0) (x7 : Int) (x8 : Int) (k0 : V1 → V1 → V21 → V29 → V11 → Int → V0 → Int → Int → Bool → Option R) : Option R :=
k0 x0 x1 x2 x3 x4 x5 x6 x7 x8 (x5 == (0 : Int))
theorem t16_14 {N cl} {R} (K : KE R) (x0 x1 x2 x3 x4 x5 x6 x7 x8) : exec cl N c16_14 [(1, .v .str x0), (2, .v .str x1), (3, .v U21 x2), (5, .loc U27 .no x3), (14, .own true 45 U15 .no x4), (16, .v U2 x5), (33, .own true 3 U2 .no x6), (34, .v U2 x7), (35, .v U2 x8)] K = (g16_14 x0 x1 x2 x3 x4 x5 x6 x7 x8 (fun y0 y1 y2 y3 y4 y5 y6 y7 y8 y9 => K .normal [(1, .v .str y0), (2, .v .str y1), (3, .v U21 y2), (5, .loc U27 .no y3), (14, .own true 45 U15 .no y4), (16, .v U2 y5), (33, .own true 3 U2 .no y6), (34, .v U2 y7), (35, .v U2 y8), (40, .v .bool y9)])) := by
  kernel_rfl
def g16_15 {R : Type} (x0 : V1) (x1 : V1) (x2 : V21) (x3 : V29) (x4 : V11) (x5 : Int) (x6 : V0) (x7 : Int) (x8 : Int) (x9 : Bool) (k0 : V1 → V1 → V21 → V29 → V11 → V0 → Int → Int → Option R) : Option R :=
if x4.length + [(x5, (0 : Int), ())].length ≤ 8796093022208 then
k0 x0 x1 x2 x3 (x4 ++ [(x5, (0 : Int), ())]) x6 x7 x8
else none
theorem t16_15 {N cl} {R} (K : KE R) (x0 x1 x2 x3 x4 x5 x6 x7 x8 x9) : exec cl N c16_15 [(1, .v .str x0), (2, .v .str x1), (3, .v U21 x2), (5, .loc U27 .no x3), (14, .own true 45 U15 .no x4), (16, .v U2 x5), (33, .own true 3 U2 .no x6), (34, .v U2 x7), (35, .v U2 x8), (40, .v .bool x9)] K = (g16_15 x0 x1 x2 x3 x4 x5 x6 x7 x8 x9 (fun y0 y1 y2 y3 y4 y5 y6 y7 => K .normal [(1, .v .str y0), (2, .v .str y1), (3, .v U21 y2), (5, .loc U27 .no y3), (14, .own true 45 U15 .no y4), (33, .own true 3 U2 .no y5), (34, .v U2 y6), (35, .v U2 y7)])) := by
  kernel_rfl
theorem kp16_5 (x0 x1 x2 x3 x4 x5 x6 x7) : keep [1, 2, 3, 5, 14, 16, 33, 34, 35] [(1, .v .str x0), (2, .v .str x1), (3, .v U21 x2), (5, .loc U27 .no x3), (14, .own true 45 U15 .no x4), (33, .own true 3 U2 .no x5), (34, .v U2 x6), (35, .v U2 x7)] = [(1, .v .str x0), (2, .v .str x1), (3, .v U21 x2), (5, .loc U27 .no x3), (14, .own true 45 U15 .no x4), (16, .dead), (33, .own true 3 U2 .no x5), (34, .v U2 x6), (35, .v U2 x7)] := by kernel_rfl
theorem kp16_6 (x0 x1 x2 x3 x4 x5 x6 x7 x8 x9) : keep [1, 2, 3, 5, 14, 16, 33, 34, 35] [(1, .v .str x0), (2, .v .str x1), (3, .v U21 x2), (5, .loc U27 .no x3), (14, .own true 45 U15 .no x4), (16, .v U2 x5), (33, .own true 3 U2 .no x6), (34, .v U2 x7), (35, .v U2 x8), (40, .v .bool x9)] = [(1, .v .str x0), (2, .v .str x1), (3, .v U21 x2), (5, .loc U27 .no x3), (14, .own true 45 U15 .no x4), (16, .v U2 x5), (33, .own true 3 U2 .no x6), (34, .v U2 x7), (35, .v U2 x8)] := by kernel_rfl
theorem hb16_3 (x0 : V1) (x1 : V1) (x2 : V21) (x3 : V29) (x4 : V11) (x5 : Int) (x6 : V0) (x7 : Int) (x8 : Int) (x9 : Bool) : boolOf? (ent [(1, .v .str x0), (2, .v .str x1), (3, .v U21 x2), (5, .loc U27 .no x3), (14, .own true 45 U15 .no x4), (16, .v U2 x5), (33, .own true 3 U2 .no x6), (34, .v U2 x7), (35, .v U2 x8), (40, .v .bool x9)] (.t 40)) = some x9 := by kernel_rfl
def g16_17 {R : Type} (x0 : V1) (x1 : V1) (x2 : V21) (x3 : V29) (x4 : V11) (x5 : Int) (x6 : V0) (x7 : Int) (x8 : Int) (k0 : V1 → V1 → V21 → V29 → V11 → Int → V1 → V0 → Int → Int → Option R) : Option R :=
k0 x0 x1 x2 x3 x4 x5 x0 x6 x7 x8
theorem t16_17 {N cl} {R} (K : KE R) (x0 x1 x2 x3 x4 x5 x6 x7 x8) : exec cl N c16_17 [(1, .v .str x0), (2, .v .str x1), (3, .v U21 x2), (5, .loc U27 .no x3), (14, .own true 45 U15 .no x4), (16, .v U2 x5), (33, .own true 3 U2 .no x6), (34, .v U2 x7), (35, .v U2 x8)] K = (g16_17 x0 x1 x2 x3 x4 x5 x6 x7 x8 (fun y0 y1 y2 y3 y4 y5 y6 y7 y8 y9 => K .normal [(1, .v .str y0), (2, .v .str y1), (3, .v U21 y2), (5, .loc U27 .no y3), (14, .own true 45 U15 .no y4), (16, .v U2 y5), (17, .v .str y6), (33, .own true 3 U2 .no y7), (34, .v U2 y8), (35, .v U2 y9)])) := by
  kernel_rfl
def g16_18 {R : Type} (x0 : V1) (x1 : V1) (x2 : V21) (x3 : V29) (x4 : V11) (x5 : Int) (x6 : V1) (x7 : V0) (x8 : Int) (x9 : Int) (k0 : V1 → V1 → V21 → V29 → V11 → Int → V1 → V0 → Int → Int → Bool → Option R) : Option R :=
k0 x0 x1 x2 x3 x4 x5 x6 x7 x8 x9 (x5 == (2 : Int))
theorem t16_18 {N cl} {R} (K : KE R) (x0 x1 x2 x3 x4 x5 x6 x7 x8 x9) : exec cl N c16_18 [(1, .v .str x0), (2, .v .str x1), (3, .v U21 x2), (5, .loc U27 .no x3), (14, .own true 45 U15 .no x4), (16, .v U2 x5), (17, .v .str x6), (33, .own true 3 U2 .no x7), (34, .v U2 x8), (35, .v U2 x9)] K = (g16_18 x0 x1 x2 x3 x4 x5 x6 x7 x8 x9 (fun y0 y1 y2 y3 y4 y5 y6 y7 y8 y9 y10 => K .normal [(1, .v .str y0), (2, .v .str y1), (3, .v U21 y2), (5, .loc U27 .no y3), (14, .own true 45 U15 .no y4), (16, .v U2 y5), (17, .v .str y6), (33, .own true 3 U2 .no y7), (34, .v U2 y8), (35, .v U2 y9), (48, .v .bool y10)])) := by
  kernel_rfl
def g16_19 {R : Type} (x0 : V1) (x1 : V1) (x2 : V21) (x3 : V29) (x4 : V11) (x5 : Int) (x6 : V1) (x7 : V0) (x8 : Int) (x9 : Int) (x10 : Bool) (k0 : V1 → V1 → V21 → V29 → V11 → Int → V1 → V0 → Int → Int → Option R) : Option R :=
k0 x0 x1 x2 x3 x4 x5 x1 x7 x8 x9
theorem t16_19 {N cl} {R} (K : KE R) (x0 x1 x2 x3 x4 x5 x6 x7 x8 x9 x10) : exec cl N c16_19 [(1, .v .str x0), (2, .v .str x1), (3, .v U21 x2), (5, .loc U27 .no x3), (14, .own true 45 U15 .no x4), (16, .v U2 x5), (17, .v .str x6), (33, .own true 3 U2 .no x7), (34, .v U2 x8), (35, .v U2 x9), (48, .v .bool x10)] K = (g16_19 x0 x1 x2 x3 x4 x5 x6 x7 x8 x9 x10 (fun y0 y1 y2 y3 y4 y5 y6 y7 y8 y9 => K .normal [(1, .v .str y0), (2, .v .str y1), (3, .v U21 y2), (5, .loc U27 .no y3), (14, .own true 45 U15 .no y4), (16, .v U2 y5), (17, .v .str y6), (33, .own true 3 U2 .no y7), (34, .v U2 y8), (35, .v U2 y9)])) := by
  kernel_rfl
theorem kp16_7 (x0 x1 x2 x3 x4 x5 x6 x7 x8 x9) : keep [1, 2, 3, 5, 14, 16, 17, 33, 34, 35] [(1, .v .str x0), (2, .v .str x1), (3, .v U21 x2), (5, .loc U27 .no x3), (14, .own true 45 U15 .no x4), (16, .v U2 x5), (17, .v .str x6), (33, .own true 3 U2 .no x7), (34, .v U2 x8), (35, .v U2 x9)] = [(1, .v .str x0), (2, .v .str x1), (3, .v U21 x2), (5, .loc U27 .no x3), (14, .own true 45 U15 .no x4), (16, .v U2 x5), (17, .v .str x6), (33, .own true 3 U2 .no x7), (34, .v U2 x8), (35, .v U2 x9)] := by kernel_rfl
theorem kp16_8 (x0 x1 x2 x3 x4 x5 x6 x7 x8 x9 x10) : keep [1, 2, 3, 5, 14, 16, 17, 33, 34, 35] [(1, .v .str x0), (2, .v .str x1), (3, .v U21 x2), (5, .loc U27 .no x3), (14, .own true 45 U15 .no x4), (16, .v U2 x5), (17, .v .str x6), (33, .own true 3 U2 .no x7), (34, .v U2 x8), (35, .v U2 x9), (48, .v .bool x10)] = [(1, .v .str x0), (2, .v .str x1), (3, .v U21 x2), (5, .loc U27 .no x3), (14, .own true 45 U15 .no x4), (16, .v U2 x5), (17, .v .str x6), (33, .own true 3 U2 .no x7), (34, .v U2 x8), (35, .v U2 x9)] := by kernel_rfl
theorem hb16_4 (x0 : V1) (x1 : V1) (x2 : V21) (x3 : V29) (x4 : V11) (x5 : Int) (x6 : V1) (x7 : V0) (x8 : Int) (x9 : Int) (x10 : Bool) : boolOf? (ent [(1, .v .str x0), (2, .v .str x1), (3, .v U21 x2), (5, .loc U27 .no x3), (14, .own true 45 U15 .no x4), (16, .v U2 x5), (17, .v .str x6), (33, .own true 3 U2 .no x7), (34, .v U2 x8), (35, .v U2 x9), (48, .v .bool x10)] (.t 48)) = some x10 := by kernel_rfl
def g16_21 {R : Type} (x0 : V1) (x1 : V1) (x2 : V21) (x3 : V29) (x4 : V11) (x5 : Int) (x6 : V1) (x7 : V0) (x8 : Int) (x9 : Int) (k0 : V1 → V1 → V21 → V29 → V11 → Int → V1 → V0 → Int → Int → Option R) : Option R :=
(g16_18 x0 x1 x2 x3 x4 x5 x6 x7 x8 x9 (fun y0 y1 y2 y3 y4 y5 y6 y7 y8 y9 y10 => brB y10 (g16_19 y0 y1 y2 y3 y4 y5 y6 y7 y8 y9 y10 (fun y0 y1 y2 y3 y4 y5 y6 y7 y8 y9 => (k0 y0 y1 y2 y3 y4 y5 y6 y7 y8 y9))) (k0 y0 y1 y2 y3 y4 y5 y6 y7 y8 y9)))
theorem t16_21 {N cl} {R} (K : KE R) (x0 x1 x2 x3 x4 x5 x6 x7 x8 x9) : exec cl N c16_21 [(1, .v .str x0), (2, .v .str x1), (3, .v U21 x2), (5, .loc U27 .no x3), (14, .own true 45 U15 .no x4), (16, .v U2 x5), (17, .v .str x6), (33, .own true 3 U2 .no x7), (34, .v U2 x8), (35, .v U2 x9)] K = (g16_21 x0 x1 x2 x3 x4 x5 x6 x7 x8 x9 (fun y0 y1 y2 y3 y4 y5 y6 y7 y8 y9 => K .normal [(1, .v .str y0), (2, .v .str y1), (3, .v U21 y2), (5, .loc U27 .no y3), (14, .own true 45 U15 .no y4), (16, .v U2 y5), (17, .v .str y6), (33, .own true 3 U2 .no y7), (34, .v U2 y8), (35, .v U2 y9)])) := by
  simp only [c16_21, exec_seq, seqK_normal, seqK_exit, seqK_ret, t16_18, c16_20, exec_out, exec_cond', hb16_4, Option.bind_some, brB_true, brB_false, t16_19, exec_skip, kp16_7, kp16_8]
  rfl
def g16_22 {R : Type} (S35 : V29 → Int → V1 → Option V4) (S36 : Int → Int → Option (Int)) (S37 : V21 → Option (Int)) (x0 : V1) (x1 : V1) (x2 : V21) (x3 : V29) (x4 : V11) (x5 : Int) (x6 : V1) (x7 : V0) (x8 : Int) (x9 : Int) (k0 : V1 → V1 → V21 → V29 → V11 → Int → Int → Bool → V0 → Int → Int → Option R) : Option R :=
(S37 x2).bind fun r458 =>
(S36 x5 r458).bind fun r459 =>
(S35 x3 r459 x6).bind fun r460 =>
k0 x0 x1 x2 x3 x4 x5 r460.1 r460.2 x7 x8 x9
theorem t16_22 {N cl} (S35) (S36) (S37) (h35 : (ctr35 S35).holds cl) (h36 : (ctr36 S36).holds cl) (h37 : (ctr37 S37).holds cl) {R} (K : KE R) (x0 x1 x2 x3 x4 x5 x6 x7 x8 x9) : exec cl N c16_22 [(1, .v .str x0), (2, .v .str x1), (3, .v U21 x2), (5, .loc U27 .no x3), (14, .own true 45 U15 .no x4), (16, .v U2 x5), (17, .v .str x6), (33, .own true 3 U2 .no x7), (34, .v U2 x8), (35, .v U2 x9)] K = (g16_22 S35 S36 S37 x0 x1 x2 x3 x4 x5 x6 x7 x8 x9 (fun y0 y1 y2 y3 y4 y5 y6 y7 y8 y9 y10 => K .normal [(1, .v .str y0), (2, .v .str y1), (3, .v U21 y2), (5, .loc U27 .no y3), (14, .own true 45 U15 .no y4), (16, .v U2 y5), (18, .v U2 y6), (19, .v .bool y7), (33, .own true 3 U2 .no y8), (34, .v U2 y9), (35, .v U2 y10)])) := by
  rw [← put_eq h35]
  rw [← put_eq h36]
  rw [← put_eq h37]
  kernel_rfl
def g16_23 {R : Type} (x0 : V1) (x1 : V1) (x2 : V21) (x3 : V29) (x4 : V11) (x5 : Int) (x6 : Int) (x7 : Bool) (x8 : V0) (x9 : Int) (x10 : Int) (k0 : V1 → V1 → V21 → V29 → V11 → Int → Int → V0 → Int → Int → Bool → Option R) : Option R :=
k0 x0 x1 x2 x3 x4 x5 x6 x8 x9 x10 x7
theorem t16_23 {N cl} {R} (K : KE R) (x0 x1 x2 x3 x4 x5 x6 x7 x8 x9 x10) : exec cl N c16_23 [(1, .v .str x0), (2, .v .str x1), (3, .v U21 x2), (5, .loc U27 .no x3), (14, .own true 45 U15 .no x4), (16, .v U2 x5), (18, .v U2 x6), (19, .v .bool x7), (33, .own true 3 U2 .no x8), (34, .v U2 x9), (35, .v U2 x10)] K = (g16_23 x0 x1 x2 x3 x4 x5 x6 x7 x8 x9 x10 (fun y0 y1 y2 y3 y4 y5 y6 y7 y8 y9 y10 => K .normal [(1, .v .str y0), (2, .v .str y1), (3, .v U21 y2), (5, .loc U27 .no y3), (14, .own true 45 U15 .no y4), (16, .v U2 y5), (18, .v U2 y6), (33, .own true 3 U2 .no y7), (34, .v U2 y8), (35, .v U2 y9), (60, .v .bool y10)])) := by
  kernel_rfl
def g16_24 {R : Type} (x0 : V1) (x1 : V1) (x2 : V21) (x3 : V29) (x4 : V11) (x5 : Int) (x6 : Int) (x7 : V0) (x8 : Int) (x9 : Int) (x10 : Bool) (k0 : V1 → V1 → V21 → V29 → V11 → V0 → Int → Int → Option R) : Option R :=
if x4.length + [(x5, x6, ())].length ≤ 8796093022208 then
k0 x0 x1 x2 x3 (x4 ++ [(x5, x6, ())]) x7 x8 x9
else none
theorem t16_24 {N cl} {R} (K : KE R) (x0 x1 x2 x3 x4 x5 x6 x7 x8 x9 x10) : exec cl N c16_24 [(1, .v .str x0), (2, .v .str x1), (3, .v U21 x2), (5, .loc U27 .no x3), (14, .own true 45 U15 .no x4), (16, .v U2 x5), (18, .v U2 x6), (33, .own true 3 U2 .no x7), (34, .v U2 x8), (35, .v U2 x9), (60, .v .bool x10)] K = (g16_24 x0 x1 x2 x3 x4 x5 x6 x7 x8 x9 x10 (fun y0 y1 y2 y3 y4 y5 y6 y7 => K .normal [(1, .v .str y0), (2, .v .str y1), (3, .v U21 y2), (5, .loc U27 .no y3), (14, .own true 45 U15 .no y4), (33, .own true 3 U2 .no y5), (34, .v U2 y6), (35, .v U2 y7)])) := by
  kernel_rfl
theorem kp16_9 (x0 x1 x2 x3 x4 x5 x6 x7 x8 x9 x10) : keep [1, 2, 3, 5, 14, 33, 34, 35] [(1, .v .str x0), (2, .v .str x1), (3, .v U21 x2), (5, .loc U27 .no x3), (14, .own true 45 U15 .no x4), (16, .v U2 x5), (18, .v U2 x6), (33, .own true 3 U2 .no x7), (34, .v U2 x8), (35, .v U2 x9), (60, .v .bool x10)] = [(1, .v .str x0), (2, .v .str x1), (3, .v U21 x2), (5, .loc U27 .no x3), (14, .own true 45 U15 .no x4), (33, .own true 3 U2 .no x7), (34, .v U2 x8), (35, .v U2 x9)] := by kernel_rfl
theorem hb16_5 (x0 : V1) (x1 : V1) (x2 : V21) (x3 : V29) (x4 : V11) (x5 : Int) (x6 : Int) (x7 : V0) (x8 : Int) (x9 : Int) (x10 : Bool) : boolOf? (ent [(1, .v .str x0), (2, .v .str x1), (3, .v U21 x2), (5, .loc U27 .no x3), (14, .own true 45 U15 .no x4), (16, .v U2 x5), (18, .v U2 x6), (33, .own true 3 U2 .no x7), (34, .v U2 x8), (35, .v U2 x9), (60, .v .bool x10)] (.t 60)) = some x10 := by kernel_rfl
theorem kp16_10 (x0 x1 x2 x3 x4 x5 x6 x7) : keep [1, 2, 3, 5, 14, 33, 34, 35] [(1, .v .str x0), (2, .v .str x1), (3, .v U21 x2), (5, .loc U27 .no x3), (14, .own true 45 U15 .no x4), (16, .dead), (33, .own true 3 U2 .no x5), (34, .v U2 x6), (35, .v U2 x7)] = [(1, .v .str x0), (2, .v .str x1), (3, .v U21 x2), (5, .loc U27 .no x3), (14, .own true 45 U15 .no x4), (33, .own true 3 U2 .no x5), (34, .v U2 x6), (35, .v U2 x7)] := by kernel_rfl
def g16_26 {R : Type} (S35 : V29 → Int → V1 → Option V4) (S36 : Int → Int → Option (Int)) (S37 : V21 → Option (Int)) (x0 : V1) (x1 : V1) (x2 : V21) (x3 : V29) (x4 : V11) (x5 : V0) (x6 : Int) (x7 : Int) (k0 : V1 → V1 → V21 → V29 → V11 → V0 → Int → Int → Option R) : Option R :=
(g16_13 x0 x1 x2 x3 x4 x5 x6 x7 (fun y0 y1 y2 y3 y4 y5 y6 y7 y8 => (g16_14 y0 y1 y2 y3 y4 y5 y6 y7 y8 (fun y0 y1 y2 y3 y4 y5 y6 y7 y8 y9 => brB y9 (g16_15 y0 y1 y2 y3 y4 y5 y6 y7 y8 y9 (fun y0 y1 y2 y3 y4 y5 y6 y7 => ((fun y0 y1 y2 y3 y4 y5 y6 y7 => (k0 y0 y1 y2 y3 y4 y5 y6 y7)) y0 y1 y2 y3 y4 y5 y6 y7))) ((fun y0 y1 y2 y3 y4 y5 y6 y7 y8 => (g16_17 y0 y1 y2 y3 y4 y5 y6 y7 y8 (fun y0 y1 y2 y3 y4 y5 y6 y7 y8 y9 => (g16_21 y0 y1 y2 y3 y4 y5 y6 y7 y8 y9 (fun y0 y1 y2 y3 y4 y5 y6 y7 y8 y9 => (g16_22 S35 S36 S37 y0 y1 y2 y3 y4 y5 y6 y7 y8 y9 (fun y0 y1 y2 y3 y4 y5 y6 y7 y8 y9 y10 => (g16_23 y0 y1 y2 y3 y4 y5 y6 y7 y8 y9 y10 (fun y0 y1 y2 y3 y4 y5 y6 y7 y8 y9 y10 => brB y10 (g16_24 y0 y1 y2 y3 y4 y5 y6 y7 y8 y9 y10 (fun y0 y1 y2 y3 y4 y5 y6 y7 => (k0 y0 y1 y2 y3 y4 y5 y6 y7))) (k0 y0 y1 y2 y3 y4 y7 y8 y9)))))))))) y0 y1 y2 y3 y4 y5 y6 y7 y8)))))
theorem t16_26 {N cl} (S35) (S36) (S37) (h35 : (ctr35 S35).holds cl) (h36 : (ctr36 S36).holds cl) (h37 : (ctr37 S37).holds cl) {R} (K : KE R) (x0 x1 x2 x3 x4 x5 x6 x7) : exec cl N c16_26 [(1, .v .str x0), (2, .v .str x1), (3, .v U21 x2), (5, .loc U27 .no x3), (14, .own true 45 U15 .no x4), (33, .own true 3 U2 .no x5), (34, .v U2 x6), (35, .v U2 x7)] K = (g16_26 S35 S36 S37 x0 x1 x2 x3 x4 x5 x6 x7 (fun y0 y1 y2 y3 y4 y5 y6 y7 => K .normal [(1, .v .str y0), (2, .v .str y1), (3, .v U21 y2), (5, .loc U27 .no y3), (14, .own true 45 U15 .no y4), (33, .own true 3 U2 .no y5), (34, .v U2 y6), (35, .v U2 y7)])) := by
  simp only [c16_26, exec_out, exec_block, exec_seq, seqK_normal, seqK_exit, seqK_ret, t16_13, t16_14, c16_16, exec_cond', hb16_3, Option.bind_some, brB_true, brB_false, t16_15, exec_exit, exec_skip, kp16_5, kp16_6, t16_17, t16_21, t16_22 S35 S36 S37 h35 h36 h37, t16_23, c16_25, hb16_5, t16_24, kp16_3, kp16_9, blockK_normal, blockK_ret, blockK_eq, kp16_10]
  rfl
def g16_27 {R : Type} (x0 : V1) (x1 : V1) (x2 : V21) (x3 : V29) (x4 : V11) (x5 : V0) (x6 : Int) (x7 : Int) (k0 : V1 → V1 → V21 → V29 → V11 → V0 → Int → Int → Option R) : Option R :=
k0 x0 x1 x2 x3 x4 x5 x6 (IntKind.i64.wrap (x7 + (1 : Int)))
theorem t16_27 {N cl} {R} (K : KE R) (x0 x1 x2 x3 x4 x5 x6 x7) : exec cl N c16_27 [(1, .v .str x0), (2, .v .str x1), (3, .v U21 x2), (5, .loc U27 .no x3), (14, .own true 45 U15 .no x4), (33, .own true 3 U2 .no x5), (34, .v U2 x6), (35, .v U2 x7)] K = (g16_27 x0 x1 x2 x3 x4 x5 x6 x7 (fun y0 y1 y2 y3 y4 y5 y6 y7 => K .normal [(1, .v .str y0), (2, .v .str y1), (3, .v U21 y2), (5, .loc U27 .no y3), (14, .own true 45 U15 .no y4), (33, .own true 3 U2 .no y5), (34, .v U2 y6), (35, .v U2 y7)])) := by
  kernel_rfl
def g16_28 {R : Type} (S35 : V29 → Int → V1 → Option V4) (S36 : Int → Int → Option (Int)) (S37 : V21 → Option (Int)) (x0 : V1) (x1 : V1) (x2 : V21) (x3 : V29) (x4 : V11) (x5 : V0) (x6 : Int) (x7 : Int) (k0 : V1 → V1 → V21 → V29 → V11 → V0 → Int → Int → Option R) (k1 : V1 → V1 → V21 → V29 → V11 → V0 → Int → Int → Option R) : Option R :=
(g16_11 x0 x1 x2 x3 x4 x5 x6 x7 (fun y0 y1 y2 y3 y4 y5 y6 y7 y8 => brB y8 ((fun y0 y1 y2 y3 y4 y5 y6 y7 => (g16_26 S35 S36 S37 y0 y1 y2 y3 y4 y5 y6 y7 (fun y0 y1 y2 y3 y4 y5 y6 y7 => (g16_27 y0 y1 y2 y3 y4 y5 y6 y7 k0)))) y0 y1 y2 y3 y4 y5 y6 y7) (k1 y0 y1 y2 y3 y4 y5 y6 y7)))
theorem t16_28 {N cl} (S35) (S36) (S37) (h35 : (ctr35 S35).holds cl) (h36 : (ctr36 S36).holds cl) (h37 : (ctr37 S37).holds cl) {R} (K : KE R) (x0 x1 x2 x3 x4 x5 x6 x7) : exec cl N c16_28 [(1, .v .str x0), (2, .v .str x1), (3, .v U21 x2), (5, .loc U27 .no x3), (14, .own true 45 U15 .no x4), (33, .own true 3 U2 .no x5), (34, .v U2 x6), (35, .v U2 x7)] K = (g16_28 S35 S36 S37 x0 x1 x2 x3 x4 x5 x6 x7 (fun y0 y1 y2 y3 y4 y5 y6 y7 => K .normal [(1, .v .str y0), (2, .v .str y1), (3, .v U21 y2), (5, .loc U27 .no y3), (14, .own true 45 U15 .no y4), (33, .own true 3 U2 .no y5), (34, .v U2 y6), (35, .v U2 y7)]) (fun y0 y1 y2 y3 y4 y5 y6 y7 => K (.exit 0) [(1, .v .str y0), (2, .v .str y1), (3, .v U21 y2), (5, .loc U27 .no y3), (14, .own true 45 U15 .no y4), (33, .own true 3 U2 .no y5), (34, .v U2 y6), (35, .v U2 y7)])) := by
  simp only [c16_28, exec_seq, seqK_normal, seqK_exit, seqK_ret, t16_11, c16_12, exec_out, exec_cond', hb16_2, Option.bind_some, brB_true, brB_false, exec_skip, exec_exit, kp16_4, t16_26 S35 S36 S37 h35 h36 h37, t16_27]
  rfl
def l16_29 {R : Type} (S35 : V29 → Int → V1 → Option V4) (S36 : Int → Int → Option (Int)) (S37 : V21 → Option (Int)) (k0 : V1 → V1 → V21 → V29 → V11 → V0 → Int → Int → Option R) : Nat → V1 → V1 → V21 → V29 → V11 → V0 → Int → Int → Option R
  | 0, _, _, _, _, _, _, _, _ => none
  | m + 1, x0, x1, x2, x3, x4, x5, x6, x7 => (g16_28 S35 S36 S37 x0 x1 x2 x3 x4 x5 x6 x7 (fun y0 y1 y2 y3 y4 y5 y6 y7 => l16_29 S35 S36 S37 k0 m y0 y1 y2 y3 y4 y5 y6 y7) k0)
theorem lt16_29 {N cl} (S35) (S36) (S37) (h35 : (ctr35 S35).holds cl) (h36 : (ctr36 S36).holds cl) (h37 : (ctr37 S37).holds cl) {R} (K : KE R) : ∀ (m) (x0 x1 x2 x3 x4 x5 x6 x7), iter [1, 2, 3, 5, 14, 33, 34, 35] (fun env K => exec cl N c16_28 env K) K m [(1, .v .str x0), (2, .v .str x1), (3, .v U21 x2), (5, .loc U27 .no x3), (14, .own true 45 U15 .no x4), (33, .own true 3 U2 .no x5), (34, .v U2 x6), (35, .v U2 x7)] = l16_29 S35 S36 S37 (fun y0 y1 y2 y3 y4 y5 y6 y7 => K (.exit 0) [(1, .v .str y0), (2, .v .str y1), (3, .v U21 y2), (5, .loc U27 .no y3), (14, .own true 45 U15 .no y4), (33, .own true 3 U2 .no y5), (34, .v U2 y6), (35, .v U2 y7)]) m x0 x1 x2 x3 x4 x5 x6 x7 := by
  intro m
  induction m with
  | zero => intros; rfl
  | succ m ih =>
    intro x0 x1 x2 x3 x4 x5 x6 x7
    simp only [iter_succ, t16_28 S35 S36 S37 h35 h36 h37, loopK_normal, loopK_exit, loopK_ret, kp16_3, ih]
    rfl
theorem kp16_11 (x0 x1 x2 x3 x4 x5 x6 x7) : keep [14] [(1, .v .str x0), (2, .v .str x1), (3, .v U21 x2), (5, .loc U27 .no x3), (14, .own true 45 U15 .no x4), (33, .own true 3 U2 .no x5), (34, .v U2 x6), (35, .v U2 x7)] = [(14, .own true 45 U15 .no x4)] := by kernel_rfl
def g16_29 {R : Type} (N : Nat) (S35 : V29 → Int → V1 → Option V4) (S36 : Int → Int → Option (Int)) (S37 : V21 → Option (Int)) (x0 : V1) (x1 : V1) (x2 : V21) (x3 : V29) (x4 : V11) (x5 : V0) (x6 : Int) (x7 : Int) (k0 : V11 → Option R) : Option R :=
l16_29 S35 S36 S37 (fun y0 y1 y2 y3 y4 y5 y6 y7 => k0 y4) N x0 x1 x2 x3 x4 x5 x6 x7
theorem t16_29 {N cl} (S35) (S36) (S37) (h35 : (ctr35 S35).holds cl) (h36 : (ctr36 S36).holds cl) (h37 : (ctr37 S37).holds cl) {R} (K : KE R) (x0 x1 x2 x3 x4 x5 x6 x7) : exec cl N c16_29 [(1, .v .str x0), (2, .v .str x1), (3, .v U21 x2), (5, .loc U27 .no x3), (14, .own true 45 U15 .no x4), (33, .own true 3 U2 .no x5), (34, .v U2 x6), (35, .v U2 x7)] K = (g16_29 N S35 S36 S37 x0 x1 x2 x3 x4 x5 x6 x7 (fun y0 => K (.exit 0) [(14, .own true 45 U15 .no y0)])) := by
  simp only [c16_29, exec_out, exec_loop, kp16_3, lt16_29 S35 S36 S37 h35 h36 h37, kp16_11]
  rfl
theorem kp16_12 (x0) : keep [14] [(14, .own true 45 U15 .no x0)] = [(14, .own true 45 U15 .no x0)] := by kernel_rfl
def g16_31 {R : Type} (x0 : V11) (k0 : Int → V11 → Option R) : Option R :=
k0 (0 : Int) x0
theorem t16_31 {N cl} {R} (K : KE R) (x0) : exec cl N c16_31 [(14, .own true 45 U15 .no x0)] K = (g16_31 x0 (fun y0 y1 => K .normal [(10, .ref 14 []), (11, .v U2 y0), (14, .own true 45 U15 .no y1)])) := by
  kernel_rfl
def g16_32 {R : Type} (N : Nat) (S32 : V29 → Option (Int)) (S33 : V21 → V21 → Option (Int)) (S34 : V21 → V21 → Option V3) (S35 : V29 → Int → V1 → Option V4) (S36 : Int → Int → Option (Int)) (S37 : V21 → Option (Int)) (x0 : V29) (x1 : V1) (x2 : V1) (x3 : V21) (x4 : V21) (k0 : V11 → Int → Option R) (k1 : Int → V11 → Option R) : Option R :=
(g16_0 x0 x1 x2 x3 x4 (fun y0 y1 y2 y3 y4 => (g16_1 S32 y0 y1 y2 y3 y4 (fun y0 y1 y2 y3 y4 y5 => (g16_2 y0 y1 y2 y3 y4 y5 (fun y0 y1 y2 y3 y4 y5 y6 => brB y6 (g16_3 y0 y1 y2 y3 y4 y5 y6 (fun y0 y1 => ((fun y0 y1 => (k0 y0 y1)) y0 y1))) ((fun y0 y1 y2 y3 y4 => (g16_5 S33 y0 y1 y2 y3 y4 (fun y0 y1 y2 y3 y4 y5 => (g16_6 y0 y1 y2 y3 y4 y5 (fun y0 y1 y2 y3 y4 y5 y6 => brB y6 (g16_7 y0 y1 y2 y3 y4 y5 y6 (fun y0 y1 => ((fun y0 y1 => (k0 y0 y1)) y0 y1))) ((fun y0 y1 y2 y3 y4 => (g16_9 y0 y1 y2 y3 y4 (fun y0 y1 y2 y3 y4 y5 => (g16_10 S34 y0 y1 y2 y3 y4 y5 (fun y0 y1 y2 y3 y4 y5 y6 y7 => (g16_29 N S35 S36 S37 y0 y1 y2 y3 y4 y5 y6 y7 (fun y0 => ((fun y0 => (g16_31 y0 (fun y0 y1 => (k1 y0 y1)))) y0)))))))) y0 y1 y2 y3 y4)))))) y0 y1 y2 y3 y4)))))))
theorem t16_32 {N cl} (S32) (S33) (S34) (S35) (S36) (S37) (h32 : (ctr32 S32).holds cl) (h33 : (ctr33 S33).holds cl) (h34 : (ctr34 S34).holds cl) (h35 : (ctr35 S35).holds cl) (h36 : (ctr36 S36).holds cl) (h37 : (ctr37 S37).holds cl) {R} (K : KE R) (x0 x1 x2 x3 x4) : exec cl N c16_32 [(0, .v U27 x0), (1, .v .str x1), (2, .v .str x2), (3, .v U21 x3), (4, .v U21 x4)] K = (g16_32 N S32 S33 S34 S35 S36 S37 x0 x1 x2 x3 x4 (fun y0 y1 => K .ret [(1, .dead), (2, .dead), (3, .dead), (4, .dead), (5, .dead), (10, .own true 45 U15 .no y0), (11, .v U2 y1)]) (fun y0 y1 => K .ret [(10, .ref 14 []), (11, .v U2 y0), (14, .own true 45 U15 .no y1)])) := by
  simp only [c16_32, exec_seq, seqK_normal, seqK_exit, seqK_ret, t16_0, t16_1 S32 h32, t16_2, c16_4, exec_out, exec_cond', hb16_0, Option.bind_some, brB_true, brB_false, t16_3, exec_ret, exec_skip, kp16_0, kp16_1, t16_5 S33 h33, t16_6, c16_8, hb16_1, t16_7, kp16_2, t16_9, t16_10 S34 h34, c16_30, exec_block, t16_29 S35 S36 S37 h35 h36 h37, blockK_normal, blockK_ret, blockK_eq, kp16_12, t16_31]
  rfl
theorem rk16_0 (y0 : V11) (y1 : Int) : retK d16 .ret [(1, .dead), (2, .dead), (3, .dead), (4, .dead), (5, .dead), (10, .own true 45 U15 .no y0), (11, .v U2 y1)] = some [.own true 45 U15 .no y0, .v U2 y1] := by kernel_rfl
theorem rk16_1 (y0 : Int) (y1 : V11) : retK d16 .ret [(10, .ref 14 []), (11, .v U2 y0), (14, .own true 45 U15 .no y1)] = some [.own true 45 U15 .no y1, .v U2 y0] := by kernel_rfl
def g16 {R : Type} (N : Nat) (S32 : V29 → Option (Int)) (S33 : V21 → V21 → Option (Int)) (S34 : V21 → V21 → Option V3) (S35 : V29 → Int → V1 → Option V4) (S36 : Int → Int → Option (Int)) (S37 : V21 → Option (Int)) (x0 : V29) (x1 : V1) (x2 : V1) (x3 : V21) (x4 : V21) (k : V11 → Int → Option R) : Option R :=
(g16_32 N S32 S33 S34 S35 S36 S37 x0 x1 x2 x3 x4 (fun y0 y1 => k y0 y1) (fun y0 y1 => k y1 y0))
theorem gen16 {N : Nat} {cl : Cal} (S32 : V29 → Option (Int)) (S33 : V21 → V21 → Option (Int)) (S34 : V21 → V21 → Option V3) (S35 : V29 → Int → V1 → Option V4) (S36 : Int → Int → Option (Int)) (S37 : V21 → Option (Int)) (h32 : (ctr32 S32).holds cl) (h33 : (ctr33 S33).holds cl) (h34 : (ctr34 S34).holds cl) (h35 : (ctr35 S35).holds cl) (h36 : (ctr36 S36).holds cl) (h37 : (ctr37 S37).holds cl) (x0 : V29) (x1 : V1) (x2 : V1) (x3 : V21) (x4 : V21) {R : Type} (k : List E → Option R) : exec cl N c16 (params 0 [.v U27 x0, .v .str x1, .v .str x2, .v U21 x3, .v U21 x4]) (fun e env => (retK d16 e env).bind k) = g16 N S32 S33 S34 S35 S36 S37 x0 x1 x2 x3 x4 (fun (r0 : V11) (r1 : Int) => k [.own true 45 U15 .no r0, .v U2 r1]) := by
  have e0 : params 0 [.v U27 x0, .v .str x1, .v .str x2, .v U21 x3, .v U21 x4] = [(0, .v U27 x0), (1, .v .str x1), (2, .v .str x2), (3, .v U21 x3), (4, .v U21 x4)] := by kernel_rfl
  simp only [c16, e0, t16_32 S32 S33 S34 S35 S36 S37 h32 h33 h34 h35 h36 h37, rk16_0, rk16_1, Option.bind_some]
  rfl
def ctr16 (S : V29 → V1 → V1 → V21 → V21 → Option V17) : Ctr := { A := V29 × V1 × V1 × V21 × V21 × Unit, B := V11 × Int, f := 16, enc := fun a => [.v U27 a.1, .v .str a.2.1, .v .str a.2.2.1, .v U21 a.2.2.2.1, .v U21 a.2.2.2.2.1], dec := (decC (decV U27) (decC (decV .str) (decC (decV .str) (decC (decV U21) (decC (decV U21) dec0))))), S := fun a => S a.1 a.2.1 a.2.2.1 a.2.2.2.1 a.2.2.2.2.1, ent := fun b => [.own true 45 U15 .no b.1, .v U2 b.2], ok := (decV_cons (T := U27) (decV_cons (T := .str) (decV_cons (T := .str) (decV_cons (T := U21) (decV_cons (T := U21) (fun es b h => dec0_some h)))))) }
def S16 (N : Nat) (x0 : V29) (x1 : V1) (x2 : V1) (x3 : V21) (x4 : V21) : Option V17 := g16 N (S32 N) (S33 N) (S34 N) (S35 N) (S36 N) (S37 N) x0 x1 x2 x3 x4 (fun (r0 : V11) (r1 : Int) => some (r0, r1))
def g45_0 {R : Type} (x0 : V7) (x1 : V7) (k0 : V7 → V7 → Option R) : Option R :=
k0 x0 x1
theorem t45_0 {N cl} {R} (K : KE R) (x0 x1) : exec cl N c45_0 [(0, .v U15 x0), (1, .v U15 x1)] K = (g45_0 x0 x1 (fun y0 y1 => K .normal [(2, .loc U15 .no y0), (3, .loc U15 .no y1)])) := by
  kernel_rfl
def g45_1 {R : Type} (x0 : V7) (x1 : V7) (k0 : Int → Option R) : Option R :=
k0 (IntKind.i64.wrap (x0.2.1 - x1.2.1))
theorem t45_1 {N cl} {R} (K : KE R) (x0 x1) : exec cl N c45_1 [(2, .loc U15 .no x0), (3, .loc U15 .no x1)] K = (g45_1 x0 x1 (fun y0 => K .normal [(4, .v U2 y0)])) := by
  kernel_rfl
def g45_2 {R : Type} (x0 : V7) (x1 : V7) (k0 : Int → Option R) : Option R :=
(g45_0 x0 x1 (fun y0 y1 => (g45_1 y0 y1 (fun y0 => (k0 y0)))))
theorem t45_2 {N cl} {R} (K : KE R) (x0 x1) : exec cl N c45_2 [(0, .v U15 x0), (1, .v U15 x1)] K = (g45_2 x0 x1 (fun y0 => K .ret [(4, .v U2 y0)])) := by
  simp only [c45_2, exec_seq, seqK_normal, seqK_exit, seqK_ret, t45_0, t45_1, exec_ret]
  rfl
theorem rk45_0 (y0 : Int) : retK d45 .ret [(4, .v U2 y0)] = some [.v U2 y0] := by kernel_rfl
def g45 {R : Type} (x0 : V7) (x1 : V7) (k : Int → Option R) : Option R :=
(g45_2 x0 x1 (fun y0 => k y0))
theorem gen45 {N : Nat} {cl : Cal} (x0 : V7) (x1 : V7) {R : Type} (k : List E → Option R) : exec cl N c45 (params 0 [.v U15 x0, .v U15 x1]) (fun e env => (retK d45 e env).bind k) = g45 x0 x1 (fun (r0 : Int) => k [.v U2 r0]) := by
  have e0 : params 0 [.v U15 x0, .v U15 x1] = [(0, .v U15 x0), (1, .v U15 x1)] := by kernel_rfl
  simp only [c45, e0, t45_2, rk45_0, Option.bind_some]
  rfl
def ctr45 (S : V7 → V7 → Option (Int)) : Ctr := { A := V7 × V7 × Unit, B := Int, f := 45, enc := fun a => [.v U15 a.1, .v U15 a.2.1], dec := (decC (decV U15) (decC (decV U15) dec0)), S := fun a => S a.1 a.2.1, ent := fun b => [.v U2 b], ok := (decV_cons (T := U15) (decV_cons (T := U15) (fun es b h => dec0_some h))) }
def S45 (N : Nat) (x0 : V7) (x1 : V7) : Option (Int) := g45 x0 x1 (fun (r0 : Int) => some (r0))
def g44_0 {R : Type} (x0 : V11) (x1 : V28) (k0 : V11 → V28 → V7 → Option R) : Option R :=
k0 x0 x1 ((0 : Int), ((0 : Int), ()))
theorem t44_0 {N cl} {R} (K : KE R) (x0 x1) : exec cl N c44_0 [(0, .v U16 x0), (1, .v U29 x1)] K = (g44_0 x0 x1 (fun y0 y1 y2 => K .normal [(0, .v U16 y0), (1, .v U29 y1), (4, .loc U15 .no y2)])) := by
  kernel_rfl
def g44_1 {R : Type} (x0 : V11) (x1 : V28) (x2 : V7) (k0 : V11 → V28 → V7 → Bool → Option R) : Option R :=
k0 x0 x1 x2 (decide ((x0.length : Int) < (1 : Int)))
theorem t44_1 {N cl} {R} (K : KE R) (x0 x1 x2) : exec cl N c44_1 [(0, .v U16 x0), (1, .v U29 x1), (4, .loc U15 .no x2)] K = (g44_1 x0 x1 x2 (fun y0 y1 y2 y3 => K .normal [(0, .v U16 y0), (1, .v U29 y1), (4, .loc U15 .no y2), (9, .v .bool y3)])) := by
  kernel_rfl
def g44_2 {R : Type} (x0 : V11) (x1 : V28) (x2 : V7) (x3 : Bool) : Option R :=
none /- operation makeInterface -/
theorem t44_2 {N cl} {R} (K : KE R) (x0 x1 x2 x3) : exec cl N c44_2 [(0, .v U16 x0), (1, .v U29 x1), (4, .loc U15 .no x2), (9, .v .bool x3)] K = (g44_2 x0 x1 x2 x3) := by
  kernel_rfl
theorem kp44_0 (x0 x1 x2 x3) : keep [0, 1, 4] [(0, .v U16 x0), (1, .v U29 x1), (4, .loc U15 .no x2), (9, .v .bool x3)] = [(0, .v U16 x0), (1, .v U29 x1), (4, .loc U15 .no x2)] := by kernel_rfl
theorem hb44_0 (x0 : V11) (x1 : V28) (x2 : V7) (x3 : Bool) : boolOf? (ent [(0, .v U16 x0), (1, .v U29 x1), (4, .loc U15 .no x2), (9, .v .bool x3)] (.t 9)) = some x3 := by kernel_rfl
def g44_4 {R : Type} (x0 : V11) (x1 : V28) (x2 : V7) (k0 : V11 → V28 → V7 → V7 → Option R) : Option R :=
if 0 ≤ (0 : Int) ∧ (0 : Int) < (x0.length : Int) then
k0 x0 x1 x2 (x0.getD (0 : Int).toNat ((0 : Int), ((0 : Int), ())))
else none
theorem t44_4 {N cl} {R} (K : KE R) (x0 x1 x2) : exec cl N c44_4 [(0, .v U16 x0), (1, .v U29 x1), (4, .loc U15 .no x2)] K = (g44_4 x0 x1 x2 (fun y0 y1 y2 y3 => K .normal [(0, .v U16 y0), (1, .v U29 y1), (4, .loc U15 .no y2), (5, .loc U15 .no y3)])) := by
  kernel_rfl
def g44_5 {R : Type} (x0 : V11) (x1 : V28) (x2 : V7) (x3 : V7) (k0 : V11 → V28 → V7 → V7 → Int → Option R) : Option R :=
k0 x0 x1 x2 x3 (1 : Int)
theorem t44_5 {N cl} {R} (K : KE R) (x0 x1 x2 x3) : exec cl N c44_5 [(0, .v U16 x0), (1, .v U29 x1), (4, .loc U15 .no x2), (5, .loc U15 .no x3)] K = (g44_5 x0 x1 x2 x3 (fun y0 y1 y2 y3 y4 => K .normal [(0, .v U16 y0), (1, .v U29 y1), (4, .loc U15 .no y2), (5, .loc U15 .no y3), (6, .v U2 y4)])) := by
  kernel_rfl
theorem kp44_1 (x0 x1 x2 x3 x4) : keep [0, 1, 4, 5, 6] [(0, .v U16 x0), (1, .v U29 x1), (4, .loc U15 .no x2), (5, .loc U15 .no x3), (6, .v U2 x4)] = [(0, .v U16 x0), (1, .v U29 x1), (4, .loc U15 .no x2), (5, .loc U15 .no x3), (6, .v U2 x4)] := by kernel_rfl
def g44_6 {R : Type} (x0 : V11) (x1 : V28) (x2 : V7) (x3 : V7) (x4 : Int) (k0 : V11 → V28 → V7 → V7 → Int → Bool → Option R) : Option R :=
k0 x0 x1 x2 x3 x4 (decide (x4 < (x0.length : Int)))
theorem t44_6 {N cl} {R} (K : KE R) (x0 x1 x2 x3 x4) : exec cl N c44_6 [(0, .v U16 x0), (1, .v U29 x1), (4, .loc U15 .no x2), (5, .loc U15 .no x3), (6, .v U2 x4)] K = (g44_6 x0 x1 x2 x3 x4 (fun y0 y1 y2 y3 y4 y5 => K .normal [(0, .v U16 y0), (1, .v U29 y1), (4, .loc U15 .no y2), (5, .loc U15 .no y3), (6, .v U2 y4), (17, .v .bool y5)])) := by
  kernel_rfl
theorem kp44_2 (x0 x1 x2 x3 x4 x5) : keep [0, 1, 4, 5, 6] [(0, .v U16 x0), (1, .v U29 x1), (4, .loc U15 .no x2), (5, .loc U15 .no x3), (6, .v U2 x4), (17, .v .bool x5)] = [(0, .v U16 x0), (1, .v U29 x1), (4, .loc U15 .no x2), (5, .loc U15 .no x3), (6, .v U2 x4)] := by kernel_rfl
theorem hb44_1 (x0 : V11) (x1 : V28) (x2 : V7) (x3 : V7) (x4 : Int) (x5 : Bool) : boolOf? (ent [(0, .v U16 x0), (1, .v U29 x1), (4, .loc U15 .no x2), (5, .loc U15 .no x3), (6, .v U2 x4), (17, .v .bool x5)] (.t 17)) = some x5 := by kernel_rfl
def g44_8 {R : Type} (x0 : V11) (x1 : V28) (x2 : V7) (x3 : V7) (x4 : Int) (k0 : V11 → V28 → V7 → V7 → Int → Bool → Option R) : Option R :=
if 0 ≤ x4 ∧ x4 < (x0.length : Int) then
(x1 ((x0.getD x4.toNat ((0 : Int), ((0 : Int), ()))), x3, ())).bind fun r479 =>
k0 x0 x1 x2 x3 x4 (decide (r479 < (0 : Int)))
else none
theorem t44_8 {N cl} {R} (K : KE R) (x0 x1 x2 x3 x4) : exec cl N c44_8 [(0, .v U16 x0), (1, .v U29 x1), (4, .loc U15 .no x2), (5, .loc U15 .no x3), (6, .v U2 x4)] K = (g44_8 x0 x1 x2 x3 x4 (fun y0 y1 y2 y3 y4 y5 => K .normal [(0, .v U16 y0), (1, .v U29 y1), (4, .loc U15 .no y2), (5, .loc U15 .no y3), (6, .v U2 y4), (27, .v .bool y5)])) := by
  kernel_rfl
def g44_9 {R : Type} (x0 : V11) (x1 : V28) (x2 : V7) (x3 : V7) (x4 : Int) (x5 : Bool) (k0 : V11 → V28 → V7 → V7 → Int → Option R) : Option R :=
if 0 ≤ x4 ∧ x4 < (x0.length : Int) then
k0 x0 x1 x2 (x0.getD x4.toNat ((0 : Int), ((0 : Int), ()))) x4
else none
theorem t44_9 {N cl} {R} (K : KE R) (x0 x1 x2 x3 x4 x5) : exec cl N c44_9 [(0, .v U16 x0), (1, .v U29 x1), (4, .loc U15 .no x2), (5, .loc U15 .no x3), (6, .v U2 x4), (27, .v .bool x5)] K = (g44_9 x0 x1 x2 x3 x4 x5 (fun y0 y1 y2 y3 y4 => K .normal [(0, .v U16 y0), (1, .v U29 y1), (4, .loc U15 .no y2), (5, .loc U15 .no y3), (6, .v U2 y4)])) := by
  kernel_rfl
theorem kp44_3 (x0 x1 x2 x3 x4 x5) : keep [0, 1, 4, 5, 6] [(0, .v U16 x0), (1, .v U29 x1), (4, .loc U15 .no x2), (5, .loc U15 .no x3), (6, .v U2 x4), (27, .v .bool x5)] = [(0, .v U16 x0), (1, .v U29 x1), (4, .loc U15 .no x2), (5, .loc U15 .no x3), (6, .v U2 x4)] := by kernel_rfl
theorem hb44_2 (x0 : V11) (x1 : V28) (x2 : V7) (x3 : V7) (x4 : Int) (x5 : Bool) : boolOf? (ent [(0, .v U16 x0), (1, .v U29 x1), (4, .loc U15 .no x2), (5, .loc U15 .no x3), (6, .v U2 x4), (27, .v .bool x5)] (.t 27)) = some x5 := by kernel_rfl
def g44_11 {R : Type} (x0 : V11) (x1 : V28) (x2 : V7) (x3 : V7) (x4 : Int) (k0 : V11 → V28 → V7 → V7 → Int → Option R) : Option R :=
(g44_8 x0 x1 x2 x3 x4 (fun y0 y1 y2 y3 y4 y5 => brB y5 (g44_9 y0 y1 y2 y3 y4 y5 (fun y0 y1 y2 y3 y4 => (k0 y0 y1 y2 y3 y4))) (k0 y0 y1 y2 y3 y4)))
theorem t44_11 {N cl} {R} (K : KE R) (x0 x1 x2 x3 x4) : exec cl N c44_11 [(0, .v U16 x0), (1, .v U29 x1), (4, .loc U15 .no x2), (5, .loc U15 .no x3), (6, .v U2 x4)] K = (g44_11 x0 x1 x2 x3 x4 (fun y0 y1 y2 y3 y4 => K .normal [(0, .v U16 y0), (1, .v U29 y1), (4, .loc U15 .no y2), (5, .loc U15 .no y3), (6, .v U2 y4)])) := by
  simp only [c44_11, exec_out, exec_block, exec_seq, seqK_normal, seqK_exit, seqK_ret, t44_8, c44_10, exec_cond', hb44_2, Option.bind_some, brB_true, brB_false, t44_9, exec_skip, kp44_1, kp44_3, blockK_normal, blockK_ret, blockK_eq]
  rfl
def g44_12 {R : Type} (x0 : V11) (x1 : V28) (x2 : V7) (x3 : V7) (x4 : Int) (k0 : V11 → V28 → V7 → V7 → Int → Option R) : Option R :=
k0 x0 x1 x2 x3 (IntKind.i64.wrap (x4 + (1 : Int)))
theorem t44_12 {N cl} {R} (K : KE R) (x0 x1 x2 x3 x4) : exec cl N c44_12 [(0, .v U16 x0), (1, .v U29 x1), (4, .loc U15 .no x2), (5, .loc U15 .no x3), (6, .v U2 x4)] K = (g44_12 x0 x1 x2 x3 x4 (fun y0 y1 y2 y3 y4 => K .normal [(0, .v U16 y0), (1, .v U29 y1), (4, .loc U15 .no y2), (5, .loc U15 .no y3), (6, .v U2 y4)])) := by
  kernel_rfl
def g44_13 {R : Type} (x0 : V11) (x1 : V28) (x2 : V7) (x3 : V7) (x4 : Int) (k0 : V11 → V28 → V7 → V7 → Int → Option R) (k1 : V11 → V28 → V7 → V7 → Int → Option R) : Option R :=
(g44_6 x0 x1 x2 x3 x4 (fun y0 y1 y2 y3 y4 y5 => brB y5 ((fun y0 y1 y2 y3 y4 => (g44_11 y0 y1 y2 y3 y4 (fun y0 y1 y2 y3 y4 => (g44_12 y0 y1 y2 y3 y4 k0)))) y0 y1 y2 y3 y4) (k1 y0 y1 y2 y3 y4)))
theorem t44_13 {N cl} {R} (K : KE R) (x0 x1 x2 x3 x4) : exec cl N c44_13 [(0, .v U16 x0), (1, .v U29 x1), (4, .loc U15 .no x2), (5, .loc U15 .no x3), (6, .v U2 x4)] K = (g44_13 x0 x1 x2 x3 x4 (fun y0 y1 y2 y3 y4 => K .normal [(0, .v U16 y0), (1, .v U29 y1), (4, .loc U15 .no y2), (5, .loc U15 .no y3), (6, .v U2 y4)]) (fun y0 y1 y2 y3 y4 => K (.exit 0) [(0, .v U16 y0), (1, .v U29 y1), (4, .loc U15 .no y2), (5, .loc U15 .no y3), (6, .v U2 y4)])) := by
  simp only [c44_13, exec_seq, seqK_normal, seqK_exit, seqK_ret, t44_6, c44_7, exec_out, exec_cond', hb44_1, Option.bind_some, brB_true, brB_false, exec_skip, exec_exit, kp44_2, t44_11, t44_12]
  rfl
def l44_14 {R : Type} (k0 : V11 → V28 → V7 → V7 → Int → Option R) : Nat → V11 → V28 → V7 → V7 → Int → Option R
  | 0, _, _, _, _, _ => none
  | m + 1, x0, x1, x2, x3, x4 => (g44_13 x0 x1 x2 x3 x4 (fun y0 y1 y2 y3 y4 => l44_14 k0 m y0 y1 y2 y3 y4) k0)
theorem lt44_14 {N cl} {R} (K : KE R) : ∀ (m) (x0 x1 x2 x3 x4), iter [0, 1, 4, 5, 6] (fun env K => exec cl N c44_13 env K) K m [(0, .v U16 x0), (1, .v U29 x1), (4, .loc U15 .no x2), (5, .loc U15 .no x3), (6, .v U2 x4)] = l44_14 (fun y0 y1 y2 y3 y4 => K (.exit 0) [(0, .v U16 y0), (1, .v U29 y1), (4, .loc U15 .no y2), (5, .loc U15 .no y3), (6, .v U2 y4)]) m x0 x1 x2 x3 x4 := by
  intro m
  induction m with
  | zero => intros; rfl
  | succ m ih =>
    intro x0 x1 x2 x3 x4
    simp only [iter_succ, t44_13, loopK_normal, loopK_exit, loopK_ret, kp44_1, ih]
    rfl
theorem kp44_4 (x0 x1 x2 x3 x4) : keep [4, 5] [(0, .v U16 x0), (1, .v U29 x1), (4, .loc U15 .no x2), (5, .loc U15 .no x3), (6, .v U2 x4)] = [(4, .loc U15 .no x2), (5, .loc U15 .no x3)] := by kernel_rfl
def g44_14 {R : Type} (N : Nat) (x0 : V11) (x1 : V28) (x2 : V7) (x3 : V7) (x4 : Int) (k0 : V7 → V7 → Option R) : Option R :=
l44_14 (fun y0 y1 y2 y3 y4 => k0 y2 y3) N x0 x1 x2 x3 x4
theorem t44_14 {N cl} {R} (K : KE R) (x0 x1 x2 x3 x4) : exec cl N c44_14 [(0, .v U16 x0), (1, .v U29 x1), (4, .loc U15 .no x2), (5, .loc U15 .no x3), (6, .v U2 x4)] K = (g44_14 N x0 x1 x2 x3 x4 (fun y0 y1 => K (.exit 0) [(4, .loc U15 .no y0), (5, .loc U15 .no y1)])) := by
  simp only [c44_14, exec_out, exec_loop, kp44_1, lt44_14, kp44_4]
  rfl
theorem kp44_5 (x0 x1) : keep [4, 5] [(4, .loc U15 .no x0), (5, .loc U15 .no x1)] = [(4, .loc U15 .no x0), (5, .loc U15 .no x1)] := by kernel_rfl
def g44_16 {R : Type} (x0 : V7) (x1 : V7) (k0 : V7 → Option R) : Option R :=
k0 x1
theorem t44_16 {N cl} {R} (K : KE R) (x0 x1) : exec cl N c44_16 [(4, .loc U15 .no x0), (5, .loc U15 .no x1)] K = (g44_16 x0 x1 (fun y0 => K .normal [(4, .loc U15 .no y0)])) := by
  kernel_rfl
def g44_17 {R : Type} (N : Nat) (x0 : V11) (x1 : V28) (k0 : V7 → Option R) : Option R :=
(g44_0 x0 x1 (fun y0 y1 y2 => (g44_1 y0 y1 y2 (fun y0 y1 y2 y3 => brB y3 (g44_2 y0 y1 y2 y3) ((fun y0 y1 y2 => (g44_4 y0 y1 y2 (fun y0 y1 y2 y3 => (g44_5 y0 y1 y2 y3 (fun y0 y1 y2 y3 y4 => (g44_14 N y0 y1 y2 y3 y4 (fun y0 y1 => ((fun y0 y1 => (g44_16 y0 y1 (fun y0 => (k0 y0)))) y0 y1)))))))) y0 y1 y2)))))
theorem t44_17 {N cl} {R} (K : KE R) (x0 x1) : exec cl N c44_17 [(0, .v U16 x0), (1, .v U29 x1)] K = (g44_17 N x0 x1 (fun y0 => K .ret [(4, .loc U15 .no y0)])) := by
  simp only [c44_17, exec_seq, seqK_normal, seqK_exit, seqK_ret, t44_0, t44_1, c44_3, exec_out, exec_cond', hb44_0, Option.bind_some, brB_true, brB_false, t44_2, exec_skip, kp44_0, t44_4, t44_5, c44_15, exec_block, t44_14, blockK_normal, blockK_ret, blockK_eq, kp44_5, t44_16, exec_ret]
  rfl
theorem rk44_0 (y0 : V7) : retK d44 .ret [(4, .loc U15 .no y0)] = some [.v U15 y0] := by kernel_rfl
def g44 {R : Type} (N : Nat) (x0 : V11) (x1 : V28) (k : V7 → Option R) : Option R :=
(g44_17 N x0 x1 (fun y0 => k y0))
theorem gen44 {N : Nat} {cl : Cal} (x0 : V11) (x1 : V28) {R : Type} (k : List E → Option R) : exec cl N c44 (params 0 [.v U16 x0, .v U29 x1]) (fun e env => (retK d44 e env).bind k) = g44 N x0 x1 (fun (r0 : V7) => k [.v U15 r0]) := by
  have e0 : params 0 [.v U16 x0, .v U29 x1] = [(0, .v U16 x0), (1, .v U29 x1)] := by kernel_rfl
  simp only [c44, e0, t44_17, rk44_0, Option.bind_some]
  rfl
def ctr44 (S : V11 → V28 → Option V10) : Ctr := { A := V11 × V28 × Unit, B := V7, f := 44, enc := fun a => [.v U16 a.1, .v U29 a.2.1], dec := (decC (decV U16) (decC (decV U29) dec0)), S := fun a => S a.1 a.2.1, ent := fun b => [.v U15 b], ok := (decV_cons (T := U16) (decV_cons (T := U29) (fun es b h => dec0_some h))) }
def S44 (N : Nat) (x0 : V11) (x1 : V28) : Option V10 := g44 N x0 x1 (fun (r0 : V7) => some (r0))
def g18_0 {R : Type} (x0 : V29) (x1 : V1) (x2 : V1) (x3 : V21) (x4 : V21) (k0 : V1 → V1 → V21 → V21 → V29 → V7 → Option R) : Option R :=
k0 x1 x2 x3 x4 x0 ((0 : Int), ((0 : Int), ()))
theorem t18_0 {N cl} {R} (K : KE R) (x0 x1 x2 x3 x4) : exec cl N c18_0 [(0, .v U27 x0), (1, .v .str x1), (2, .v .str x2), (3, .v U21 x3), (4, .v U21 x4)] K = (g18_0 x0 x1 x2 x3 x4 (fun y0 y1 y2 y3 y4 y5 => K .normal [(1, .v .str y0), (2, .v .str y1), (3, .v U21 y2), (4, .v U21 y3), (5, .loc U27 .no y4), (10, .loc U15 .no y5)])) := by
  kernel_rfl
def g18_1 {R : Type} (S16 : V29 → V1 → V1 → V21 → V21 → Option V17) (x0 : V1) (x1 : V1) (x2 : V21) (x3 : V21) (x4 : V29) (x5 : V7) (k0 : V7 → V11 → Int → Option R) : Option R :=
(S16 x4 x0 x1 x2 x3).bind fun r483 =>
k0 x5 r483.1 r483.2
theorem t18_1 {N cl} (S16) (h16 : (ctr16 S16).holds cl) {R} (K : KE R) (x0 x1 x2 x3 x4 x5) : exec cl N c18_1 [(1, .v .str x0), (2, .v .str x1), (3, .v U21 x2), (4, .v U21 x3), (5, .loc U27 .no x4), (10, .loc U15 .no x5)] K = (g18_1 S16 x0 x1 x2 x3 x4 x5 (fun y0 y1 y2 => K .normal [(10, .loc U15 .no y0), (12, .own true 45 U15 .no y1), (13, .v U2 y2)])) := by
  rw [← put_eq h16]
  kernel_rfl
def g18_2 {R : Type} (x0 : V7) (x1 : V11) (x2 : Int) (k0 : V7 → V11 → Int → Bool → Option R) : Option R :=
k0 x0 x1 x2 (x2 != (0 : Int))
theorem t18_2 {N cl} {R} (K : KE R) (x0 x1 x2) : exec cl N c18_2 [(10, .loc U15 .no x0), (12, .own true 45 U15 .no x1), (13, .v U2 x2)] K = (g18_2 x0 x1 x2 (fun y0 y1 y2 y3 => K .normal [(10, .loc U15 .no y0), (12, .own true 45 U15 .no y1), (13, .v U2 y2), (24, .v .bool y3)])) := by
  kernel_rfl
def g18_3 {R : Type} (x0 : V7) (x1 : V11) (x2 : Int) (x3 : Bool) (k0 : V7 → Int → Option R) : Option R :=
k0 ((0 : Int), (0 : Int), ()) x2
theorem t18_3 {N cl} {R} (K : KE R) (x0 x1 x2 x3) : exec cl N c18_3 [(10, .loc U15 .no x0), (12, .own true 45 U15 .no x1), (13, .v U2 x2), (24, .v .bool x3)] K = (g18_3 x0 x1 x2 x3 (fun y0 y1 => K .normal [(10, .loc U15 .no y0), (11, .v U2 y1)])) := by
  kernel_rfl
theorem kp18_0 (x0 x1) : keep [10, 11, 12] [(10, .loc U15 .no x0), (11, .v U2 x1)] = [(10, .loc U15 .no x0), (11, .v U2 x1), (12, .dead)] := by kernel_rfl
theorem kp18_1 (x0 x1 x2 x3) : keep [10, 11, 12] [(10, .loc U15 .no x0), (12, .own true 45 U15 .no x1), (13, .v U2 x2), (24, .v .bool x3)] = [(10, .loc U15 .no x0), (11, .dead), (12, .own true 45 U15 .no x1)] := by kernel_rfl
theorem hb18_0 (x0 : V7) (x1 : V11) (x2 : Int) (x3 : Bool) : boolOf? (ent [(10, .loc U15 .no x0), (12, .own true 45 U15 .no x1), (13, .v U2 x2), (24, .v .bool x3)] (.t 24)) = some x3 := by kernel_rfl
def g18_5 {R : Type} (x0 : V7) (x1 : V11) (k0 : V7 → V11 → Bool → Option R) : Option R :=
k0 x0 x1 ((x1.length : Int) == (0 : Int))
theorem t18_5 {N cl} {R} (K : KE R) (x0 x1) : exec cl N c18_5 [(10, .loc U15 .no x0), (11, .dead), (12, .own true 45 U15 .no x1)] K = (g18_5 x0 x1 (fun y0 y1 y2 => K .normal [(10, .loc U15 .no y0), (12, .own true 45 U15 .no y1), (29, .v .bool y2)])) := by
  kernel_rfl
def g18_6 {R : Type} (x0 : V7) (x1 : V11) (x2 : Bool) (k0 : V7 → Int → Option R) : Option R :=
k0 ((0 : Int), (0 : Int), ()) (10 : Int)
theorem t18_6 {N cl} {R} (K : KE R) (x0 x1 x2) : exec cl N c18_6 [(10, .loc U15 .no x0), (12, .own true 45 U15 .no x1), (29, .v .bool x2)] K = (g18_6 x0 x1 x2 (fun y0 y1 => K .normal [(10, .loc U15 .no y0), (11, .v U2 y1)])) := by
  kernel_rfl
theorem kp18_2 (x0 x1 x2) : keep [10, 11, 12] [(10, .loc U15 .no x0), (12, .own true 45 U15 .no x1), (29, .v .bool x2)] = [(10, .loc U15 .no x0), (11, .dead), (12, .own true 45 U15 .no x1)] := by kernel_rfl
theorem hb18_1 (x0 : V7) (x1 : V11) (x2 : Bool) : boolOf? (ent [(10, .loc U15 .no x0), (12, .own true 45 U15 .no x1), (29, .v .bool x2)] (.t 29)) = some x2 := by kernel_rfl
def g18_8 {R : Type} (S44 : V11 → V28 → Option V10) (S45 : V7 → V7 → Option (Int)) (x0 : V7) (x1 : V11) (k0 : V7 → Int → Option R) : Option R :=
(S44 x1 (fun (x488 : (V7 × V16)) => ((S45 x488.1 x488.2.1).bind fun b489 => some [.v U2 b489]).bind (unE U2))).bind fun r490 =>
k0 r490 (0 : Int)
theorem t18_8 {N cl} (S44) (S45) (h44 : (ctr44 S44).holds cl) (h45 : (ctr45 S45).holds cl) {R} (K : KE R) (x0 x1) : exec cl N c18_8 [(10, .loc U15 .no x0), (11, .dead), (12, .own true 45 U15 .no x1)] K = (g18_8 S44 S45 x0 x1 (fun y0 y1 => K .normal [(10, .loc U15 .no y0), (11, .v U2 y1)])) := by
  rw [← put_eq h44]
  rw [← put_eq h45]
  kernel_rfl
def g18_9 {R : Type} (S16 : V29 → V1 → V1 → V21 → V21 → Option V17) (S44 : V11 → V28 → Option V10) (S45 : V7 → V7 → Option (Int)) (x0 : V29) (x1 : V1) (x2 : V1) (x3 : V21) (x4 : V21) (k0 : V7 → Int → Option R) (k1 : V7 → Int → Option R) : Option R :=
(g18_0 x0 x1 x2 x3 x4 (fun y0 y1 y2 y3 y4 y5 => (g18_1 S16 y0 y1 y2 y3 y4 y5 (fun y0 y1 y2 => (g18_2 y0 y1 y2 (fun y0 y1 y2 y3 => brB y3 (g18_3 y0 y1 y2 y3 (fun y0 y1 => ((fun y0 y1 => (k0 y0 y1)) y0 y1))) ((fun y0 y1 => (g18_5 y0 y1 (fun y0 y1 y2 => brB y2 (g18_6 y0 y1 y2 (fun y0 y1 => ((fun y0 y1 => (k0 y0 y1)) y0 y1))) ((fun y0 y1 => (g18_8 S44 S45 y0 y1 (fun y0 y1 => (k1 y0 y1)))) y0 y1)))) y0 y1)))))))
theorem t18_9 {N cl} (S16) (S44) (S45) (h16 : (ctr16 S16).holds cl) (h44 : (ctr44 S44).holds cl) (h45 : (ctr45 S45).holds cl) {R} (K : KE R) (x0 x1 x2 x3 x4) : exec cl N c18_9 [(0, .v U27 x0), (1, .v .str x1), (2, .v .str x2), (3, .v U21 x3), (4, .v U21 x4)] K = (g18_9 S16 S44 S45 x0 x1 x2 x3 x4 (fun y0 y1 => K .ret [(10, .loc U15 .no y0), (11, .v U2 y1), (12, .dead)]) (fun y0 y1 => K .ret [(10, .loc U15 .no y0), (11, .v U2 y1)])) := by
  simp only [c18_9, exec_seq, seqK_normal, seqK_exit, seqK_ret, t18_0, t18_1 S16 h16, t18_2, c18_4, exec_out, exec_cond', hb18_0, Option.bind_some, brB_true, brB_false, t18_3, exec_ret, exec_skip, kp18_0, kp18_1, t18_5, c18_7, hb18_1, t18_6, kp18_2, t18_8 S44 S45 h44 h45]
  rfl
theorem rk18_0 (y0 : V7) (y1 : Int) : retK d18 .ret [(10, .loc U15 .no y0), (11, .v U2 y1), (12, .dead)] = some [.v U15 y0, .v U2 y1] := by kernel_rfl
theorem rk18_1 (y0 : V7) (y1 : Int) : retK d18 .ret [(10, .loc U15 .no y0), (11, .v U2 y1)] = some [.v U15 y0, .v U2 y1] := by kernel_rfl
def g18 {R : Type} (S16 : V29 → V1 → V1 → V21 → V21 → Option V17) (S44 : V11 → V28 → Option V10) (S45 : V7 → V7 → Option (Int)) (x0 : V29) (x1 : V1) (x2 : V1) (x3 : V21) (x4 : V21) (k : V7 → Int → Option R) : Option R :=
(g18_9 S16 S44 S45 x0 x1 x2 x3 x4 (fun y0 y1 => k y0 y1) (fun y0 y1 => k y0 y1))
theorem gen18 {N : Nat} {cl : Cal} (S16 : V29 → V1 → V1 → V21 → V21 → Option V17) (S44 : V11 → V28 → Option V10) (S45 : V7 → V7 → Option (Int)) (h16 : (ctr16 S16).holds cl) (h44 : (ctr44 S44).holds cl) (h45 : (ctr45 S45).holds cl) (x0 : V29) (x1 : V1) (x2 : V1) (x3 : V21) (x4 : V21) {R : Type} (k : List E → Option R) : exec cl N c18 (params 0 [.v U27 x0, .v .str x1, .v .str x2, .v U21 x3, .v U21 x4]) (fun e env => (retK d18 e env).bind k) = g18 S16 S44 S45 x0 x1 x2 x3 x4 (fun (r0 : V7) (r1 : Int) => k [.v U15 r0, .v U2 r1]) := by
  have e0 : params 0 [.v U27 x0, .v .str x1, .v .str x2, .v U21 x3, .v U21 x4] = [(0, .v U27 x0), (1, .v .str x1), (2, .v .str x2), (3, .v U21 x3), (4, .v U21 x4)] := by kernel_rfl
  simp only [c18, e0, t18_9 S16 S44 S45 h16 h44 h45, rk18_0, rk18_1, Option.bind_some]
  rfl
def ctr18 (S : V29 → V1 → V1 → V21 → V21 → Option V14) : Ctr := { A := V29 × V1 × V1 × V21 × V21 × Unit, B := V7 × Int, f := 18, enc := fun a => [.v U27 a.1, .v .str a.2.1, .v .str a.2.2.1, .v U21 a.2.2.2.1, .v U21 a.2.2.2.2.1], dec := (decC (decV U27) (decC (decV .str) (decC (decV .str) (decC (decV U21) (decC (decV U21) dec0))))), S := fun a => S a.1 a.2.1 a.2.2.1 a.2.2.2.1 a.2.2.2.2.1, ent := fun b => [.v U15 b.1, .v U2 b.2], ok := (decV_cons (T := U27) (decV_cons (T := .str) (decV_cons (T := .str) (decV_cons (T := U21) (decV_cons (T := U21) (fun es b h => dec0_some h)))))) }
def S18 (N : Nat) (x0 : V29) (x1 : V1) (x2 : V1) (x3 : V21) (x4 : V21) : Option V14 := g18 (S16 N) (S44 N) (S45 N) x0 x1 x2 x3 x4 (fun (r0 : V7) (r1 : Int) => some (r0, r1))
def g47_0 {R : Type} (x0 : V11) (x1 : V7) (k0 : V11 → V7 → Option R) : Option R :=
k0 x0 x1
theorem t47_0 {N cl} {R} (K : KE R) (x0 x1) : exec cl N c47_0 [(0, .v U16 x0), (1, .v U15 x1)] K = (g47_0 x0 x1 (fun y0 y1 => K .normal [(0, .v U16 y0), (3, .loc U15 .no y1)])) := by
  kernel_rfl
def g47_1 {R : Type} (x0 : V11) (x1 : V7) (k0 : V11 → V7 → Int → Int → Option R) : Option R :=
k0 x0 x1 (x0.length : Int) (0 : Int)
theorem t47_1 {N cl} {R} (K : KE R) (x0 x1) : exec cl N c47_1 [(0, .v U16 x0), (3, .loc U15 .no x1)] K = (g47_1 x0 x1 (fun y0 y1 y2 y3 => K .normal [(0, .v U16 y0), (3, .loc U15 .no y1), (7, .v U2 y2), (8, .v U2 y3)])) := by
  kernel_rfl
theorem kp47_0 (x0 x1 x2 x3) : keep [0, 3, 7, 8] [(0, .v U16 x0), (3, .loc U15 .no x1), (7, .v U2 x2), (8, .v U2 x3)] = [(0, .v U16 x0), (3, .loc U15 .no x1), (7, .v U2 x2), (8, .v U2 x3)] := by kernel_rfl
def g47_2 {R : Type} (x0 : V11) (x1 : V7) (x2 : Int) (x3 : Int) (k0 : V11 → V7 → Int → Int → Bool → Option R) : Option R :=
k0 x0 x1 x2 x3 (decide (x3 < x2))
theorem t47_2 {N cl} {R} (K : KE R) (x0 x1 x2 x3) : exec cl N c47_2 [(0, .v U16 x0), (3, .loc U15 .no x1), (7, .v U2 x2), (8, .v U2 x3)] K = (g47_2 x0 x1 x2 x3 (fun y0 y1 y2 y3 y4 => K .normal [(0, .v U16 y0), (3, .loc U15 .no y1), (7, .v U2 y2), (8, .v U2 y3), (9, .v .bool y4)])) := by
  kernel_rfl
theorem kp47_1 (x0 x1 x2 x3 x4) : keep [0, 3, 7, 8] [(0, .v U16 x0), (3, .loc U15 .no x1), (7, .v U2 x2), (8, .v U2 x3), (9, .v .bool x4)] = [(0, .v U16 x0), (3, .loc U15 .no x1), (7, .v U2 x2), (8, .v U2 x3)] := by kernel_rfl
theorem hb47_0 (x0 : V11) (x1 : V7) (x2 : Int) (x3 : Int) (x4 : Bool) : boolOf? (ent [(0, .v U16 x0), (3, .loc U15 .no x1), (7, .v U2 x2), (8, .v U2 x3), (9, .v .bool x4)] (.t 9)) = some x4 := by kernel_rfl
def g47_4 {R : Type} (x0 : V11) (x1 : V7) (x2 : Int) (x3 : Int) (k0 : V11 → V7 → Int → Int → Int → Option R) : Option R :=
k0 x0 x1 x3 x2 x3
theorem t47_4 {N cl} {R} (K : KE R) (x0 x1 x2 x3) : exec cl N c47_4 [(0, .v U16 x0), (3, .loc U15 .no x1), (7, .v U2 x2), (8, .v U2 x3)] K = (g47_4 x0 x1 x2 x3 (fun y0 y1 y2 y3 y4 => K .normal [(0, .v U16 y0), (3, .loc U15 .no y1), (5, .v U2 y2), (7, .v U2 y3), (8, .v U2 y4)])) := by
  kernel_rfl
def g47_5 {R : Type} (x0 : V11) (x1 : V7) (x2 : Int) (x3 : Int) (x4 : Int) (k0 : V11 → V7 → Int → Int → Int → Bool → Option R) : Option R :=
if 0 ≤ x2 ∧ x2 < (x0.length : Int) then
k0 x0 x1 x2 x3 x4 ((x1.1 == (x0.getD x2.toNat ((0 : Int), ((0 : Int), ()))).1) && ((x1.2.1 == (x0.getD x2.toNat ((0 : Int), ((0 : Int), ()))).2.1) && true))
else none
theorem t47_5 {N cl} {R} (K : KE R) (x0 x1 x2 x3 x4) : exec cl N c47_5 [(0, .v U16 x0), (3, .loc U15 .no x1), (5, .v U2 x2), (7, .v U2 x3), (8, .v U2 x4)] K = (g47_5 x0 x1 x2 x3 x4 (fun y0 y1 y2 y3 y4 y5 => K .normal [(0, .v U16 y0), (3, .loc U15 .no y1), (5, .v U2 y2), (7, .v U2 y3), (8, .v U2 y4), (16, .v .bool y5)])) := by
  kernel_rfl
def g47_6 {R : Type} (x0 : V11) (x1 : V7) (x2 : Int) (x3 : Int) (x4 : Int) (x5 : Bool) (k0 : Int → Option R) : Option R :=
k0 x2
theorem t47_6 {N cl} {R} (K : KE R) (x0 x1 x2 x3 x4 x5) : exec cl N c47_6 [(0, .v U16 x0), (3, .loc U15 .no x1), (5, .v U2 x2), (7, .v U2 x3), (8, .v U2 x4), (16, .v .bool x5)] K = (g47_6 x0 x1 x2 x3 x4 x5 (fun y0 => K .normal [(4, .v U2 y0)])) := by
  kernel_rfl
theorem kp47_2 (x0) : keep [0, 3, 4, 7, 8] [(4, .v U2 x0)] = [(0, .dead), (3, .dead), (4, .v U2 x0), (7, .dead), (8, .dead)] := by kernel_rfl
theorem kp47_3 (x0 x1 x2 x3 x4 x5) : keep [0, 3, 4, 7, 8] [(0, .v U16 x0), (3, .loc U15 .no x1), (5, .v U2 x2), (7, .v U2 x3), (8, .v U2 x4), (16, .v .bool x5)] = [(0, .v U16 x0), (3, .loc U15 .no x1), (4, .dead), (7, .v U2 x3), (8, .v U2 x4)] := by kernel_rfl
theorem hb47_1 (x0 : V11) (x1 : V7) (x2 : Int) (x3 : Int) (x4 : Int) (x5 : Bool) : boolOf? (ent [(0, .v U16 x0), (3, .loc U15 .no x1), (5, .v U2 x2), (7, .v U2 x3), (8, .v U2 x4), (16, .v .bool x5)] (.t 16)) = some x5 := by kernel_rfl
theorem kp47_4 (x0) : keep [0, 3, 4, 7, 8] [(0, .dead), (3, .dead), (4, .v U2 x0), (7, .dead), (8, .dead)] = [(0, .dead), (3, .dead), (4, .v U2 x0), (7, .dead), (8, .dead)] := by kernel_rfl
theorem kp47_5 (x0 x1 x2 x3) : keep [0, 3, 4, 7, 8] [(0, .v U16 x0), (3, .loc U15 .no x1), (4, .dead), (7, .v U2 x2), (8, .v U2 x3)] = [(0, .v U16 x0), (3, .loc U15 .no x1), (4, .dead), (7, .v U2 x2), (8, .v U2 x3)] := by kernel_rfl
def g47_9 {R : Type} (x0 : V11) (x1 : V7) (x2 : Int) (x3 : Int) (k0 : V11 → V7 → Int → Int → Option R) : Option R :=
k0 x0 x1 x2 (IntKind.i64.wrap (x3 + (1 : Int)))
theorem t47_9 {N cl} {R} (K : KE R) (x0 x1 x2 x3) : exec cl N c47_9 [(0, .v U16 x0), (3, .loc U15 .no x1), (4, .dead), (7, .v U2 x2), (8, .v U2 x3)] K = (g47_9 x0 x1 x2 x3 (fun y0 y1 y2 y3 => K .normal [(0, .v U16 y0), (3, .loc U15 .no y1), (7, .v U2 y2), (8, .v U2 y3)])) := by
  kernel_rfl
def g47_10 {R : Type} (x0 : V11) (x1 : V7) (x2 : Int) (x3 : Int) (k0 : Int → Option R) (k1 : V11 → V7 → Int → Int → Option R) (k2 : V11 → V7 → Int → Int → Option R) : Option R :=
(g47_2 x0 x1 x2 x3 (fun y0 y1 y2 y3 y4 => brB y4 ((fun y0 y1 y2 y3 => (g47_4 y0 y1 y2 y3 (fun y0 y1 y2 y3 y4 => (g47_5 y0 y1 y2 y3 y4 (fun y0 y1 y2 y3 y4 y5 => brB y5 (g47_6 y0 y1 y2 y3 y4 y5 (fun y0 => ((fun y0 => (k0 y0)) y0))) (g47_9 y0 y1 y3 y4 k1)))))) y0 y1 y2 y3) (k2 y0 y1 y2 y3)))
theorem t47_10 {N cl} {R} (K : KE R) (x0 x1 x2 x3) : exec cl N c47_10 [(0, .v U16 x0), (3, .loc U15 .no x1), (7, .v U2 x2), (8, .v U2 x3)] K = (g47_10 x0 x1 x2 x3 (fun y0 => K .ret [(0, .dead), (3, .dead), (4, .v U2 y0), (7, .dead), (8, .dead)]) (fun y0 y1 y2 y3 => K .normal [(0, .v U16 y0), (3, .loc U15 .no y1), (7, .v U2 y2), (8, .v U2 y3)]) (fun y0 y1 y2 y3 => K (.exit 0) [(0, .v U16 y0), (3, .loc U15 .no y1), (7, .v U2 y2), (8, .v U2 y3)])) := by
  simp only [c47_10, exec_seq, seqK_normal, seqK_exit, seqK_ret, t47_2, c47_3, exec_out, exec_cond', hb47_0, Option.bind_some, brB_true, brB_false, exec_skip, exec_exit, kp47_1, c47_8, exec_block, t47_4, t47_5, c47_7, hb47_1, t47_6, exec_ret, kp47_2, kp47_3, blockK_normal, blockK_ret, blockK_eq, kp47_4, kp47_5, t47_9]
  rfl
def l47_11 {R : Type} (k0 : Int → Option R) (k1 : V11 → V7 → Int → Int → Option R) : Nat → V11 → V7 → Int → Int → Option R
  | 0, _, _, _, _ => none
  | m + 1, x0, x1, x2, x3 => (g47_10 x0 x1 x2 x3 k0 (fun y0 y1 y2 y3 => l47_11 k0 k1 m y0 y1 y2 y3) k1)
theorem lt47_11 {N cl} {R} (K : KE R) : ∀ (m) (x0 x1 x2 x3), iter [0, 3, 7, 8] (fun env K => exec cl N c47_10 env K) K m [(0, .v U16 x0), (3, .loc U15 .no x1), (7, .v U2 x2), (8, .v U2 x3)] = l47_11 (fun y0 => K .ret [(0, .dead), (3, .dead), (4, .v U2 y0), (7, .dead), (8, .dead)]) (fun y0 y1 y2 y3 => K (.exit 0) [(0, .v U16 y0), (3, .loc U15 .no y1), (7, .v U2 y2), (8, .v U2 y3)]) m x0 x1 x2 x3 := by
  intro m
  induction m with
  | zero => intros; rfl
  | succ m ih =>
    intro x0 x1 x2 x3
    simp only [iter_succ, t47_10, loopK_normal, loopK_exit, loopK_ret, kp47_0, ih]
    rfl
theorem kp47_6 (x0) : keep [4] [(0, .dead), (3, .dead), (4, .v U2 x0), (7, .dead), (8, .dead)] = [(4, .v U2 x0)] := by kernel_rfl
theorem kp47_7 (x0 x1 x2 x3) : keep [4] [(0, .v U16 x0), (3, .loc U15 .no x1), (7, .v U2 x2), (8, .v U2 x3)] = [(4, .dead)] := by kernel_rfl
def g47_11 {R : Type} (N : Nat) (x0 : V11) (x1 : V7) (x2 : Int) (x3 : Int) (k0 : Int → Option R) (k1 : Option R) : Option R :=
l47_11 (fun y0 => k0 y0) (fun y0 y1 y2 y3 => k1) N x0 x1 x2 x3
theorem t47_11 {N cl} {R} (K : KE R) (x0 x1 x2 x3) : exec cl N c47_11 [(0, .v U16 x0), (3, .loc U15 .no x1), (7, .v U2 x2), (8, .v U2 x3)] K = (g47_11 N x0 x1 x2 x3 (fun y0 => K .ret [(4, .v U2 y0)]) (K (.exit 0) [(4, .dead)])) := by
  simp only [c47_11, exec_out, exec_loop, kp47_0, lt47_11, kp47_6, kp47_7]
  rfl
theorem kp47_8 (x0) : keep [4] [(4, .v U2 x0)] = [(4, .v U2 x0)] := by kernel_rfl
theorem kp47_9 : keep [4] [(4, .dead)] = [(4, .dead)] := by kernel_rfl
def g47_13 {R : Type} (k0 : Int → Option R) : Option R :=
k0 (-1 : Int)
theorem t47_13 {N cl} {R} (K : KE R) : exec cl N c47_13 [(4, .dead)] K = (g47_13 (fun y0 => K .normal [(4, .v U2 y0)])) := by
  kernel_rfl
def g47_14 {R : Type} (N : Nat) (x0 : V11) (x1 : V7) (k0 : Int → Option R) : Option R :=
(g47_0 x0 x1 (fun y0 y1 => (g47_1 y0 y1 (fun y0 y1 y2 y3 => (g47_11 N y0 y1 y2 y3 (fun y0 => (k0 y0)) (g47_13 (fun y0 => (k0 y0))))))))
theorem t47_14 {N cl} {R} (K : KE R) (x0 x1) : exec cl N c47_14 [(0, .v U16 x0), (1, .v U15 x1)] K = (g47_14 N x0 x1 (fun y0 => K .ret [(4, .v U2 y0)])) := by
  simp only [c47_14, exec_seq, seqK_normal, seqK_exit, seqK_ret, t47_0, t47_1, c47_12, exec_out, exec_block, t47_11, blockK_normal, blockK_ret, blockK_eq, kp47_8, kp47_9, t47_13, exec_ret]
  rfl
theorem rk47_0 (y0 : Int) : retK d47 .ret [(4, .v U2 y0)] = some [.v U2 y0] := by kernel_rfl
def g47 {R : Type} (N : Nat) (x0 : V11) (x1 : V7) (k : Int → Option R) : Option R :=
(g47_14 N x0 x1 (fun y0 => k y0))
theorem gen47 {N : Nat} {cl : Cal} (x0 : V11) (x1 : V7) {R : Type} (k : List E → Option R) : exec cl N c47 (params 0 [.v U16 x0, .v U15 x1]) (fun e env => (retK d47 e env).bind k) = g47 N x0 x1 (fun (r0 : Int) => k [.v U2 r0]) := by
  have e0 : params 0 [.v U16 x0, .v U15 x1] = [(0, .v U16 x0), (1, .v U15 x1)] := by kernel_rfl
  simp only [c47, e0, t47_14, rk47_0, Option.bind_some]
  rfl
def ctr47 (S : V11 → V7 → Option (Int)) : Ctr := { A := V11 × V7 × Unit, B := Int, f := 47, enc := fun a => [.v U16 a.1, .v U15 a.2.1], dec := (decC (decV U16) (decC (decV U15) dec0)), S := fun a => S a.1 a.2.1, ent := fun b => [.v U2 b], ok := (decV_cons (T := U16) (decV_cons (T := U15) (fun es b h => dec0_some h))) }
def S47 (N : Nat) (x0 : V11) (x1 : V7) : Option (Int) := g47 N x0 x1 (fun (r0 : Int) => some (r0))
def g22_0 {R : Type} (x0 : V11) (x1 : V7) (k0 : V11 → V7 → Option R) : Option R :=
k0 x0 x1
theorem t22_0 {N cl} {R} (K : KE R) (x0 x1) : exec cl N c22_0 [(0, .v U16 x0), (1, .v U15 x1)] K = (g22_0 x0 x1 (fun y0 y1 => K .normal [(0, .v U16 y0), (3, .loc U15 .no y1)])) := by
  kernel_rfl
def g22_1 {R : Type} (S47 : V11 → V7 → Option (Int)) (x0 : V11) (x1 : V7) (k0 : Bool → Option R) : Option R :=
(S47 x0 x1).bind fun r508 =>
k0 (decide (r508 ≥ (0 : Int)))
theorem t22_1 {N cl} (S47) (h47 : (ctr47 S47).holds cl) {R} (K : KE R) (x0 x1) : exec cl N c22_1 [(0, .v U16 x0), (3, .loc U15 .no x1)] K = (g22_1 S47 x0 x1 (fun y0 => K .normal [(4, .v .bool y0)])) := by
  rw [← put_eq h47]
  kernel_rfl
def g22_2 {R : Type} (S47 : V11 → V7 → Option (Int)) (x0 : V11) (x1 : V7) (k0 : Bool → Option R) : Option R :=
(g22_0 x0 x1 (fun y0 y1 => (g22_1 S47 y0 y1 (fun y0 => (k0 y0)))))
theorem t22_2 {N cl} (S47) (h47 : (ctr47 S47).holds cl) {R} (K : KE R) (x0 x1) : exec cl N c22_2 [(0, .v U16 x0), (1, .v U15 x1)] K = (g22_2 S47 x0 x1 (fun y0 => K .ret [(4, .v .bool y0)])) := by
  simp only [c22_2, exec_seq, seqK_normal, seqK_exit, seqK_ret, t22_0, t22_1 S47 h47, exec_ret]
  rfl
theorem rk22_0 (y0 : Bool) : retK d22 .ret [(4, .v .bool y0)] = some [.v .bool y0] := by kernel_rfl
def g22 {R : Type} (S47 : V11 → V7 → Option (Int)) (x0 : V11) (x1 : V7) (k : Bool → Option R) : Option R :=
(g22_2 S47 x0 x1 (fun y0 => k y0))
theorem gen22 {N : Nat} {cl : Cal} (S47 : V11 → V7 → Option (Int)) (h47 : (ctr47 S47).holds cl) (x0 : V11) (x1 : V7) {R : Type} (k : List E → Option R) : exec cl N c22 (params 0 [.v U16 x0, .v U15 x1]) (fun e env => (retK d22 e env).bind k) = g22 S47 x0 x1 (fun (r0 : Bool) => k [.v .bool r0]) := by
  have e0 : params 0 [.v U16 x0, .v U15 x1] = [(0, .v U16 x0), (1, .v U15 x1)] := by kernel_rfl
  simp only [c22, e0, t22_2 S47 h47, rk22_0, Option.bind_some]
  rfl
def ctr22 (S : V11 → V7 → Option (Bool)) : Ctr := { A := V11 × V7 × Unit, B := Bool, f := 22, enc := fun a => [.v U16 a.1, .v U15 a.2.1], dec := (decC (decV U16) (decC (decV U15) dec0)), S := fun a => S a.1 a.2.1, ent := fun b => [.v .bool b], ok := (decV_cons (T := U16) (decV_cons (T := U15) (fun es b h => dec0_some h))) }
def S22 (N : Nat) (x0 : V11) (x1 : V7) : Option (Bool) := g22 (S47 N) x0 x1 (fun (r0 : Bool) => some (r0))
def g24_0 {R : Type} (x0 : V7) (x1 : V7) (k0 : V7 → V7 → Option R) : Option R :=
k0 x1 x0
theorem t24_0 {N cl} {R} (K : KE R) (x0 x1) : exec cl N c24_0 [(0, .v U15 x0), (1, .at U15 x1)] K = (g24_0 x0 x1 (fun y0 y1 => K .normal [(1, .at U15 y0), (2, .loc U15 .no y1)])) := by
  kernel_rfl
def g24_1 {R : Type} (x0 : V7) (x1 : V7) (k0 : Bool → Option R) : Option R :=
k0 (decide (x1.2.1 < x0.2.1))
theorem t24_1 {N cl} {R} (K : KE R) (x0 x1) : exec cl N c24_1 [(1, .at U15 x0), (2, .loc U15 .no x1)] K = (g24_1 x0 x1 (fun y0 => K .normal [(3, .v .bool y0)])) := by
  kernel_rfl
def g24_2 {R : Type} (x0 : V7) (x1 : V7) (k0 : Bool → Option R) : Option R :=
(g24_0 x0 x1 (fun y0 y1 => (g24_1 y0 y1 (fun y0 => (k0 y0)))))
theorem t24_2 {N cl} {R} (K : KE R) (x0 x1) : exec cl N c24_2 [(0, .v U15 x0), (1, .at U15 x1)] K = (g24_2 x0 x1 (fun y0 => K .ret [(3, .v .bool y0)])) := by
  simp only [c24_2, exec_seq, seqK_normal, seqK_exit, seqK_ret, t24_0, t24_1, exec_ret]
  rfl
theorem rk24_0 (y0 : Bool) : retK d24 .ret [(3, .v .bool y0)] = some [.v .bool y0] := by kernel_rfl
def g24 {R : Type} (x0 : V7) (x1 : V7) (k : Bool → Option R) : Option R :=
(g24_2 x0 x1 (fun y0 => k y0))
theorem gen24 {N : Nat} {cl : Cal} (x0 : V7) (x1 : V7) {R : Type} (k : List E → Option R) : exec cl N c24 (params 0 [.v U15 x0, .at U15 x1]) (fun e env => (retK d24 e env).bind k) = g24 x0 x1 (fun (r0 : Bool) => k [.v .bool r0]) := by
  have e0 : params 0 [.v U15 x0, .at U15 x1] = [(0, .v U15 x0), (1, .at U15 x1)] := by kernel_rfl
  simp only [c24, e0, t24_2, rk24_0, Option.bind_some]
  rfl
def ctr24 (S : V7 → V7 → Option (Bool)) : Ctr := { A := V7 × V7 × Unit, B := Bool, f := 24, enc := fun a => [.v U15 a.1, .at U15 a.2.1], dec := (decC (decV U15) (decC (decA U15) dec0)), S := fun a => S a.1 a.2.1, ent := fun b => [.v .bool b], ok := (decV_cons (T := U15) (decA_cons (T := U15) (fun es b h => dec0_some h))) }
def S24 (N : Nat) (x0 : V7) (x1 : V7) : Option (Bool) := g24 x0 x1 (fun (r0 : Bool) => some (r0))
def g48_0 {R : Type} (x0 : V11) (x1 : V23) (k0 : V11 → V23 → Option R) : Option R :=
k0 x0 x1
theorem t48_0 {N cl} {R} (K : KE R) (x0 x1) : exec cl N c48_0 [(0, .v U16 x0), (1, .v U23 x1)] K = (g48_0 x0 x1 (fun y0 y1 => K .normal [(0, .v U16 y0), (1, .v U23 y1)])) := by
  kernel_rfl
def g48_1 {R : Type} (x0 : V11) (x1 : V23) (k0 : V11 → V23 → Int → Int → Option R) : Option R :=
k0 x0 x1 (x0.length : Int) (0 : Int)
theorem t48_1 {N cl} {R} (K : KE R) (x0 x1) : exec cl N c48_1 [(0, .v U16 x0), (1, .v U23 x1)] K = (g48_1 x0 x1 (fun y0 y1 y2 y3 => K .normal [(0, .v U16 y0), (1, .v U23 y1), (7, .v U2 y2), (8, .v U2 y3)])) := by
  kernel_rfl
theorem kp48_0 (x0 x1 x2 x3) : keep [0, 1, 7, 8] [(0, .v U16 x0), (1, .v U23 x1), (7, .v U2 x2), (8, .v U2 x3)] = [(0, .v U16 x0), (1, .v U23 x1), (7, .v U2 x2), (8, .v U2 x3)] := by kernel_rfl
def g48_2 {R : Type} (x0 : V11) (x1 : V23) (x2 : Int) (x3 : Int) (k0 : V11 → V23 → Int → Int → Bool → Option R) : Option R :=
k0 x0 x1 x2 x3 (decide (x3 < x2))
theorem t48_2 {N cl} {R} (K : KE R) (x0 x1 x2 x3) : exec cl N c48_2 [(0, .v U16 x0), (1, .v U23 x1), (7, .v U2 x2), (8, .v U2 x3)] K = (g48_2 x0 x1 x2 x3 (fun y0 y1 y2 y3 y4 => K .normal [(0, .v U16 y0), (1, .v U23 y1), (7, .v U2 y2), (8, .v U2 y3), (9, .v .bool y4)])) := by
  kernel_rfl
theorem kp48_1 (x0 x1 x2 x3 x4) : keep [0, 1, 7, 8] [(0, .v U16 x0), (1, .v U23 x1), (7, .v U2 x2), (8, .v U2 x3), (9, .v .bool x4)] = [(0, .v U16 x0), (1, .v U23 x1), (7, .v U2 x2), (8, .v U2 x3)] := by kernel_rfl
theorem hb48_0 (x0 : V11) (x1 : V23) (x2 : Int) (x3 : Int) (x4 : Bool) : boolOf? (ent [(0, .v U16 x0), (1, .v U23 x1), (7, .v U2 x2), (8, .v U2 x3), (9, .v .bool x4)] (.t 9)) = some x4 := by kernel_rfl
def g48_4 {R : Type} (x0 : V11) (x1 : V23) (x2 : Int) (x3 : Int) (k0 : V11 → V23 → Int → Int → Int → Option R) : Option R :=
k0 x0 x1 x3 x2 x3
theorem t48_4 {N cl} {R} (K : KE R) (x0 x1 x2 x3) : exec cl N c48_4 [(0, .v U16 x0), (1, .v U23 x1), (7, .v U2 x2), (8, .v U2 x3)] K = (g48_4 x0 x1 x2 x3 (fun y0 y1 y2 y3 y4 => K .normal [(0, .v U16 y0), (1, .v U23 y1), (5, .v U2 y2), (7, .v U2 y3), (8, .v U2 y4)])) := by
  kernel_rfl
def g48_5 {R : Type} (x0 : V11) (x1 : V23) (x2 : Int) (x3 : Int) (x4 : Int) (k0 : V11 → V23 → Int → Int → Int → Bool → Option R) : Option R :=
if 0 ≤ x2 ∧ x2 < (x0.length : Int) then
(x1 ((x0.getD x2.toNat ((0 : Int), ((0 : Int), ()))), ())).bind fun r519 =>
k0 x0 x1 x2 x3 x4 r519
else none
theorem t48_5 {N cl} {R} (K : KE R) (x0 x1 x2 x3 x4) : exec cl N c48_5 [(0, .v U16 x0), (1, .v U23 x1), (5, .v U2 x2), (7, .v U2 x3), (8, .v U2 x4)] K = (g48_5 x0 x1 x2 x3 x4 (fun y0 y1 y2 y3 y4 y5 => K .normal [(0, .v U16 y0), (1, .v U23 y1), (5, .v U2 y2), (7, .v U2 y3), (8, .v U2 y4), (16, .v .bool y5)])) := by
  kernel_rfl
def g48_6 {R : Type} (x0 : V11) (x1 : V23) (x2 : Int) (x3 : Int) (x4 : Int) (x5 : Bool) (k0 : Int → Option R) : Option R :=
k0 x2
theorem t48_6 {N cl} {R} (K : KE R) (x0 x1 x2 x3 x4 x5) : exec cl N c48_6 [(0, .v U16 x0), (1, .v U23 x1), (5, .v U2 x2), (7, .v U2 x3), (8, .v U2 x4), (16, .v .bool x5)] K = (g48_6 x0 x1 x2 x3 x4 x5 (fun y0 => K .normal [(4, .v U2 y0)])) := by
  kernel_rfl
theorem kp48_2 (x0) : keep [0, 1, 4, 7, 8] [(4, .v U2 x0)] = [(0, .dead), (1, .dead), (4, .v U2 x0), (7, .dead), (8, .dead)] := by kernel_rfl
theorem kp48_3 (x0 x1 x2 x3 x4 x5) : keep [0, 1, 4, 7, 8] [(0, .v U16 x0), (1, .v U23 x1), (5, .v U2 x2), (7, .v U2 x3), (8, .v U2 x4), (16, .v .bool x5)] = [(0, .v U16 x0), (1, .v U23 x1), (4, .dead), (7, .v U2 x3), (8, .v U2 x4)] := by kernel_rfl
theorem hb48_1 (x0 : V11) (x1 : V23) (x2 : Int) (x3 : Int) (x4 : Int) (x5 : Bool) : boolOf? (ent [(0, .v U16 x0), (1, .v U23 x1), (5, .v U2 x2), (7, .v U2 x3), (8, .v U2 x4), (16, .v .bool x5)] (.t 16)) = some x5 := by kernel_rfl
theorem kp48_4 (x0) : keep [0, 1, 4, 7, 8] [(0, .dead), (1, .dead), (4, .v U2 x0), (7, .dead), (8, .dead)] = [(0, .dead), (1, .dead), (4, .v U2 x0), (7, .dead), (8, .dead)] := by kernel_rfl
theorem kp48_5 (x0 x1 x2 x3) : keep [0, 1, 4, 7, 8] [(0, .v U16 x0), (1, .v U23 x1), (4, .dead), (7, .v U2 x2), (8, .v U2 x3)] = [(0, .v U16 x0), (1, .v U23 x1), (4, .dead), (7, .v U2 x2), (8, .v U2 x3)] := by kernel_rfl
def g48_9 {R : Type} (x0 : V11) (x1 : V23) (x2 : Int) (x3 : Int) (k0 : V11 → V23 → Int → Int → Option R) : Option R :=
k0 x0 x1 x2 (IntKind.i64.wrap (x3 + (1 : Int)))
theorem t48_9 {N cl} {R} (K : KE R) (x0 x1 x2 x3) : exec cl N c48_9 [(0, .v U16 x0), (1, .v U23 x1), (4, .dead), (7, .v U2 x2), (8, .v U2 x3)] K = (g48_9 x0 x1 x2 x3 (fun y0 y1 y2 y3 => K .normal [(0, .v U16 y0), (1, .v U23 y1), (7, .v U2 y2), (8, .v U2 y3)])) := by
  kernel_rfl
def g48_10 {R : Type} (x0 : V11) (x1 : V23) (x2 : Int) (x3 : Int) (k0 : Int → Option R) (k1 : V11 → V23 → Int → Int → Option R) (k2 : V11 → V23 → Int → Int → Option R) : Option R :=
(g48_2 x0 x1 x2 x3 (fun y0 y1 y2 y3 y4 => brB y4 ((fun y0 y1 y2 y3 => (g48_4 y0 y1 y2 y3 (fun y0 y1 y2 y3 y4 => (g48_5 y0 y1 y2 y3 y4 (fun y0 y1 y2 y3 y4 y5 => brB y5 (g48_6 y0 y1 y2 y3 y4 y5 (fun y0 => ((fun y0 => (k0 y0)) y0))) (g48_9 y0 y1 y3 y4 k1)))))) y0 y1 y2 y3) (k2 y0 y1 y2 y3)))
theorem t48_10 {N cl} {R} (K : KE R) (x0 x1 x2 x3) : exec cl N c48_10 [(0, .v U16 x0), (1, .v U23 x1), (7, .v U2 x2), (8, .v U2 x3)] K = (g48_10 x0 x1 x2 x3 (fun y0 => K .ret [(0, .dead), (1, .dead), (4, .v U2 y0), (7, .dead), (8, .dead)]) (fun y0 y1 y2 y3 => K .normal [(0, .v U16 y0), (1, .v U23 y1), (7, .v U2 y2), (8, .v U2 y3)]) (fun y0 y1 y2 y3 => K (.exit 0) [(0, .v U16 y0), (1, .v U23 y1), (7, .v U2 y2), (8, .v U2 y3)])) := by
  simp only [c48_10, exec_seq, seqK_normal, seqK_exit, seqK_ret, t48_2, c48_3, exec_out, exec_cond', hb48_0, Option.bind_some, brB_true, brB_false, exec_skip, exec_exit, kp48_1, c48_8, exec_block, t48_4, t48_5, c48_7, hb48_1, t48_6, exec_ret, kp48_2, kp48_3, blockK_normal, blockK_ret, blockK_eq, kp48_4, kp48_5, t48_9]
  rfl
def l48_11 {R : Type} (k0 : Int → Option R) (k1 : V11 → V23 → Int → Int → Option R) : Nat → V11 → V23 → Int → Int → Option R
  | 0, _, _, _, _ => none
  | m + 1, x0, x1, x2, x3 => (g48_10 x0 x1 x2 x3 k0 (fun y0 y1 y2 y3 => l48_11 k0 k1 m y0 y1 y2 y3) k1)
theorem lt48_11 {N cl} {R} (K : KE R) : ∀ (m) (x0 x1 x2 x3), iter [0, 1, 7, 8] (fun env K => exec cl N c48_10 env K) K m [(0, .v U16 x0), (1, .v U23 x1), (7, .v U2 x2), (8, .v U2 x3)] = l48_11 (fun y0 => K .ret [(0, .dead), (1, .dead), (4, .v U2 y0), (7, .dead), (8, .dead)]) (fun y0 y1 y2 y3 => K (.exit 0) [(0, .v U16 y0), (1, .v U23 y1), (7, .v U2 y2), (8, .v U2 y3)]) m x0 x1 x2 x3 := by
  intro m
  induction m with
  | zero => intros; rfl
  | succ m ih =>
    intro x0 x1 x2 x3
    simp only [iter_succ, t48_10, loopK_normal, loopK_exit, loopK_ret, kp48_0, ih]
    rfl
theorem kp48_6 (x0) : keep [4] [(0, .dead), (1, .dead), (4, .v U2 x0), (7, .dead), (8, .dead)] = [(4, .v U2 x0)] := by kernel_rfl
theorem kp48_7 (x0 x1 x2 x3) : keep [4] [(0, .v U16 x0), (1, .v U23 x1), (7, .v U2 x2), (8, .v U2 x3)] = [(4, .dead)] := by kernel_rfl
def g48_11 {R : Type} (N : Nat) (x0 : V11) (x1 : V23) (x2 : Int) (x3 : Int) (k0 : Int → Option R) (k1 : Option R) : Option R :=
l48_11 (fun y0 => k0 y0) (fun y0 y1 y2 y3 => k1) N x0 x1 x2 x3
theorem t48_11 {N cl} {R} (K : KE R) (x0 x1 x2 x3) : exec cl N c48_11 [(0, .v U16 x0), (1, .v U23 x1), (7, .v U2 x2), (8, .v U2 x3)] K = (g48_11 N x0 x1 x2 x3 (fun y0 => K .ret [(4, .v U2 y0)]) (K (.exit 0) [(4, .dead)])) := by
  simp only [c48_11, exec_out, exec_loop, kp48_0, lt48_11, kp48_6, kp48_7]
  rfl
theorem kp48_8 (x0) : keep [4] [(4, .v U2 x0)] = [(4, .v U2 x0)] := by kernel_rfl
theorem kp48_9 : keep [4] [(4, .dead)] = [(4, .dead)] := by kernel_rfl
def g48_13 {R : Type} (k0 : Int → Option R) : Option R :=
k0 (-1 : Int)
theorem t48_13 {N cl} {R} (K : KE R) : exec cl N c48_13 [(4, .dead)] K = (g48_13 (fun y0 => K .normal [(4, .v U2 y0)])) := by
  kernel_rfl
def g48_14 {R : Type} (N : Nat) (x0 : V11) (x1 : V23) (k0 : Int → Option R) : Option R :=
(g48_0 x0 x1 (fun y0 y1 => (g48_1 y0 y1 (fun y0 y1 y2 y3 => (g48_11 N y0 y1 y2 y3 (fun y0 => (k0 y0)) (g48_13 (fun y0 => (k0 y0))))))))
theorem t48_14 {N cl} {R} (K : KE R) (x0 x1) : exec cl N c48_14 [(0, .v U16 x0), (1, .v U23 x1)] K = (g48_14 N x0 x1 (fun y0 => K .ret [(4, .v U2 y0)])) := by
  simp only [c48_14, exec_seq, seqK_normal, seqK_exit, seqK_ret, t48_0, t48_1, c48_12, exec_out, exec_block, t48_11, blockK_normal, blockK_ret, blockK_eq, kp48_8, kp48_9, t48_13, exec_ret]
  rfl
theorem rk48_0 (y0 : Int) : retK d48 .ret [(4, .v U2 y0)] = some [.v U2 y0] := by kernel_rfl
def g48 {R : Type} (N : Nat) (x0 : V11) (x1 : V23) (k : Int → Option R) : Option R :=
(g48_14 N x0 x1 (fun y0 => k y0))
theorem gen48 {N : Nat} {cl : Cal} (x0 : V11) (x1 : V23) {R : Type} (k : List E → Option R) : exec cl N c48 (params 0 [.v U16 x0, .v U23 x1]) (fun e env => (retK d48 e env).bind k) = g48 N x0 x1 (fun (r0 : Int) => k [.v U2 r0]) := by
  have e0 : params 0 [.v U16 x0, .v U23 x1] = [(0, .v U16 x0), (1, .v U23 x1)] := by kernel_rfl
  simp only [c48, e0, t48_14, rk48_0, Option.bind_some]
  rfl
def ctr48 (S : V11 → V23 → Option (Int)) : Ctr := { A := V11 × V23 × Unit, B := Int, f := 48, enc := fun a => [.v U16 a.1, .v U23 a.2.1], dec := (decC (decV U16) (decC (decV U23) dec0)), S := fun a => S a.1 a.2.1, ent := fun b => [.v U2 b], ok := (decV_cons (T := U16) (decV_cons (T := U23) (fun es b h => dec0_some h))) }
def S48 (N : Nat) (x0 : V11) (x1 : V23) : Option (Int) := g48 N x0 x1 (fun (r0 : Int) => some (r0))
def g23_0 {R : Type} (x0 : V11) (x1 : V23) (k0 : V11 → V23 → Option R) : Option R :=
k0 x0 x1
theorem t23_0 {N cl} {R} (K : KE R) (x0 x1) : exec cl N c23_0 [(0, .v U16 x0), (1, .v U23 x1)] K = (g23_0 x0 x1 (fun y0 y1 => K .normal [(0, .v U16 y0), (1, .v U23 y1)])) := by
  kernel_rfl
def g23_1 {R : Type} (S48 : V11 → V23 → Option (Int)) (x0 : V11) (x1 : V23) (k0 : Bool → Option R) : Option R :=
(S48 x0 x1).bind fun r523 =>
k0 (decide (r523 ≥ (0 : Int)))
theorem t23_1 {N cl} (S48) (h48 : (ctr48 S48).holds cl) {R} (K : KE R) (x0 x1) : exec cl N c23_1 [(0, .v U16 x0), (1, .v U23 x1)] K = (g23_1 S48 x0 x1 (fun y0 => K .normal [(4, .v .bool y0)])) := by
  rw [← put_eq h48]
  kernel_rfl
def g23_2 {R : Type} (S48 : V11 → V23 → Option (Int)) (x0 : V11) (x1 : V23) (k0 : Bool → Option R) : Option R :=
(g23_0 x0 x1 (fun y0 y1 => (g23_1 S48 y0 y1 (fun y0 => (k0 y0)))))
theorem t23_2 {N cl} (S48) (h48 : (ctr48 S48).holds cl) {R} (K : KE R) (x0 x1) : exec cl N c23_2 [(0, .v U16 x0), (1, .v U23 x1)] K = (g23_2 S48 x0 x1 (fun y0 => K .ret [(4, .v .bool y0)])) := by
  simp only [c23_2, exec_seq, seqK_normal, seqK_exit, seqK_ret, t23_0, t23_1 S48 h48, exec_ret]
  rfl
theorem rk23_0 (y0 : Bool) : retK d23 .ret [(4, .v .bool y0)] = some [.v .bool y0] := by kernel_rfl
def g23 {R : Type} (S48 : V11 → V23 → Option (Int)) (x0 : V11) (x1 : V23) (k : Bool → Option R) : Option R :=
(g23_2 S48 x0 x1 (fun y0 => k y0))
theorem gen23 {N : Nat} {cl : Cal} (S48 : V11 → V23 → Option (Int)) (h48 : (ctr48 S48).holds cl) (x0 : V11) (x1 : V23) {R : Type} (k : List E → Option R) : exec cl N c23 (params 0 [.v U16 x0, .v U23 x1]) (fun e env => (retK d23 e env).bind k) = g23 S48 x0 x1 (fun (r0 : Bool) => k [.v .bool r0]) := by
  have e0 : params 0 [.v U16 x0, .v U23 x1] = [(0, .v U16 x0), (1, .v U23 x1)] := by kernel_rfl
  simp only [c23, e0, t23_2 S48 h48, rk23_0, Option.bind_some]
  rfl
def ctr23 (S : V11 → V23 → Option (Bool)) : Ctr := { A := V11 × V23 × Unit, B := Bool, f := 23, enc := fun a => [.v U16 a.1, .v U23 a.2.1], dec := (decC (decV U16) (decC (decV U23) dec0)), S := fun a => S a.1 a.2.1, ent := fun b => [.v .bool b], ok := (decV_cons (T := U16) (decV_cons (T := U23) (fun es b h => dec0_some h))) }
def S23 (N : Nat) (x0 : V11) (x1 : V23) : Option (Bool) := g23 (S48 N) x0 x1 (fun (r0 : Bool) => some (r0))
def g5_0 {R : Type} (x0 : V29) (x1 : V0) (x2 : V0) (k0 : V0 → V0 → V29 → Option R) : Option R :=
k0 x1 x2 x0
theorem t5_0 {N cl} {R} (K : KE R) (x0 x1 x2) : exec cl N c5_0 [(0, .v U27 x0), (1, .v U4 x1), (2, .v U4 x2)] K = (g5_0 x0 x1 x2 (fun y0 y1 y2 => K .normal [(1, .v U4 y0), (2, .v U4 y1), (3, .loc U27 .no y2)])) := by
  kernel_rfl
def g5_1 {R : Type} (S6 : Option (Bool)) (S14 : V29 → Option (Bool)) (x0 : V0) (x1 : V0) (x2 : V29) (k0 : V0 → V0 → V29 → Bool → Option R) : Option R :=
(S6).bind fun r526 =>
brB (!r526) (k0 x0 x1 x2 true) ((S14 x2).bind fun r527 =>
brB (!r527) (k0 x0 x1 x2 true) (brB (decide ((x0.length : Int) > (60 : Int))) (k0 x0 x1 x2 true) (k0 x0 x1 x2 (decide ((x1.length : Int) > (60 : Int))))))
theorem t5_1 {N cl} (S6) (S14) (h6 : (ctr6 S6).holds cl) (h14 : (ctr14 S14).holds cl) {R} (K : KE R) (x0 x1 x2) : exec cl N c5_1 [(1, .v U4 x0), (2, .v U4 x1), (3, .loc U27 .no x2)] K = (g5_1 S6 S14 x0 x1 x2 (fun y0 y1 y2 y3 => K .normal [(1, .v U4 y0), (2, .v U4 y1), (3, .loc U27 .no y2), (29, .v .bool y3)])) := by
  rw [← put_eq h6]
  rw [← put_eq h14]
  kernel_rfl
def g5_2 {R : Type} (S6 : Option (Bool)) (x0 : V0) (x1 : V0) (x2 : V29) (x3 : Bool) (k0 : Bool → Option R) : Option R :=
(S6).bind fun r530 =>
k0 r530
theorem t5_2 {N cl} (S6) (h6 : (ctr6 S6).holds cl) {R} (K : KE R) (x0 x1 x2 x3) : exec cl N c5_2 [(1, .v U4 x0), (2, .v U4 x1), (3, .loc U27 .no x2), (29, .v .bool x3)] K = (g5_2 S6 x0 x1 x2 x3 (fun y0 => K .normal [(6, .v .bool y0)])) := by
  rw [← put_eq h6]
  kernel_rfl
theorem kp5_0 (x0) : keep [1, 2, 3, 6] [(6, .v .bool x0)] = [(1, .dead), (2, .dead), (3, .dead), (6, .v .bool x0)] := by kernel_rfl
theorem kp5_1 (x0 x1 x2 x3) : keep [1, 2, 3, 6] [(1, .v U4 x0), (2, .v U4 x1), (3, .loc U27 .no x2), (29, .v .bool x3)] = [(1, .v U4 x0), (2, .v U4 x1), (3, .loc U27 .no x2), (6, .dead)] := by kernel_rfl
theorem hb5_0 (x0 : V0) (x1 : V0) (x2 : V29) (x3 : Bool) : boolOf? (ent [(1, .v U4 x0), (2, .v U4 x1), (3, .loc U27 .no x2), (29, .v .bool x3)] (.t 29)) = some x3 := by kernel_rfl
def g5_4 {R : Type} (S21 : V0 → Option V24) (x0 : V0) (x1 : V0) (x2 : V29) (k0 : V29 → V21 → V21 → Option R) : Option R :=
(S21 x0).bind fun r531 =>
(S21 x1).bind fun r532 =>
k0 x2 r531 r532
theorem t5_4 {N cl} (S21) (h21 : (ctr21 S21).holds cl) {R} (K : KE R) (x0 x1 x2) : exec cl N c5_4 [(1, .v U4 x0), (2, .v U4 x1), (3, .loc U27 .no x2), (6, .dead)] K = (g5_4 S21 x0 x1 x2 (fun y0 y1 y2 => K .normal [(3, .loc U27 .no y0), (7, .own true 30 U17 .no y1), (8, .own true 30 U17 .no y2)])) := by
  rw [← put_eq h21]
  kernel_rfl
def g5_5 {R : Type} (S16 : V29 → V1 → V1 → V21 → V21 → Option V17) (x0 : V29) (x1 : V21) (x2 : V21) (k0 : V29 → V21 → V21 → V11 → Int → Option R) : Option R :=
(S16 x0 ([105, 108, 108, 101] : List UInt8) ([101, 115, 116] : List UInt8) x1 x2).bind fun r533 =>
k0 x0 x1 x2 r533.1 r533.2
theorem t5_5 {N cl} (S16) (h16 : (ctr16 S16).holds cl) {R} (K : KE R) (x0 x1 x2) : exec cl N c5_5 [(3, .loc U27 .no x0), (7, .own true 30 U17 .no x1), (8, .own true 30 U17 .no x2)] K = (g5_5 S16 x0 x1 x2 (fun y0 y1 y2 y3 y4 => K .normal [(3, .loc U27 .no y0), (7, .own true 30 U17 .no y1), (8, .own true 30 U17 .no y2), (9, .own true 45 U15 .no y3), (10, .v U2 y4)])) := by
  rw [← put_eq h16]
  kernel_rfl
def g5_6 {R : Type} (S18 : V29 → V1 → V1 → V21 → V21 → Option V14) (x0 : V29) (x1 : V21) (x2 : V21) (x3 : V11) (x4 : Int) (k0 : V11 → Int → V7 → Int → Option R) : Option R :=
(S18 x0 ([105, 108, 108, 101] : List UInt8) ([101, 115, 116] : List UInt8) x1 x2).bind fun r534 =>
k0 x3 x4 r534.1 r534.2
theorem t5_6 {N cl} (S18) (h18 : (ctr18 S18).holds cl) {R} (K : KE R) (x0 x1 x2 x3 x4) : exec cl N c5_6 [(3, .loc U27 .no x0), (7, .own true 30 U17 .no x1), (8, .own true 30 U17 .no x2), (9, .own true 45 U15 .no x3), (10, .v U2 x4)] K = (g5_6 S18 x0 x1 x2 x3 x4 (fun y0 y1 y2 y3 => K .normal [(9, .own true 45 U15 .no y0), (10, .v U2 y1), (11, .loc U15 .no y2), (12, .v U2 y3)])) := by
  rw [← put_eq h18]
  kernel_rfl
def g5_7 {R : Type} (x0 : V11) (x1 : Int) (x2 : V7) (x3 : Int) (k0 : V11 → Int → V7 → Int → Bool → Option R) : Option R :=
brB (x1 != (0 : Int)) (k0 x0 x1 x2 x3 true) (k0 x0 x1 x2 x3 ((x0.length : Int) == (0 : Int)))
theorem t5_7 {N cl} {R} (K : KE R) (x0 x1 x2 x3) : exec cl N c5_7 [(9, .own true 45 U15 .no x0), (10, .v U2 x1), (11, .loc U15 .no x2), (12, .v U2 x3)] K = (g5_7 x0 x1 x2 x3 (fun y0 y1 y2 y3 y4 => K .normal [(9, .own true 45 U15 .no y0), (10, .v U2 y1), (11, .loc U15 .no y2), (12, .v U2 y3), (55, .v .bool y4)])) := by
  kernel_rfl
def g5_8 {R : Type} (x0 : V11) (x1 : Int) (x2 : V7) (x3 : Int) (x4 : Bool) (k0 : Bool → Option R) : Option R :=
brB (x1 != (0 : Int)) (brB (x3 == x1) (k0 true) (brB (x1 == (0 : Int)) (k0 (x3 == (10 : Int))) (k0 false))) (brB (x1 == (0 : Int)) (k0 (x3 == (10 : Int))) (k0 false))
theorem t5_8 {N cl} {R} (K : KE R) (x0 x1 x2 x3 x4) : exec cl N c5_8 [(9, .own true 45 U15 .no x0), (10, .v U2 x1), (11, .loc U15 .no x2), (12, .v U2 x3), (55, .v .bool x4)] K = (g5_8 x0 x1 x2 x3 x4 (fun y0 => K .normal [(6, .v .bool y0)])) := by
  kernel_rfl
theorem kp5_2 (x0) : keep [6, 9, 11, 12] [(6, .v .bool x0)] = [(6, .v .bool x0), (9, .dead), (11, .dead), (12, .dead)] := by kernel_rfl
theorem kp5_3 (x0 x1 x2 x3 x4) : keep [6, 9, 11, 12] [(9, .own true 45 U15 .no x0), (10, .v U2 x1), (11, .loc U15 .no x2), (12, .v U2 x3), (55, .v .bool x4)] = [(6, .dead), (9, .own true 45 U15 .no x0), (11, .loc U15 .no x2), (12, .v U2 x3)] := by kernel_rfl
theorem hb5_1 (x0 : V11) (x1 : Int) (x2 : V7) (x3 : Int) (x4 : Bool) : boolOf? (ent [(9, .own true 45 U15 .no x0), (10, .v U2 x1), (11, .loc U15 .no x2), (12, .v U2 x3), (55, .v .bool x4)] (.t 55)) = some x4 := by kernel_rfl
def g5_10 {R : Type} (S22 : V11 → V7 → Option (Bool)) (S23 : V11 → V23 → Option (Bool)) (S24 : V7 → V7 → Option (Bool)) (x0 : V11) (x1 : V7) (x2 : Int) (k0 : Bool → Option R) : Option R :=
brB (x2 == (0 : Int)) ((S22 x0 x1).bind fun r543 =>
brB r543 ((S23 x0 (fun (x544 : V16) => ((S24 x544.1 x1).bind fun b545 => some [.v .bool b545]).bind (unE .bool))).bind fun r546 =>
k0 (!r546)) (k0 false)) (k0 false)
theorem t5_10 {N cl} (S22) (S23) (S24) (h22 : (ctr22 S22).holds cl) (h23 : (ctr23 S23).holds cl) (h24 : (ctr24 S24).holds cl) {R} (K : KE R) (x0 x1 x2) : exec cl N c5_10 [(6, .dead), (9, .own true 45 U15 .no x0), (11, .loc U15 .no x1), (12, .v U2 x2)] K = (g5_10 S22 S23 S24 x0 x1 x2 (fun y0 => K .normal [(6, .v .bool y0)])) := by
  rw [← put_eq h22]
  rw [← put_eq h23]
  rw [← put_eq h24]
  kernel_rfl
def g5_11 {R : Type} (S6 : Option (Bool)) (S14 : V29 → Option (Bool)) (S16 : V29 → V1 → V1 → V21 → V21 → Option V17) (S18 : V29 → V1 → V1 → V21 → V21 → Option V14) (S21 : V0 → Option V24) (S22 : V11 → V7 → Option (Bool)) (S23 : V11 → V23 → Option (Bool)) (S24 : V7 → V7 → Option (Bool)) (x0 : V29) (x1 : V0) (x2 : V0) (k0 : Bool → Option R) (k1 : Bool → Option R) (k2 : Bool → Option R) : Option R :=
(g5_0 x0 x1 x2 (fun y0 y1 y2 => (g5_1 S6 S14 y0 y1 y2 (fun y0 y1 y2 y3 => brB y3 (g5_2 S6 y0 y1 y2 y3 (fun y0 => ((fun y0 => (k0 y0)) y0))) ((fun y0 y1 y2 => (g5_4 S21 y0 y1 y2 (fun y0 y1 y2 => (g5_5 S16 y0 y1 y2 (fun y0 y1 y2 y3 y4 => (g5_6 S18 y0 y1 y2 y3 y4 (fun y0 y1 y2 y3 => (g5_7 y0 y1 y2 y3 (fun y0 y1 y2 y3 y4 => brB y4 (g5_8 y0 y1 y2 y3 y4 (fun y0 => ((fun y0 => (k1 y0)) y0))) ((fun y0 y1 y2 => (g5_10 S22 S23 S24 y0 y1 y2 (fun y0 => (k2 y0)))) y0 y2 y3)))))))))) y0 y1 y2)))))
theorem t5_11 {N cl} (S6) (S14) (S16) (S18) (S21) (S22) (S23) (S24) (h6 : (ctr6 S6).holds cl) (h14 : (ctr14 S14).holds cl) (h16 : (ctr16 S16).holds cl) (h18 : (ctr18 S18).holds cl) (h21 : (ctr21 S21).holds cl) (h22 : (ctr22 S22).holds cl) (h23 : (ctr23 S23).holds cl) (h24 : (ctr24 S24).holds cl) {R} (K : KE R) (x0 x1 x2) : exec cl N c5_11 [(0, .v U27 x0), (1, .v U4 x1), (2, .v U4 x2)] K = (g5_11 S6 S14 S16 S18 S21 S22 S23 S24 x0 x1 x2 (fun y0 => K .ret [(1, .dead), (2, .dead), (3, .dead), (6, .v .bool y0)]) (fun y0 => K .ret [(6, .v .bool y0), (9, .dead), (11, .dead), (12, .dead)]) (fun y0 => K .ret [(6, .v .bool y0)])) := by
  simp only [c5_11, exec_seq, seqK_normal, seqK_exit, seqK_ret, t5_0, t5_1 S6 S14 h6 h14, c5_3, exec_out, exec_cond', hb5_0, Option.bind_some, brB_true, brB_false, t5_2 S6 h6, exec_ret, exec_skip, kp5_0, kp5_1, t5_4 S21 h21, t5_5 S16 h16, t5_6 S18 h18, t5_7, c5_9, hb5_1, t5_8, kp5_2, kp5_3, t5_10 S22 S23 S24 h22 h23 h24]
  rfl
theorem rk5_0 (y0 : Bool) : retK d5 .ret [(1, .dead), (2, .dead), (3, .dead), (6, .v .bool y0)] = some [.v .bool y0] := by kernel_rfl
theorem rk5_1 (y0 : Bool) : retK d5 .ret [(6, .v .bool y0), (9, .dead), (11, .dead), (12, .dead)] = some [.v .bool y0] := by kernel_rfl
theorem rk5_2 (y0 : Bool) : retK d5 .ret [(6, .v .bool y0)] = some [.v .bool y0] := by kernel_rfl
def g5 {R : Type} (S6 : Option (Bool)) (S14 : V29 → Option (Bool)) (S16 : V29 → V1 → V1 → V21 → V21 → Option V17) (S18 : V29 → V1 → V1 → V21 → V21 → Option V14) (S21 : V0 → Option V24) (S22 : V11 → V7 → Option (Bool)) (S23 : V11 → V23 → Option (Bool)) (S24 : V7 → V7 → Option (Bool)) (x0 : V29) (x1 : V0) (x2 : V0) (k : Bool → Option R) : Option R :=
(g5_11 S6 S14 S16 S18 S21 S22 S23 S24 x0 x1 x2 (fun y0 => k y0) (fun y0 => k y0) (fun y0 => k y0))
theorem gen5 {N : Nat} {cl : Cal} (S6 : Option (Bool)) (S14 : V29 → Option (Bool)) (S16 : V29 → V1 → V1 → V21 → V21 → Option V17) (S18 : V29 → V1 → V1 → V21 → V21 → Option V14) (S21 : V0 → Option V24) (S22 : V11 → V7 → Option (Bool)) (S23 : V11 → V23 → Option (Bool)) (S24 : V7 → V7 → Option (Bool)) (h6 : (ctr6 S6).holds cl) (h14 : (ctr14 S14).holds cl) (h16 : (ctr16 S16).holds cl) (h18 : (ctr18 S18).holds cl) (h21 : (ctr21 S21).holds cl) (h22 : (ctr22 S22).holds cl) (h23 : (ctr23 S23).holds cl) (h24 : (ctr24 S24).holds cl) (x0 : V29) (x1 : V0) (x2 : V0) {R : Type} (k : List E → Option R) : exec cl N c5 (params 0 [.v U27 x0, .v U4 x1, .v U4 x2]) (fun e env => (retK d5 e env).bind k) = g5 S6 S14 S16 S18 S21 S22 S23 S24 x0 x1 x2 (fun (r0 : Bool) => k [.v .bool r0]) := by
  have e0 : params 0 [.v U27 x0, .v U4 x1, .v U4 x2] = [(0, .v U27 x0), (1, .v U4 x1), (2, .v U4 x2)] := by kernel_rfl
  simp only [c5, e0, t5_11 S6 S14 S16 S18 S21 S22 S23 S24 h6 h14 h16 h18 h21 h22 h23 h24, rk5_0, rk5_1, rk5_2, Option.bind_some]
  rfl
def ctr5 (S : V29 → V0 → V0 → Option (Bool)) : Ctr := { A := V29 × V0 × V0 × Unit, B := Bool, f := 5, enc := fun a => [.v U27 a.1, .v U4 a.2.1, .v U4 a.2.2.1], dec := (decC (decV U27) (decC (decV U4) (decC (decV U4) dec0))), S := fun a => S a.1 a.2.1 a.2.2.1, ent := fun b => [.v .bool b], ok := (decV_cons (T := U27) (decV_cons (T := U4) (decV_cons (T := U4) (fun es b h => dec0_some h)))) }
def S5 (N : Nat) (x0 : V29) (x1 : V0) (x2 : V0) : Option (Bool) := g5 (S6 N) (S14 N) (S16 N) (S18 N) (S21 N) (S22 N) (S23 N) (S24 N) x0 x1 x2 (fun (r0 : Bool) => some (r0))
def g101_0 {R : Type} (x0 : Int) (k0 : Int → Option R) : Option R :=
k0 x0
theorem t101_0 {N cl} {R} (K : KE R) (x0) : exec cl N c101_0 [(0, .v U1 x0)] K = (g101_0 x0 (fun y0 => K .normal [(0, .v U1 y0)])) := by
  kernel_rfl
def g101_1 {R : Type} (x0 : Int) (k0 : Bool → Option R) : Option R :=
brB (decide (x0 ≥ (97 : Int))) (k0 (decide (x0 ≤ (122 : Int)))) (k0 false)
theorem t101_1 {N cl} {R} (K : KE R) (x0) : exec cl N c101_1 [(0, .v U1 x0)] K = (g101_1 x0 (fun y0 => K .normal [(2, .v .bool y0)])) := by
  kernel_rfl
def g101_2 {R : Type} (x0 : Int) (k0 : Bool → Option R) : Option R :=
(g101_0 x0 (fun y0 => (g101_1 y0 (fun y0 => (k0 y0)))))
theorem t101_2 {N cl} {R} (K : KE R) (x0) : exec cl N c101_2 [(0, .v U1 x0)] K = (g101_2 x0 (fun y0 => K .ret [(2, .v .bool y0)])) := by
  simp only [c101_2, exec_seq, seqK_normal, seqK_exit, seqK_ret, t101_0, t101_1, exec_ret]
  rfl
theorem rk101_0 (y0 : Bool) : retK d101 .ret [(2, .v .bool y0)] = some [.v .bool y0] := by kernel_rfl
def g101 {R : Type} (x0 : Int) (k : Bool → Option R) : Option R :=
(g101_2 x0 (fun y0 => k y0))
theorem gen101 {N : Nat} {cl : Cal} (x0 : Int) {R : Type} (k : List E → Option R) : exec cl N c101 (params 0 [.v U1 x0]) (fun e env => (retK d101 e env).bind k) = g101 x0 (fun (r0 : Bool) => k [.v .bool r0]) := by
  have e0 : params 0 [.v U1 x0] = [(0, .v U1 x0)] := by kernel_rfl
  simp only [c101, e0, t101_2, rk101_0, Option.bind_some]
  rfl
def ctr101 (S : Int → Option (Bool)) : Ctr := { A := Int × Unit, B := Bool, f := 101, enc := fun a => [.v U1 a.1], dec := (decC (decV U1) dec0), S := fun a => S a.1, ent := fun b => [.v .bool b], ok := (decV_cons (T := U1) (fun es b h => dec0_some h)) }
def S101 (N : Nat) (x0 : Int) : Option (Bool) := g101 x0 (fun (r0 : Bool) => some (r0))
def g102_0 {R : Type} (x0 : Int) (k0 : Int → Option R) : Option R :=
k0 x0
theorem t102_0 {N cl} {R} (K : KE R) (x0) : exec cl N c102_0 [(0, .v U1 x0)] K = (g102_0 x0 (fun y0 => K .normal [(0, .v U1 y0)])) := by
  kernel_rfl
def g102_1 {R : Type} (x0 : Int) (k0 : Bool → Option R) : Option R :=
brB (decide (x0 ≥ (48 : Int))) (k0 (decide (x0 ≤ (57 : Int)))) (k0 false)
theorem t102_1 {N cl} {R} (K : KE R) (x0) : exec cl N c102_1 [(0, .v U1 x0)] K = (g102_1 x0 (fun y0 => K .normal [(2, .v .bool y0)])) := by
  kernel_rfl
def g102_2 {R : Type} (x0 : Int) (k0 : Bool → Option R) : Option R :=
(g102_0 x0 (fun y0 => (g102_1 y0 (fun y0 => (k0 y0)))))
theorem t102_2 {N cl} {R} (K : KE R) (x0) : exec cl N c102_2 [(0, .v U1 x0)] K = (g102_2 x0 (fun y0 => K .ret [(2, .v .bool y0)])) := by
  simp only [c102_2, exec_seq, seqK_normal, seqK_exit, seqK_ret, t102_0, t102_1, exec_ret]
  rfl
theorem rk102_0 (y0 : Bool) : retK d102 .ret [(2, .v .bool y0)] = some [.v .bool y0] := by kernel_rfl
def g102 {R : Type} (x0 : Int) (k : Bool → Option R) : Option R :=
(g102_2 x0 (fun y0 => k y0))
theorem gen102 {N : Nat} {cl : Cal} (x0 : Int) {R : Type} (k : List E → Option R) : exec cl N c102 (params 0 [.v U1 x0]) (fun e env => (retK d102 e env).bind k) = g102 x0 (fun (r0 : Bool) => k [.v .bool r0]) := by
  have e0 : params 0 [.v U1 x0] = [(0, .v U1 x0)] := by kernel_rfl
  simp only [c102, e0, t102_2, rk102_0, Option.bind_some]
  rfl
def ctr102 (S : Int → Option (Bool)) : Ctr := { A := Int × Unit, B := Bool, f := 102, enc := fun a => [.v U1 a.1], dec := (decC (decV U1) dec0), S := fun a => S a.1, ent := fun b => [.v .bool b], ok := (decV_cons (T := U1) (fun es b h => dec0_some h)) }
def S102 (N : Nat) (x0 : Int) : Option (Bool) := g102 x0 (fun (r0 : Bool) => some (r0))
def g86_0 {R : Type} (x0 : V1) (k0 : V1 → Option R) : Option R :=
k0 x0
theorem t86_0 {N cl} {R} (K : KE R) (x0) : exec cl N c86_0 [(0, .v .str x0)] K = (g86_0 x0 (fun y0 => K .normal [(0, .v .str y0)])) := by
  kernel_rfl
def g86_1 {R : Type} (S101 : Int → Option (Bool)) (x0 : V1) (k0 : V1 → Bool → Option R) : Option R :=
brB (x0 == ([] : List UInt8)) (k0 x0 true) (if 0 ≤ (0 : Int) ∧ (0 : Int) < (x0.length : Int) then
(S101 ((x0.getD (0 : Int).toNat 0).toNat : Int)).bind fun r579 =>
k0 x0 (!r579)
else none)
theorem t86_1 {N cl} (S101) (h101 : (ctr101 S101).holds cl) {R} (K : KE R) (x0) : exec cl N c86_1 [(0, .v .str x0)] K = (g86_1 S101 x0 (fun y0 y1 => K .normal [(0, .v .str y0), (11, .v .bool y1)])) := by
  rw [← put_eq h101]
  kernel_rfl
def g86_2 {R : Type} (x0 : V1) (x1 : Bool) (k0 : Int → Option R) : Option R :=
k0 (0 : Int)
theorem t86_2 {N cl} {R} (K : KE R) (x0 x1) : exec cl N c86_2 [(0, .v .str x0), (11, .v .bool x1)] K = (g86_2 x0 x1 (fun y0 => K .normal [(2, .v U2 y0)])) := by
  kernel_rfl
theorem kp86_0 (x0) : keep [0, 2] [(2, .v U2 x0)] = [(0, .dead), (2, .v U2 x0)] := by kernel_rfl
theorem kp86_1 (x0 x1) : keep [0, 2] [(0, .v .str x0), (11, .v .bool x1)] = [(0, .v .str x0), (2, .dead)] := by kernel_rfl
theorem hb86_0 (x0 : V1) (x1 : Bool) : boolOf? (ent [(0, .v .str x0), (11, .v .bool x1)] (.t 11)) = some x1 := by kernel_rfl
def g86_4 {R : Type} (x0 : V1) (k0 : V1 → Int → Option R) : Option R :=
k0 x0 (1 : Int)
theorem t86_4 {N cl} {R} (K : KE R) (x0) : exec cl N c86_4 [(0, .v .str x0), (2, .dead)] K = (g86_4 x0 (fun y0 y1 => K .normal [(0, .v .str y0), (3, .v U2 y1)])) := by
  kernel_rfl
theorem kp86_2 (x0 x1) : keep [0, 3] [(0, .v .str x0), (3, .v U2 x1)] = [(0, .v .str x0), (3, .v U2 x1)] := by kernel_rfl
def g86_5 {R : Type} (x0 : V1) (x1 : Int) (k0 : V1 → Int → Bool → Option R) : Option R :=
k0 x0 x1 (decide (x1 < (x0.length : Int)))
theorem t86_5 {N cl} {R} (K : KE R) (x0 x1) : exec cl N c86_5 [(0, .v .str x0), (3, .v U2 x1)] K = (g86_5 x0 x1 (fun y0 y1 y2 => K .normal [(0, .v .str y0), (3, .v U2 y1), (15, .v .bool y2)])) := by
  kernel_rfl
theorem kp86_3 (x0 x1 x2) : keep [0, 3] [(0, .v .str x0), (3, .v U2 x1), (15, .v .bool x2)] = [(0, .v .str x0), (3, .v U2 x1)] := by kernel_rfl
theorem hb86_1 (x0 : V1) (x1 : Int) (x2 : Bool) : boolOf? (ent [(0, .v .str x0), (3, .v U2 x1), (15, .v .bool x2)] (.t 15)) = some x2 := by kernel_rfl
def g86_7 {R : Type} (S101 : Int → Option (Bool)) (S102 : Int → Option (Bool)) (x0 : V1) (x1 : Int) (k0 : V1 → Int → Bool → Option R) : Option R :=
if 0 ≤ x1 ∧ x1 < (x0.length : Int) then
(S101 ((x0.getD x1.toNat 0).toNat : Int)).bind fun r582 =>
brB r582 (k0 x0 x1 true) (if 0 ≤ x1 ∧ x1 < (x0.length : Int) then
(S102 ((x0.getD x1.toNat 0).toNat : Int)).bind fun r584 =>
k0 x0 x1 r584
else none)
else none
theorem t86_7 {N cl} (S101) (S102) (h101 : (ctr101 S101).holds cl) (h102 : (ctr102 S102).holds cl) {R} (K : KE R) (x0 x1) : exec cl N c86_7 [(0, .v .str x0), (3, .v U2 x1)] K = (g86_7 S101 S102 x0 x1 (fun y0 y1 y2 => K .normal [(0, .v .str y0), (3, .v U2 y1), (25, .v .bool y2)])) := by
  rw [← put_eq h101]
  rw [← put_eq h102]
  kernel_rfl
def g86_8 {R : Type} (x0 : V1) (x1 : Int) (x2 : Bool) (k0 : V1 → Int → Option R) : Option R :=
k0 x0 (IntKind.i64.wrap (x1 + (1 : Int)))
theorem t86_8 {N cl} {R} (K : KE R) (x0 x1 x2) : exec cl N c86_8 [(0, .v .str x0), (3, .v U2 x1), (25, .v .bool x2)] K = (g86_8 x0 x1 x2 (fun y0 y1 => K .normal [(0, .v .str y0), (3, .v U2 y1)])) := by
  kernel_rfl
theorem kp86_4 (x0 x1 x2) : keep [0, 3] [(0, .v .str x0), (3, .v U2 x1), (25, .v .bool x2)] = [(0, .v .str x0), (3, .v U2 x1)] := by kernel_rfl
theorem hb86_2 (x0 : V1) (x1 : Int) (x2 : Bool) : boolOf? (ent [(0, .v .str x0), (3, .v U2 x1), (25, .v .bool x2)] (.t 25)) = some x2 := by kernel_rfl
def g86_10 {R : Type} (S101 : Int → Option (Bool)) (S102 : Int → Option (Bool)) (x0 : V1) (x1 : Int) (k0 : V1 → Int → Bool → Option R) : Option R :=
if 0 ≤ x1 ∧ x1 < (x0.length : Int) then
brB (((x0.getD x1.toNat 0).toNat : Int) != (45 : Int)) (k0 x0 x1 true) (brB ((IntKind.i64.wrap (x1 + (1 : Int))) == (x0.length : Int)) (k0 x0 x1 true) (let v590 : Int := (IntKind.i64.wrap (x1 + (1 : Int)))
if 0 ≤ v590 ∧ v590 < (x0.length : Int) then
(S101 ((x0.getD v590.toNat 0).toNat : Int)).bind fun r592 =>
brB (!r592) (let v593 : Int := (IntKind.i64.wrap (x1 + (1 : Int)))
if 0 ≤ v593 ∧ v593 < (x0.length : Int) then
(S102 ((x0.getD v593.toNat 0).toNat : Int)).bind fun r595 =>
k0 x0 x1 (!r595)
else none) (k0 x0 x1 false)
else none))
else none
theorem t86_10 {N cl} (S101) (S102) (h101 : (ctr101 S101).holds cl) (h102 : (ctr102 S102).holds cl) {R} (K : KE R) (x0 x1) : exec cl N c86_10 [(0, .v .str x0), (3, .v U2 x1)] K = (g86_10 S101 S102 x0 x1 (fun y0 y1 y2 => K .normal [(0, .v .str y0), (3, .v U2 y1), (54, .v .bool y2)])) := by
  rw [← put_eq h101]
  rw [← put_eq h102]
  kernel_rfl
theorem kp86_5 (x0 x1 x2) : keep [0, 3] [(0, .v .str x0), (3, .v U2 x1), (54, .v .bool x2)] = [(0, .v .str x0), (3, .v U2 x1)] := by kernel_rfl
theorem hb86_3 (x0 : V1) (x1 : Int) (x2 : Bool) : boolOf? (ent [(0, .v .str x0), (3, .v U2 x1), (54, .v .bool x2)] (.t 54)) = some x2 := by kernel_rfl
def g86_12 {R : Type} (x0 : V1) (x1 : Int) (k0 : V1 → Int → Option R) : Option R :=
k0 x0 (IntKind.i64.wrap (x1 + (2 : Int)))
theorem t86_12 {N cl} {R} (K : KE R) (x0 x1) : exec cl N c86_12 [(0, .v .str x0), (3, .v U2 x1)] K = (g86_12 x0 x1 (fun y0 y1 => K .normal [(0, .v .str y0), (3, .v U2 y1)])) := by
  kernel_rfl
def g86_14 {R : Type} (S101 : Int → Option (Bool)) (S102 : Int → Option (Bool)) (x0 : V1) (x1 : Int) (k0 : V1 → Int → Option R) (k1 : V1 → Int → Option R) : Option R :=
(g86_5 x0 x1 (fun y0 y1 y2 => brB y2 ((fun y0 y1 => (g86_7 S101 S102 y0 y1 (fun y0 y1 y2 => brB y2 (g86_8 y0 y1 y2 (fun y0 y1 => ((fun y0 y1 => (k0 y0 y1)) y0 y1))) ((fun y0 y1 => (g86_10 S101 S102 y0 y1 (fun y0 y1 y2 => brB y2 (k1 y0 y1) ((fun y0 y1 => (g86_12 y0 y1 (fun y0 y1 => (k0 y0 y1)))) y0 y1)))) y0 y1)))) y0 y1) (k1 y0 y1)))
theorem t86_14 {N cl} (S101) (S102) (h101 : (ctr101 S101).holds cl) (h102 : (ctr102 S102).holds cl) {R} (K : KE R) (x0 x1) : exec cl N c86_14 [(0, .v .str x0), (3, .v U2 x1)] K = (g86_14 S101 S102 x0 x1 (fun y0 y1 => K .normal [(0, .v .str y0), (3, .v U2 y1)]) (fun y0 y1 => K (.exit 0) [(0, .v .str y0), (3, .v U2 y1)])) := by
  simp only [c86_14, exec_seq, seqK_normal, seqK_exit, seqK_ret, t86_5, c86_6, exec_out, exec_cond', hb86_1, Option.bind_some, brB_true, brB_false, exec_skip, exec_exit, kp86_3, c86_13, exec_block, t86_7 S101 S102 h101 h102, c86_9, hb86_2, t86_8, kp86_2, kp86_4, t86_10 S101 S102 h101 h102, c86_11, hb86_3, kp86_5, t86_12, blockK_normal, blockK_ret, blockK_eq, blockK_ne 1 0 rfl]
  rfl
def l86_15 {R : Type} (S101 : Int → Option (Bool)) (S102 : Int → Option (Bool)) (k0 : V1 → Int → Option R) : Nat → V1 → Int → Option R
  | 0, _, _ => none
  | m + 1, x0, x1 => (g86_14 S101 S102 x0 x1 (fun y0 y1 => l86_15 S101 S102 k0 m y0 y1) k0)
theorem lt86_15 {N cl} (S101) (S102) (h101 : (ctr101 S101).holds cl) (h102 : (ctr102 S102).holds cl) {R} (K : KE R) : ∀ (m) (x0 x1), iter [0, 3] (fun env K => exec cl N c86_14 env K) K m [(0, .v .str x0), (3, .v U2 x1)] = l86_15 S101 S102 (fun y0 y1 => K (.exit 0) [(0, .v .str y0), (3, .v U2 y1)]) m x0 x1 := by
  intro m
  induction m with
  | zero => intros; rfl
  | succ m ih =>
    intro x0 x1
    simp only [iter_succ, t86_14 S101 S102 h101 h102, loopK_normal, loopK_exit, loopK_ret, kp86_2, ih]
    rfl
theorem kp86_6 (x0 x1) : keep [3] [(0, .v .str x0), (3, .v U2 x1)] = [(3, .v U2 x1)] := by kernel_rfl
def g86_15 {R : Type} (N : Nat) (S101 : Int → Option (Bool)) (S102 : Int → Option (Bool)) (x0 : V1) (x1 : Int) (k0 : Int → Option R) : Option R :=
l86_15 S101 S102 (fun y0 y1 => k0 y1) N x0 x1
theorem t86_15 {N cl} (S101) (S102) (h101 : (ctr101 S101).holds cl) (h102 : (ctr102 S102).holds cl) {R} (K : KE R) (x0 x1) : exec cl N c86_15 [(0, .v .str x0), (3, .v U2 x1)] K = (g86_15 N S101 S102 x0 x1 (fun y0 => K (.exit 0) [(3, .v U2 y0)])) := by
  simp only [c86_15, exec_out, exec_loop, kp86_2, lt86_15 S101 S102 h101 h102, kp86_6]
  rfl
theorem kp86_7 (x0) : keep [3] [(3, .v U2 x0)] = [(3, .v U2 x0)] := by kernel_rfl
def g86_17 {R : Type} (x0 : Int) (k0 : Int → Option R) : Option R :=
k0 x0
theorem t86_17 {N cl} {R} (K : KE R) (x0) : exec cl N c86_17 [(3, .v U2 x0)] K = (g86_17 x0 (fun y0 => K .normal [(2, .v U2 y0)])) := by
  kernel_rfl
def g86_18 {R : Type} (N : Nat) (S101 : Int → Option (Bool)) (S102 : Int → Option (Bool)) (x0 : V1) (k0 : Int → Option R) (k1 : Int → Option R) : Option R :=
(g86_0 x0 (fun y0 => (g86_1 S101 y0 (fun y0 y1 => brB y1 (g86_2 y0 y1 (fun y0 => ((fun y0 => (k0 y0)) y0))) ((fun y0 => (g86_4 y0 (fun y0 y1 => (g86_15 N S101 S102 y0 y1 (fun y0 => ((fun y0 => (g86_17 y0 (fun y0 => (k1 y0)))) y0)))))) y0)))))
theorem t86_18 {N cl} (S101) (S102) (h101 : (ctr101 S101).holds cl) (h102 : (ctr102 S102).holds cl) {R} (K : KE R) (x0) : exec cl N c86_18 [(0, .v .str x0)] K = (g86_18 N S101 S102 x0 (fun y0 => K .ret [(0, .dead), (2, .v U2 y0)]) (fun y0 => K .ret [(2, .v U2 y0)])) := by
  simp only [c86_18, exec_seq, seqK_normal, seqK_exit, seqK_ret, t86_0, t86_1 S101 h101, c86_3, exec_out, exec_cond', hb86_0, Option.bind_some, brB_true, brB_false, t86_2, exec_ret, exec_skip, kp86_0, kp86_1, t86_4, c86_16, exec_block, t86_15 S101 S102 h101 h102, blockK_normal, blockK_ret, blockK_eq, kp86_7, t86_17]
  rfl
theorem rk86_0 (y0 : Int) : retK d86 .ret [(0, .dead), (2, .v U2 y0)] = some [.v U2 y0] := by kernel_rfl
theorem rk86_1 (y0 : Int) : retK d86 .ret [(2, .v U2 y0)] = some [.v U2 y0] := by kernel_rfl
def g86 {R : Type} (N : Nat) (S101 : Int → Option (Bool)) (S102 : Int → Option (Bool)) (x0 : V1) (k : Int → Option R) : Option R :=
(g86_18 N S101 S102 x0 (fun y0 => k y0) (fun y0 => k y0))
theorem gen86 {N : Nat} {cl : Cal} (S101 : Int → Option (Bool)) (S102 : Int → Option (Bool)) (h101 : (ctr101 S101).holds cl) (h102 : (ctr102 S102).holds cl) (x0 : V1) {R : Type} (k : List E → Option R) : exec cl N c86 (params 0 [.v .str x0]) (fun e env => (retK d86 e env).bind k) = g86 N S101 S102 x0 (fun (r0 : Int) => k [.v U2 r0]) := by
  have e0 : params 0 [.v .str x0] = [(0, .v .str x0)] := by kernel_rfl
  simp only [c86, e0, t86_18 S101 S102 h101 h102, rk86_0, rk86_1, Option.bind_some]
  rfl
def ctr86 (S : V1 → Option (Int)) : Ctr := { A := V1 × Unit, B := Int, f := 86, enc := fun a => [.v .str a.1], dec := (decC (decV .str) dec0), S := fun a => S a.1, ent := fun b => [.v U2 b], ok := (decV_cons (T := .str) (fun es b h => dec0_some h)) }
def S86 (N : Nat) (x0 : V1) : Option (Int) := g86 N (S101 N) (S102 N) x0 (fun (r0 : Int) => some (r0))
def g65_0 {R : Type} (x0 : V1) (k0 : V1 → Option R) : Option R :=
k0 x0
theorem t65_0 {N cl} {R} (K : KE R) (x0) : exec cl N c65_0 [(0, .v .str x0)] K = (g65_0 x0 (fun y0 => K .normal [(0, .v .str y0)])) := by
  kernel_rfl
def g65_1 {R : Type} (S86 : V1 → Option (Int)) (x0 : V1) (k0 : Bool → Option R) : Option R :=
brB (x0 != ([] : List UInt8)) (brB (decide ((x0.length : Int) ≤ (20 : Int))) ((S86 x0).bind fun r601 =>
k0 (r601 == (x0.length : Int))) (k0 false)) (k0 false)
theorem t65_1 {N cl} (S86) (h86 : (ctr86 S86).holds cl) {R} (K : KE R) (x0) : exec cl N c65_1 [(0, .v .str x0)] K = (g65_1 S86 x0 (fun y0 => K .normal [(2, .v .bool y0)])) := by
  rw [← put_eq h86]
  kernel_rfl
def g65_2 {R : Type} (S86 : V1 → Option (Int)) (x0 : V1) (k0 : Bool → Option R) : Option R :=
(g65_0 x0 (fun y0 => (g65_1 S86 y0 (fun y0 => (k0 y0)))))
theorem t65_2 {N cl} (S86) (h86 : (ctr86 S86).holds cl) {R} (K : KE R) (x0) : exec cl N c65_2 [(0, .v .str x0)] K = (g65_2 S86 x0 (fun y0 => K .ret [(2, .v .bool y0)])) := by
  simp only [c65_2, exec_seq, seqK_normal, seqK_exit, seqK_ret, t65_0, t65_1 S86 h86, exec_ret]
  rfl
theorem rk65_0 (y0 : Bool) : retK d65 .ret [(2, .v .bool y0)] = some [.v .bool y0] := by kernel_rfl
def g65 {R : Type} (S86 : V1 → Option (Int)) (x0 : V1) (k : Bool → Option R) : Option R :=
(g65_2 S86 x0 (fun y0 => k y0))
theorem gen65 {N : Nat} {cl : Cal} (S86 : V1 → Option (Int)) (h86 : (ctr86 S86).holds cl) (x0 : V1) {R : Type} (k : List E → Option R) : exec cl N c65 (params 0 [.v .str x0]) (fun e env => (retK d65 e env).bind k) = g65 S86 x0 (fun (r0 : Bool) => k [.v .bool r0]) := by
  have e0 : params 0 [.v .str x0] = [(0, .v .str x0)] := by kernel_rfl
  simp only [c65, e0, t65_2 S86 h86, rk65_0, Option.bind_some]
  rfl
def ctr65 (S : V1 → Option (Bool)) : Ctr := { A := V1 × Unit, B := Bool, f := 65, enc := fun a => [.v .str a.1], dec := (decC (decV .str) dec0), S := fun a => S a.1, ent := fun b => [.v .bool b], ok := (decV_cons (T := .str) (fun es b h => dec0_some h)) }
def S65 (N : Nat) (x0 : V1) : Option (Bool) := g65 (S86 N) x0 (fun (r0 : Bool) => some (r0))
def g69_0 {R : Type} (x0 : V1) (k0 : V1 → Option R) : Option R :=
k0 x0
theorem t69_0 {N cl} {R} (K : KE R) (x0) : exec cl N c69_0 [(0, .v .str x0)] K = (g69_0 x0 (fun y0 => K .normal [(0, .v .str y0)])) := by
  kernel_rfl
def g69_1 {R : Type} (x0 : V1) (k0 : V1 → V0 → Option R) : Option R :=
if 0 ≤ (x0.length : Int) ∧ (x0.length : Int) ≤ (x0.length : Int) ∧ (x0.length : Int) ≤ ((140737488355328 : Nat) : Int) then
k0 x0 (List.replicate (x0.length : Int).toNat (0 : Int))
else none
theorem t69_1 {N cl} {R} (K : KE R) (x0) : exec cl N c69_1 [(0, .v .str x0)] K = (g69_1 x0 (fun y0 y1 => K .normal [(0, .v .str y0), (3, .own true 5 U1 .no y1)])) := by
  kernel_rfl
def g69_2 {R : Type} (x0 : V1) (x1 : V0) (k0 : V1 → V0 → Int → Option R) : Option R :=
k0 x0 x1 (0 : Int)
theorem t69_2 {N cl} {R} (K : KE R) (x0 x1) : exec cl N c69_2 [(0, .v .str x0), (3, .own true 5 U1 .no x1)] K = (g69_2 x0 x1 (fun y0 y1 y2 => K .normal [(0, .v .str y0), (3, .own true 5 U1 .no y1), (4, .v U2 y2)])) := by
  kernel_rfl
theorem kp69_0 (x0 x1 x2) : keep [0, 3, 4] [(0, .v .str x0), (3, .own true 5 U1 .no x1), (4, .v U2 x2)] = [(0, .v .str x0), (3, .own true 5 U1 .no x1), (4, .v U2 x2)] := by kernel_rfl
def g69_3 {R : Type} (x0 : V1) (x1 : V0) (x2 : Int) (k0 : V1 → V0 → Int → Bool → Option R) : Option R :=
k0 x0 x1 x2 (decide (x2 < (x0.length : Int)))
theorem t69_3 {N cl} {R} (K : KE R) (x0 x1 x2) : exec cl N c69_3 [(0, .v .str x0), (3, .own true 5 U1 .no x1), (4, .v U2 x2)] K = (g69_3 x0 x1 x2 (fun y0 y1 y2 y3 => K .normal [(0, .v .str y0), (3, .own true 5 U1 .no y1), (4, .v U2 y2), (11, .v .bool y3)])) := by
  kernel_rfl
theorem kp69_1 (x0 x1 x2 x3) : keep [0, 3, 4] [(0, .v .str x0), (3, .own true 5 U1 .no x1), (4, .v U2 x2), (11, .v .bool x3)] = [(0, .v .str x0), (3, .own true 5 U1 .no x1), (4, .v U2 x2)] := by kernel_rfl
theorem hb69_0 (x0 : V1) (x1 : V0) (x2 : Int) (x3 : Bool) : boolOf? (ent [(0, .v .str x0), (3, .own true 5 U1 .no x1), (4, .v U2 x2), (11, .v .bool x3)] (.t 11)) = some x3 := by kernel_rfl
def g69_5 {R : Type} (x0 : V1) (x1 : V0) (x2 : Int) (k0 : V1 → V0 → Int → Option R) : Option R :=
if 0 ≤ x2 ∧ x2 < (x0.length : Int) then
if 0 ≤ x2 ∧ x2 < (x1.length : Int) then
if x2.toNat < x1.length then
k0 x0 (x1.set x2.toNat ((x0.getD x2.toNat 0).toNat : Int)) x2
else none
else none
else none
theorem t69_5 {N cl} {R} (K : KE R) (x0 x1 x2) : exec cl N c69_5 [(0, .v .str x0), (3, .own true 5 U1 .no x1), (4, .v U2 x2)] K = (g69_5 x0 x1 x2 (fun y0 y1 y2 => K .normal [(0, .v .str y0), (3, .own true 5 U1 .no y1), (4, .v U2 y2)])) := by
  kernel_rfl
def g69_6 {R : Type} (x0 : V1) (x1 : V0) (x2 : Int) (k0 : V1 → V0 → Int → Bool → Option R) : Option R :=
if 0 ≤ x2 ∧ x2 < (x0.length : Int) then
brB (decide (((x0.getD x2.toNat 0).toNat : Int) ≥ (65 : Int))) (if 0 ≤ x2 ∧ x2 < (x0.length : Int) then
k0 x0 x1 x2 (decide (((x0.getD x2.toNat 0).toNat : Int) ≤ (90 : Int)))
else none) (k0 x0 x1 x2 false)
else none
theorem t69_6 {N cl} {R} (K : KE R) (x0 x1 x2) : exec cl N c69_6 [(0, .v .str x0), (3, .own true 5 U1 .no x1), (4, .v U2 x2)] K = (g69_6 x0 x1 x2 (fun y0 y1 y2 y3 => K .normal [(0, .v .str y0), (3, .own true 5 U1 .no y1), (4, .v U2 y2), (29, .v .bool y3)])) := by
  kernel_rfl
def g69_7 {R : Type} (x0 : V1) (x1 : V0) (x2 : Int) (x3 : Bool) (k0 : V1 → V0 → Int → Option R) : Option R :=
if 0 ≤ x2 ∧ x2 < (x0.length : Int) then
if 0 ≤ x2 ∧ x2 < (x1.length : Int) then
if x2.toNat < x1.length then
k0 x0 (x1.set x2.toNat (IntKind.u8.wrap ((IntKind.u8.wrap (((x0.getD x2.toNat 0).toNat : Int) - (65 : Int))) + (97 : Int)))) x2
else none
else none
else none
theorem t69_7 {N cl} {R} (K : KE R) (x0 x1 x2 x3) : exec cl N c69_7 [(0, .v .str x0), (3, .own true 5 U1 .no x1), (4, .v U2 x2), (29, .v .bool x3)] K = (g69_7 x0 x1 x2 x3 (fun y0 y1 y2 => K .normal [(0, .v .str y0), (3, .own true 5 U1 .no y1), (4, .v U2 y2)])) := by
  kernel_rfl
theorem kp69_2 (x0 x1 x2 x3) : keep [0, 3, 4] [(0, .v .str x0), (3, .own true 5 U1 .no x1), (4, .v U2 x2), (29, .v .bool x3)] = [(0, .v .str x0), (3, .own true 5 U1 .no x1), (4, .v U2 x2)] := by kernel_rfl
theorem hb69_1 (x0 : V1) (x1 : V0) (x2 : Int) (x3 : Bool) : boolOf? (ent [(0, .v .str x0), (3, .own true 5 U1 .no x1), (4, .v U2 x2), (29, .v .bool x3)] (.t 29)) = some x3 := by kernel_rfl
def g69_9 {R : Type} (x0 : V1) (x1 : V0) (x2 : Int) (k0 : V1 → V0 → Int → Option R) : Option R :=
(g69_5 x0 x1 x2 (fun y0 y1 y2 => (g69_6 y0 y1 y2 (fun y0 y1 y2 y3 => brB y3 (g69_7 y0 y1 y2 y3 (fun y0 y1 y2 => (k0 y0 y1 y2))) (k0 y0 y1 y2)))))
theorem t69_9 {N cl} {R} (K : KE R) (x0 x1 x2) : exec cl N c69_9 [(0, .v .str x0), (3, .own true 5 U1 .no x1), (4, .v U2 x2)] K = (g69_9 x0 x1 x2 (fun y0 y1 y2 => K .normal [(0, .v .str y0), (3, .own true 5 U1 .no y1), (4, .v U2 y2)])) := by
  simp only [c69_9, exec_out, exec_block, exec_seq, seqK_normal, seqK_exit, seqK_ret, t69_5, t69_6, c69_8, exec_cond', hb69_1, Option.bind_some, brB_true, brB_false, t69_7, exec_skip, kp69_0, kp69_2, blockK_normal, blockK_ret, blockK_eq]
  rfl
def g69_10 {R : Type} (x0 : V1) (x1 : V0) (x2 : Int) (k0 : V1 → V0 → Int → Option R) : Option R :=
k0 x0 x1 (IntKind.i64.wrap (x2 + (1 : Int)))
theorem t69_10 {N cl} {R} (K : KE R) (x0 x1 x2) : exec cl N c69_10 [(0, .v .str x0), (3, .own true 5 U1 .no x1), (4, .v U2 x2)] K = (g69_10 x0 x1 x2 (fun y0 y1 y2 => K .normal [(0, .v .str y0), (3, .own true 5 U1 .no y1), (4, .v U2 y2)])) := by
  kernel_rfl
def g69_11 {R : Type} (x0 : V1) (x1 : V0) (x2 : Int) (k0 : V1 → V0 → Int → Option R) (k1 : V1 → V0 → Int → Option R) : Option R :=
(g69_3 x0 x1 x2 (fun y0 y1 y2 y3 => brB y3 ((fun y0 y1 y2 => (g69_9 y0 y1 y2 (fun y0 y1 y2 => (g69_10 y0 y1 y2 k0)))) y0 y1 y2) (k1 y0 y1 y2)))
theorem t69_11 {N cl} {R} (K : KE R) (x0 x1 x2) : exec cl N c69_11 [(0, .v .str x0), (3, .own true 5 U1 .no x1), (4, .v U2 x2)] K = (g69_11 x0 x1 x2 (fun y0 y1 y2 => K .normal [(0, .v .str y0), (3, .own true 5 U1 .no y1), (4, .v U2 y2)]) (fun y0 y1 y2 => K (.exit 0) [(0, .v .str y0), (3, .own true 5 U1 .no y1), (4, .v U2 y2)])) := by
  simp only [c69_11, exec_seq, seqK_normal, seqK_exit, seqK_ret, t69_3, c69_4, exec_out, exec_cond', hb69_0, Option.bind_some, brB_true, brB_false, exec_skip, exec_exit, kp69_1, t69_9, t69_10]
  rfl
def l69_12 {R : Type} (k0 : V1 → V0 → Int → Option R) : Nat → V1 → V0 → Int → Option R
  | 0, _, _, _ => none
  | m + 1, x0, x1, x2 => (g69_11 x0 x1 x2 (fun y0 y1 y2 => l69_12 k0 m y0 y1 y2) k0)
theorem lt69_12 {N cl} {R} (K : KE R) : ∀ (m) (x0 x1 x2), iter [0, 3, 4] (fun env K => exec cl N c69_11 env K) K m [(0, .v .str x0), (3, .own true 5 U1 .no x1), (4, .v U2 x2)] = l69_12 (fun y0 y1 y2 => K (.exit 0) [(0, .v .str y0), (3, .own true 5 U1 .no y1), (4, .v U2 y2)]) m x0 x1 x2 := by
  intro m
  induction m with
  | zero => intros; rfl
  | succ m ih =>
    intro x0 x1 x2
    simp only [iter_succ, t69_11, loopK_normal, loopK_exit, loopK_ret, kp69_0, ih]
    rfl
theorem kp69_3 (x0 x1 x2) : keep [3] [(0, .v .str x0), (3, .own true 5 U1 .no x1), (4, .v U2 x2)] = [(3, .own true 5 U1 .no x1)] := by kernel_rfl
def g69_12 {R : Type} (N : Nat) (x0 : V1) (x1 : V0) (x2 : Int) (k0 : V0 → Option R) : Option R :=
l69_12 (fun y0 y1 y2 => k0 y1) N x0 x1 x2
theorem t69_12 {N cl} {R} (K : KE R) (x0 x1 x2) : exec cl N c69_12 [(0, .v .str x0), (3, .own true 5 U1 .no x1), (4, .v U2 x2)] K = (g69_12 N x0 x1 x2 (fun y0 => K (.exit 0) [(3, .own true 5 U1 .no y0)])) := by
  simp only [c69_12, exec_out, exec_loop, kp69_0, lt69_12, kp69_3]
  rfl
theorem kp69_4 (x0) : keep [3] [(3, .own true 5 U1 .no x0)] = [(3, .own true 5 U1 .no x0)] := by kernel_rfl
def g69_14 {R : Type} (x0 : V0) (k0 : V1 → Option R) : Option R :=
k0 (x0.map fun n => UInt8.ofNat n.toNat)
theorem t69_14 {N cl} {R} (K : KE R) (x0) : exec cl N c69_14 [(3, .own true 5 U1 .no x0)] K = (g69_14 x0 (fun y0 => K .normal [(2, .v .str y0)])) := by
  kernel_rfl
def g69_15 {R : Type} (N : Nat) (x0 : V1) (k0 : V1 → Option R) : Option R :=
(g69_0 x0 (fun y0 => (g69_1 y0 (fun y0 y1 => (g69_2 y0 y1 (fun y0 y1 y2 => (g69_12 N y0 y1 y2 (fun y0 => ((fun y0 => (g69_14 y0 (fun y0 => (k0 y0)))) y0)))))))))
theorem t69_15 {N cl} {R} (K : KE R) (x0) : exec cl N c69_15 [(0, .v .str x0)] K = (g69_15 N x0 (fun y0 => K .ret [(2, .v .str y0)])) := by
  simp only [c69_15, exec_seq, seqK_normal, seqK_exit, seqK_ret, t69_0, t69_1, t69_2, c69_13, exec_out, exec_block, t69_12, blockK_normal, blockK_ret, blockK_eq, kp69_4, t69_14, exec_ret]
  rfl
theorem rk69_0 (y0 : V1) : retK d69 .ret [(2, .v .str y0)] = some [.v .str y0] := by kernel_rfl
def g69 {R : Type} (N : Nat) (x0 : V1) (k : V1 → Option R) : Option R :=
(g69_15 N x0 (fun y0 => k y0))
theorem gen69 {N : Nat} {cl : Cal} (x0 : V1) {R : Type} (k : List E → Option R) : exec cl N c69 (params 0 [.v .str x0]) (fun e env => (retK d69 e env).bind k) = g69 N x0 (fun (r0 : V1) => k [.v .str r0]) := by
  have e0 : params 0 [.v .str x0] = [(0, .v .str x0)] := by kernel_rfl
  simp only [c69, e0, t69_15, rk69_0, Option.bind_some]
  rfl
def ctr69 (S : V1 → Option V5) : Ctr := { A := V1 × Unit, B := V1, f := 69, enc := fun a => [.v .str a.1], dec := (decC (decV .str) dec0), S := fun a => S a.1, ent := fun b => [.v .str b], ok := (decV_cons (T := .str) (fun es b h => dec0_some h)) }
def S69 (N : Nat) (x0 : V1) : Option V5 := g69 N x0 (fun (r0 : V1) => some (r0))
def g103_0 {R : Type} (x0 : Int) (k0 : Int → Option R) : Option R :=
k0 x0
theorem t103_0 {N cl} {R} (K : KE R) (x0) : exec cl N c103_0 [(0, .v U1 x0)] K = (g103_0 x0 (fun y0 => K .normal [(0, .v U1 y0)])) := by
  kernel_rfl
def g103_1 {R : Type} (x0 : Int) (k0 : Int → Bool → Option R) : Option R :=
brB (decide (x0 < (32 : Int))) (k0 x0 true) (k0 x0 (decide (x0 > (126 : Int))))
theorem t103_1 {N cl} {R} (K : KE R) (x0) : exec cl N c103_1 [(0, .v U1 x0)] K = (g103_1 x0 (fun y0 y1 => K .normal [(0, .v U1 y0), (9, .v .bool y1)])) := by
  kernel_rfl
def g103_2 {R : Type} (x0 : Int) (x1 : Bool) (k0 : Bool → Option R) : Option R :=
k0 false
theorem t103_2 {N cl} {R} (K : KE R) (x0 x1) : exec cl N c103_2 [(0, .v U1 x0), (9, .v .bool x1)] K = (g103_2 x0 x1 (fun y0 => K .normal [(2, .v .bool y0)])) := by
  kernel_rfl
theorem kp103_0 (x0) : keep [0, 2] [(2, .v .bool x0)] = [(0, .dead), (2, .v .bool x0)] := by kernel_rfl
theorem kp103_1 (x0 x1) : keep [0, 2] [(0, .v U1 x0), (9, .v .bool x1)] = [(0, .v U1 x0), (2, .dead)] := by kernel_rfl
theorem hb103_0 (x0 : Int) (x1 : Bool) : boolOf? (ent [(0, .v U1 x0), (9, .v .bool x1)] (.t 9)) = some x1 := by kernel_rfl
def g103_4 {R : Type} (x0 : Int) (k0 : Int → Int → Option R) : Option R :=
k0 x0 (0 : Int)
theorem t103_4 {N cl} {R} (K : KE R) (x0) : exec cl N c103_4 [(0, .v U1 x0), (2, .dead)] K = (g103_4 x0 (fun y0 y1 => K .normal [(0, .v U1 y0), (3, .v U2 y1)])) := by
  kernel_rfl
theorem kp103_2 (x0 x1) : keep [0, 3] [(0, .v U1 x0), (3, .v U2 x1)] = [(0, .v U1 x0), (3, .v U2 x1)] := by kernel_rfl
def g103_5 {R : Type} (x0 : Int) (x1 : Int) (k0 : Int → Int → Bool → Option R) : Option R :=
k0 x0 x1 (decide (x1 < (15 : Int)))
theorem t103_5 {N cl} {R} (K : KE R) (x0 x1) : exec cl N c103_5 [(0, .v U1 x0), (3, .v U2 x1)] K = (g103_5 x0 x1 (fun y0 y1 y2 => K .normal [(0, .v U1 y0), (3, .v U2 y1), (11, .v .bool y2)])) := by
  kernel_rfl
theorem kp103_3 (x0 x1 x2) : keep [0, 3] [(0, .v U1 x0), (3, .v U2 x1), (11, .v .bool x2)] = [(0, .v U1 x0), (3, .v U2 x1)] := by kernel_rfl
theorem hb103_1 (x0 : Int) (x1 : Int) (x2 : Bool) : boolOf? (ent [(0, .v U1 x0), (3, .v U2 x1), (11, .v .bool x2)] (.t 11)) = some x2 := by kernel_rfl
def g103_7 {R : Type} (x0 : Int) (x1 : Int) (k0 : Int → Int → Bool → Option R) : Option R :=
if 0 ≤ x1 ∧ x1 < (([32, 46, 44, 59, 58, 33, 63, 34, 45, 91, 93, 60, 62, 123, 125] : List UInt8).length : Int) then
k0 x0 x1 (((([32, 46, 44, 59, 58, 33, 63, 34, 45, 91, 93, 60, 62, 123, 125] : List UInt8).getD x1.toNat 0).toNat : Int) == x0)
else none
theorem t103_7 {N cl} {R} (K : KE R) (x0 x1) : exec cl N c103_7 [(0, .v U1 x0), (3, .v U2 x1)] K = (g103_7 x0 x1 (fun y0 y1 y2 => K .normal [(0, .v U1 y0), (3, .v U2 y1), (17, .v .bool y2)])) := by
  kernel_rfl
def g103_8 {R : Type} (x0 : Int) (x1 : Int) (x2 : Bool) (k0 : Bool → Option R) : Option R :=
k0 false
theorem t103_8 {N cl} {R} (K : KE R) (x0 x1 x2) : exec cl N c103_8 [(0, .v U1 x0), (3, .v U2 x1), (17, .v .bool x2)] K = (g103_8 x0 x1 x2 (fun y0 => K .normal [(2, .v .bool y0)])) := by
  kernel_rfl
theorem kp103_4 (x0) : keep [0, 2, 3] [(2, .v .bool x0)] = [(0, .dead), (2, .v .bool x0), (3, .dead)] := by kernel_rfl
theorem kp103_5 (x0 x1 x2) : keep [0, 2, 3] [(0, .v U1 x0), (3, .v U2 x1), (17, .v .bool x2)] = [(0, .v U1 x0), (2, .dead), (3, .v U2 x1)] := by kernel_rfl
theorem hb103_2 (x0 : Int) (x1 : Int) (x2 : Bool) : boolOf? (ent [(0, .v U1 x0), (3, .v U2 x1), (17, .v .bool x2)] (.t 17)) = some x2 := by kernel_rfl
theorem kp103_6 (x0) : keep [0, 2, 3] [(0, .dead), (2, .v .bool x0), (3, .dead)] = [(0, .dead), (2, .v .bool x0), (3, .dead)] := by kernel_rfl
theorem kp103_7 (x0 x1) : keep [0, 2, 3] [(0, .v U1 x0), (2, .dead), (3, .v U2 x1)] = [(0, .v U1 x0), (2, .dead), (3, .v U2 x1)] := by kernel_rfl
def g103_11 {R : Type} (x0 : Int) (x1 : Int) (k0 : Int → Int → Option R) : Option R :=
k0 x0 (IntKind.i64.wrap (x1 + (1 : Int)))
theorem t103_11 {N cl} {R} (K : KE R) (x0 x1) : exec cl N c103_11 [(0, .v U1 x0), (2, .dead), (3, .v U2 x1)] K = (g103_11 x0 x1 (fun y0 y1 => K .normal [(0, .v U1 y0), (3, .v U2 y1)])) := by
  kernel_rfl
def g103_12 {R : Type} (x0 : Int) (x1 : Int) (k0 : Bool → Option R) (k1 : Int → Int → Option R) (k2 : Int → Int → Option R) : Option R :=
(g103_5 x0 x1 (fun y0 y1 y2 => brB y2 ((fun y0 y1 => (g103_7 y0 y1 (fun y0 y1 y2 => brB y2 (g103_8 y0 y1 y2 (fun y0 => ((fun y0 => (k0 y0)) y0))) (g103_11 y0 y1 k1)))) y0 y1) (k2 y0 y1)))
theorem t103_12 {N cl} {R} (K : KE R) (x0 x1) : exec cl N c103_12 [(0, .v U1 x0), (3, .v U2 x1)] K = (g103_12 x0 x1 (fun y0 => K .ret [(0, .dead), (2, .v .bool y0), (3, .dead)]) (fun y0 y1 => K .normal [(0, .v U1 y0), (3, .v U2 y1)]) (fun y0 y1 => K (.exit 0) [(0, .v U1 y0), (3, .v U2 y1)])) := by
  simp only [c103_12, exec_seq, seqK_normal, seqK_exit, seqK_ret, t103_5, c103_6, exec_out, exec_cond', hb103_1, Option.bind_some, brB_true, brB_false, exec_skip, exec_exit, kp103_3, c103_10, exec_block, t103_7, c103_9, hb103_2, t103_8, exec_ret, kp103_4, kp103_5, blockK_normal, blockK_ret, blockK_eq, kp103_6, kp103_7, t103_11]
  rfl
def l103_13 {R : Type} (k0 : Bool → Option R) (k1 : Int → Int → Option R) : Nat → Int → Int → Option R
  | 0, _, _ => none
  | m + 1, x0, x1 => (g103_12 x0 x1 k0 (fun y0 y1 => l103_13 k0 k1 m y0 y1) k1)
theorem lt103_13 {N cl} {R} (K : KE R) : ∀ (m) (x0 x1), iter [0, 3] (fun env K => exec cl N c103_12 env K) K m [(0, .v U1 x0), (3, .v U2 x1)] = l103_13 (fun y0 => K .ret [(0, .dead), (2, .v .bool y0), (3, .dead)]) (fun y0 y1 => K (.exit 0) [(0, .v U1 y0), (3, .v U2 y1)]) m x0 x1 := by
  intro m
  induction m with
  | zero => intros; rfl
  | succ m ih =>
    intro x0 x1
    simp only [iter_succ, t103_12, loopK_normal, loopK_exit, loopK_ret, kp103_2, ih]
    rfl
theorem kp103_8 (x0) : keep [2] [(0, .dead), (2, .v .bool x0), (3, .dead)] = [(2, .v .bool x0)] := by kernel_rfl
theorem kp103_9 (x0 x1) : keep [2] [(0, .v U1 x0), (3, .v U2 x1)] = [(2, .dead)] := by kernel_rfl
def g103_13 {R : Type} (N : Nat) (x0 : Int) (x1 : Int) (k0 : Bool → Option R) (k1 : Option R) : Option R :=
l103_13 (fun y0 => k0 y0) (fun y0 y1 => k1) N x0 x1
theorem t103_13 {N cl} {R} (K : KE R) (x0 x1) : exec cl N c103_13 [(0, .v U1 x0), (3, .v U2 x1)] K = (g103_13 N x0 x1 (fun y0 => K .ret [(2, .v .bool y0)]) (K (.exit 0) [(2, .dead)])) := by
  simp only [c103_13, exec_out, exec_loop, kp103_2, lt103_13, kp103_8, kp103_9]
  rfl
theorem kp103_10 (x0) : keep [2] [(2, .v .bool x0)] = [(2, .v .bool x0)] := by kernel_rfl
theorem kp103_11 : keep [2] [(2, .dead)] = [(2, .dead)] := by kernel_rfl
def g103_15 {R : Type} (k0 : Bool → Option R) : Option R :=
k0 true
theorem t103_15 {N cl} {R} (K : KE R) : exec cl N c103_15 [(2, .dead)] K = (g103_15 (fun y0 => K .normal [(2, .v .bool y0)])) := by
  kernel_rfl
def g103_16 {R : Type} (N : Nat) (x0 : Int) (k0 : Bool → Option R) (k1 : Bool → Option R) : Option R :=
(g103_0 x0 (fun y0 => (g103_1 y0 (fun y0 y1 => brB y1 (g103_2 y0 y1 (fun y0 => ((fun y0 => (k0 y0)) y0))) ((fun y0 => (g103_4 y0 (fun y0 y1 => (g103_13 N y0 y1 (fun y0 => (k1 y0)) (g103_15 (fun y0 => (k1 y0))))))) y0)))))
theorem t103_16 {N cl} {R} (K : KE R) (x0) : exec cl N c103_16 [(0, .v U1 x0)] K = (g103_16 N x0 (fun y0 => K .ret [(0, .dead), (2, .v .bool y0)]) (fun y0 => K .ret [(2, .v .bool y0)])) := by
  simp only [c103_16, exec_seq, seqK_normal, seqK_exit, seqK_ret, t103_0, t103_1, c103_3, exec_out, exec_cond', hb103_0, Option.bind_some, brB_true, brB_false, t103_2, exec_ret, exec_skip, kp103_0, kp103_1, t103_4, c103_14, exec_block, t103_13, blockK_normal, blockK_ret, blockK_eq, kp103_10, kp103_11, t103_15]
  rfl
theorem rk103_0 (y0 : Bool) : retK d103 .ret [(0, .dead), (2, .v .bool y0)] = some [.v .bool y0] := by kernel_rfl
theorem rk103_1 (y0 : Bool) : retK d103 .ret [(2, .v .bool y0)] = some [.v .bool y0] := by kernel_rfl
def g103 {R : Type} (N : Nat) (x0 : Int) (k : Bool → Option R) : Option R :=
(g103_16 N x0 (fun y0 => k y0) (fun y0 => k y0))
theorem gen103 {N : Nat} {cl : Cal} (x0 : Int) {R : Type} (k : List E → Option R) : exec cl N c103 (params 0 [.v U1 x0]) (fun e env => (retK d103 e env).bind k) = g103 N x0 (fun (r0 : Bool) => k [.v .bool r0]) := by
  have e0 : params 0 [.v U1 x0] = [(0, .v U1 x0)] := by kernel_rfl
  simp only [c103, e0, t103_16, rk103_0, rk103_1, Option.bind_some]
  rfl
def ctr103 (S : Int → Option (Bool)) : Ctr := { A := Int × Unit, B := Bool, f := 103, enc := fun a => [.v U1 a.1], dec := (decC (decV U1) dec0), S := fun a => S a.1, ent := fun b => [.v .bool b], ok := (decV_cons (T := U1) (fun es b h => dec0_some h)) }
def S103 (N : Nat) (x0 : Int) : Option (Bool) := g103 N x0 (fun (r0 : Bool) => some (r0))
def g87_0 {R : Type} (x0 : V1) (k0 : V1 → Option R) : Option R :=
k0 x0
theorem t87_0 {N cl} {R} (K : KE R) (x0) : exec cl N c87_0 [(0, .v .str x0)] K = (g87_0 x0 (fun y0 => K .normal [(0, .v .str y0)])) := by
  kernel_rfl
def g87_1 {R : Type} (x0 : V1) (k0 : V1 → Bool → Option R) : Option R :=
k0 x0 (decide ((x0.length : Int) > (16 : Int)))
theorem t87_1 {N cl} {R} (K : KE R) (x0) : exec cl N c87_1 [(0, .v .str x0)] K = (g87_1 x0 (fun y0 y1 => K .normal [(0, .v .str y0), (6, .v .bool y1)])) := by
  kernel_rfl
def g87_2 {R : Type} (x0 : V1) (x1 : Bool) (k0 : Int → Option R) : Option R :=
k0 (3 : Int)
theorem t87_2 {N cl} {R} (K : KE R) (x0 x1) : exec cl N c87_2 [(0, .v .str x0), (6, .v .bool x1)] K = (g87_2 x0 x1 (fun y0 => K .normal [(2, .v U2 y0)])) := by
  kernel_rfl
theorem kp87_0 (x0) : keep [0, 2] [(2, .v U2 x0)] = [(0, .dead), (2, .v U2 x0)] := by kernel_rfl
theorem kp87_1 (x0 x1) : keep [0, 2] [(0, .v .str x0), (6, .v .bool x1)] = [(0, .v .str x0), (2, .dead)] := by kernel_rfl
theorem hb87_0 (x0 : V1) (x1 : Bool) : boolOf? (ent [(0, .v .str x0), (6, .v .bool x1)] (.t 6)) = some x1 := by kernel_rfl
def g87_4 {R : Type} (S69 : V1 → Option V5) (x0 : V1) (k0 : V1 → Bool → Option R) : Option R :=
brB (x0 == ([] : List UInt8)) (k0 x0 true) ((S69 x0).bind fun r653 =>
k0 x0 (r653 != x0))
theorem t87_4 {N cl} (S69) (h69 : (ctr69 S69).holds cl) {R} (K : KE R) (x0) : exec cl N c87_4 [(0, .v .str x0), (2, .dead)] K = (g87_4 S69 x0 (fun y0 y1 => K .normal [(0, .v .str y0), (14, .v .bool y1)])) := by
  rw [← put_eq h69]
  kernel_rfl
def g87_5 {R : Type} (x0 : V1) (x1 : Bool) (k0 : Int → Option R) : Option R :=
k0 (2 : Int)
theorem t87_5 {N cl} {R} (K : KE R) (x0 x1) : exec cl N c87_5 [(0, .v .str x0), (14, .v .bool x1)] K = (g87_5 x0 x1 (fun y0 => K .normal [(2, .v U2 y0)])) := by
  kernel_rfl
theorem kp87_2 (x0 x1) : keep [0, 2] [(0, .v .str x0), (14, .v .bool x1)] = [(0, .v .str x0), (2, .dead)] := by kernel_rfl
theorem hb87_1 (x0 : V1) (x1 : Bool) : boolOf? (ent [(0, .v .str x0), (14, .v .bool x1)] (.t 14)) = some x1 := by kernel_rfl
def g87_7 {R : Type} (x0 : V1) (k0 : V1 → Int → Option R) : Option R :=
k0 x0 (0 : Int)
theorem t87_7 {N cl} {R} (K : KE R) (x0) : exec cl N c87_7 [(0, .v .str x0), (2, .dead)] K = (g87_7 x0 (fun y0 y1 => K .normal [(0, .v .str y0), (3, .v U2 y1)])) := by
  kernel_rfl
theorem kp87_3 (x0 x1) : keep [0, 3] [(0, .v .str x0), (3, .v U2 x1)] = [(0, .v .str x0), (3, .v U2 x1)] := by kernel_rfl
def g87_8 {R : Type} (x0 : V1) (x1 : Int) (k0 : V1 → Int → Bool → Option R) : Option R :=
k0 x0 x1 (decide (x1 < (x0.length : Int)))
theorem t87_8 {N cl} {R} (K : KE R) (x0 x1) : exec cl N c87_8 [(0, .v .str x0), (3, .v U2 x1)] K = (g87_8 x0 x1 (fun y0 y1 y2 => K .normal [(0, .v .str y0), (3, .v U2 y1), (18, .v .bool y2)])) := by
  kernel_rfl
theorem kp87_4 (x0 x1 x2) : keep [0, 3] [(0, .v .str x0), (3, .v U2 x1), (18, .v .bool x2)] = [(0, .v .str x0), (3, .v U2 x1)] := by kernel_rfl
theorem hb87_2 (x0 : V1) (x1 : Int) (x2 : Bool) : boolOf? (ent [(0, .v .str x0), (3, .v U2 x1), (18, .v .bool x2)] (.t 18)) = some x2 := by kernel_rfl
def g87_10 {R : Type} (S103 : Int → Option (Bool)) (x0 : V1) (x1 : Int) (k0 : V1 → Int → Bool → Option R) : Option R :=
if 0 ≤ x1 ∧ x1 < (x0.length : Int) then
(S103 ((x0.getD x1.toNat 0).toNat : Int)).bind fun r656 =>
k0 x0 x1 (!r656)
else none
theorem t87_10 {N cl} (S103) (h103 : (ctr103 S103).holds cl) {R} (K : KE R) (x0 x1) : exec cl N c87_10 [(0, .v .str x0), (3, .v U2 x1)] K = (g87_10 S103 x0 x1 (fun y0 y1 y2 => K .normal [(0, .v .str y0), (3, .v U2 y1), (25, .v .bool y2)])) := by
  rw [← put_eq h103]
  kernel_rfl
def g87_11 {R : Type} (x0 : V1) (x1 : Int) (x2 : Bool) (k0 : Int → Option R) : Option R :=
k0 (2 : Int)
theorem t87_11 {N cl} {R} (K : KE R) (x0 x1 x2) : exec cl N c87_11 [(0, .v .str x0), (3, .v U2 x1), (25, .v .bool x2)] K = (g87_11 x0 x1 x2 (fun y0 => K .normal [(2, .v U2 y0)])) := by
  kernel_rfl
theorem kp87_5 (x0) : keep [0, 2, 3] [(2, .v U2 x0)] = [(0, .dead), (2, .v U2 x0), (3, .dead)] := by kernel_rfl
theorem kp87_6 (x0 x1 x2) : keep [0, 2, 3] [(0, .v .str x0), (3, .v U2 x1), (25, .v .bool x2)] = [(0, .v .str x0), (2, .dead), (3, .v U2 x1)] := by kernel_rfl
theorem hb87_3 (x0 : V1) (x1 : Int) (x2 : Bool) : boolOf? (ent [(0, .v .str x0), (3, .v U2 x1), (25, .v .bool x2)] (.t 25)) = some x2 := by kernel_rfl
theorem kp87_7 (x0) : keep [0, 2, 3] [(0, .dead), (2, .v U2 x0), (3, .dead)] = [(0, .dead), (2, .v U2 x0), (3, .dead)] := by kernel_rfl
theorem kp87_8 (x0 x1) : keep [0, 2, 3] [(0, .v .str x0), (2, .dead), (3, .v U2 x1)] = [(0, .v .str x0), (2, .dead), (3, .v U2 x1)] := by kernel_rfl
def g87_14 {R : Type} (x0 : V1) (x1 : Int) (k0 : V1 → Int → Option R) : Option R :=
k0 x0 (IntKind.i64.wrap (x1 + (1 : Int)))
theorem t87_14 {N cl} {R} (K : KE R) (x0 x1) : exec cl N c87_14 [(0, .v .str x0), (2, .dead), (3, .v U2 x1)] K = (g87_14 x0 x1 (fun y0 y1 => K .normal [(0, .v .str y0), (3, .v U2 y1)])) := by
  kernel_rfl
def g87_15 {R : Type} (S103 : Int → Option (Bool)) (x0 : V1) (x1 : Int) (k0 : Int → Option R) (k1 : V1 → Int → Option R) (k2 : V1 → Int → Option R) : Option R :=
(g87_8 x0 x1 (fun y0 y1 y2 => brB y2 ((fun y0 y1 => (g87_10 S103 y0 y1 (fun y0 y1 y2 => brB y2 (g87_11 y0 y1 y2 (fun y0 => ((fun y0 => (k0 y0)) y0))) (g87_14 y0 y1 k1)))) y0 y1) (k2 y0 y1)))
theorem t87_15 {N cl} (S103) (h103 : (ctr103 S103).holds cl) {R} (K : KE R) (x0 x1) : exec cl N c87_15 [(0, .v .str x0), (3, .v U2 x1)] K = (g87_15 S103 x0 x1 (fun y0 => K .ret [(0, .dead), (2, .v U2 y0), (3, .dead)]) (fun y0 y1 => K .normal [(0, .v .str y0), (3, .v U2 y1)]) (fun y0 y1 => K (.exit 0) [(0, .v .str y0), (3, .v U2 y1)])) := by
  simp only [c87_15, exec_seq, seqK_normal, seqK_exit, seqK_ret, t87_8, c87_9, exec_out, exec_cond', hb87_2, Option.bind_some, brB_true, brB_false, exec_skip, exec_exit, kp87_4, c87_13, exec_block, t87_10 S103 h103, c87_12, hb87_3, t87_11, exec_ret, kp87_5, kp87_6, blockK_normal, blockK_ret, blockK_eq, kp87_7, kp87_8, t87_14]
  rfl
def l87_16 {R : Type} (S103 : Int → Option (Bool)) (k0 : Int → Option R) (k1 : V1 → Int → Option R) : Nat → V1 → Int → Option R
  | 0, _, _ => none
  | m + 1, x0, x1 => (g87_15 S103 x0 x1 k0 (fun y0 y1 => l87_16 S103 k0 k1 m y0 y1) k1)
theorem lt87_16 {N cl} (S103) (h103 : (ctr103 S103).holds cl) {R} (K : KE R) : ∀ (m) (x0 x1), iter [0, 3] (fun env K => exec cl N c87_15 env K) K m [(0, .v .str x0), (3, .v U2 x1)] = l87_16 S103 (fun y0 => K .ret [(0, .dead), (2, .v U2 y0), (3, .dead)]) (fun y0 y1 => K (.exit 0) [(0, .v .str y0), (3, .v U2 y1)]) m x0 x1 := by
  intro m
  induction m with
  | zero => intros; rfl
  | succ m ih =>
    intro x0 x1
    simp only [iter_succ, t87_15 S103 h103, loopK_normal, loopK_exit, loopK_ret, kp87_3, ih]
    rfl
theorem kp87_9 (x0) : keep [2] [(0, .dead), (2, .v U2 x0), (3, .dead)] = [(2, .v U2 x0)] := by kernel_rfl
theorem kp87_10 (x0 x1) : keep [2] [(0, .v .str x0), (3, .v U2 x1)] = [(2, .dead)] := by kernel_rfl
def g87_16 {R : Type} (N : Nat) (S103 : Int → Option (Bool)) (x0 : V1) (x1 : Int) (k0 : Int → Option R) (k1 : Option R) : Option R :=
l87_16 S103 (fun y0 => k0 y0) (fun y0 y1 => k1) N x0 x1
theorem t87_16 {N cl} (S103) (h103 : (ctr103 S103).holds cl) {R} (K : KE R) (x0 x1) : exec cl N c87_16 [(0, .v .str x0), (3, .v U2 x1)] K = (g87_16 N S103 x0 x1 (fun y0 => K .ret [(2, .v U2 y0)]) (K (.exit 0) [(2, .dead)])) := by
  simp only [c87_16, exec_out, exec_loop, kp87_3, lt87_16 S103 h103, kp87_10, kp87_9]
  rfl
theorem kp87_11 (x0) : keep [2] [(2, .v U2 x0)] = [(2, .v U2 x0)] := by kernel_rfl
theorem kp87_12 : keep [2] [(2, .dead)] = [(2, .dead)] := by kernel_rfl
def g87_18 {R : Type} (k0 : Int → Option R) : Option R :=
k0 (0 : Int)
theorem t87_18 {N cl} {R} (K : KE R) : exec cl N c87_18 [(2, .dead)] K = (g87_18 (fun y0 => K .normal [(2, .v U2 y0)])) := by
  kernel_rfl
def g87_19 {R : Type} (N : Nat) (S69 : V1 → Option V5) (S103 : Int → Option (Bool)) (x0 : V1) (k0 : Int → Option R) (k1 : Int → Option R) : Option R :=
(g87_0 x0 (fun y0 => (g87_1 y0 (fun y0 y1 => brB y1 (g87_2 y0 y1 (fun y0 => ((fun y0 => (k0 y0)) y0))) ((fun y0 => (g87_4 S69 y0 (fun y0 y1 => brB y1 (g87_5 y0 y1 (fun y0 => ((fun y0 => (k0 y0)) y0))) ((fun y0 => (g87_7 y0 (fun y0 y1 => (g87_16 N S103 y0 y1 (fun y0 => (k1 y0)) (g87_18 (fun y0 => (k1 y0))))))) y0)))) y0)))))
theorem t87_19 {N cl} (S69) (S103) (h69 : (ctr69 S69).holds cl) (h103 : (ctr103 S103).holds cl) {R} (K : KE R) (x0) : exec cl N c87_19 [(0, .v .str x0)] K = (g87_19 N S69 S103 x0 (fun y0 => K .ret [(0, .dead), (2, .v U2 y0)]) (fun y0 => K .ret [(2, .v U2 y0)])) := by
  simp only [c87_19, exec_seq, seqK_normal, seqK_exit, seqK_ret, t87_0, t87_1, c87_3, exec_out, exec_cond', hb87_0, Option.bind_some, brB_true, brB_false, t87_2, exec_ret, exec_skip, kp87_0, kp87_1, t87_4 S69 h69, c87_6, hb87_1, t87_5, kp87_2, t87_7, c87_17, exec_block, t87_16 S103 h103, blockK_normal, blockK_ret, blockK_eq, kp87_11, kp87_12, t87_18]
  rfl
theorem rk87_0 (y0 : Int) : retK d87 .ret [(0, .dead), (2, .v U2 y0)] = some [.v U2 y0] := by kernel_rfl
theorem rk87_1 (y0 : Int) : retK d87 .ret [(2, .v U2 y0)] = some [.v U2 y0] := by kernel_rfl
def g87 {R : Type} (N : Nat) (S69 : V1 → Option V5) (S103 : Int → Option (Bool)) (x0 : V1) (k : Int → Option R) : Option R :=
(g87_19 N S69 S103 x0 (fun y0 => k y0) (fun y0 => k y0))
theorem gen87 {N : Nat} {cl : Cal} (S69 : V1 → Option V5) (S103 : Int → Option (Bool)) (h69 : (ctr69 S69).holds cl) (h103 : (ctr103 S103).holds cl) (x0 : V1) {R : Type} (k : List E → Option R) : exec cl N c87 (params 0 [.v .str x0]) (fun e env => (retK d87 e env).bind k) = g87 N S69 S103 x0 (fun (r0 : Int) => k [.v U2 r0]) := by
  have e0 : params 0 [.v .str x0] = [(0, .v .str x0)] := by kernel_rfl
  simp only [c87, e0, t87_19 S69 S103 h69 h103, rk87_0, rk87_1, Option.bind_some]
  rfl
def ctr87 (S : V1 → Option (Int)) : Ctr := { A := V1 × Unit, B := Int, f := 87, enc := fun a => [.v .str a.1], dec := (decC (decV .str) dec0), S := fun a => S a.1, ent := fun b => [.v U2 b], ok := (decV_cons (T := .str) (fun es b h => dec0_some h)) }
def S87 (N : Nat) (x0 : V1) : Option (Int) := g87 N (S69 N) (S103 N) x0 (fun (r0 : Int) => some (r0))
def g70_0 {R : Type} (x0 : V6) (x1 : V1) (k0 : V6 → V1 → Option R) : Option R :=
k0 x0 x1
theorem t70_0 {N cl} {R} (K : KE R) (x0 x1) : exec cl N c70_0 [(0, .v U0 x0), (1, .v .str x1)] K = (g70_0 x0 x1 (fun y0 y1 => K .normal [(0, .v U0 y0), (1, .v .str y1)])) := by
  kernel_rfl
def g70_1 {R : Type} (x0 : V6) (x1 : V1) (k0 : V6 → V1 → Int → Option R) : Option R :=
k0 x0 x1 (0 : Int)
theorem t70_1 {N cl} {R} (K : KE R) (x0 x1) : exec cl N c70_1 [(0, .v U0 x0), (1, .v .str x1)] K = (g70_1 x0 x1 (fun y0 y1 y2 => K .normal [(0, .v U0 y0), (1, .v .str y1), (5, .v U2 y2)])) := by
  kernel_rfl
theorem kp70_0 (x0 x1 x2) : keep [0, 1, 5] [(0, .v U0 x0), (1, .v .str x1), (5, .v U2 x2)] = [(0, .v U0 x0), (1, .v .str x1), (5, .v U2 x2)] := by kernel_rfl
def g70_2 {R : Type} (x0 : V6) (x1 : V1) (x2 : Int) (k0 : V6 → V1 → Int → Bool → Option R) : Option R :=
k0 x0 x1 x2 (decide (x2 < (x0.length : Int)))
theorem t70_2 {N cl} {R} (K : KE R) (x0 x1 x2) : exec cl N c70_2 [(0, .v U0 x0), (1, .v .str x1), (5, .v U2 x2)] K = (g70_2 x0 x1 x2 (fun y0 y1 y2 y3 => K .normal [(0, .v U0 y0), (1, .v .str y1), (5, .v U2 y2), (9, .v .bool y3)])) := by
  kernel_rfl
theorem kp70_1 (x0 x1 x2 x3) : keep [0, 1, 5] [(0, .v U0 x0), (1, .v .str x1), (5, .v U2 x2), (9, .v .bool x3)] = [(0, .v U0 x0), (1, .v .str x1), (5, .v U2 x2)] := by kernel_rfl
theorem hb70_0 (x0 : V6) (x1 : V1) (x2 : Int) (x3 : Bool) : boolOf? (ent [(0, .v U0 x0), (1, .v .str x1), (5, .v U2 x2), (9, .v .bool x3)] (.t 9)) = some x3 := by kernel_rfl
def g70_4 {R : Type} (x0 : V6) (x1 : V1) (x2 : Int) (k0 : V6 → V1 → Int → Bool → Option R) : Option R :=
if 0 ≤ x2 ∧ x2 < (x0.length : Int) then
k0 x0 x1 x2 ((x0.getD x2.toNat []) == x1)
else none
theorem t70_4 {N cl} {R} (K : KE R) (x0 x1 x2) : exec cl N c70_4 [(0, .v U0 x0), (1, .v .str x1), (5, .v U2 x2)] K = (g70_4 x0 x1 x2 (fun y0 y1 y2 y3 => K .normal [(0, .v U0 y0), (1, .v .str y1), (5, .v U2 y2), (17, .v .bool y3)])) := by
  kernel_rfl
def g70_5 {R : Type} (x0 : V6) (x1 : V1) (x2 : Int) (x3 : Bool) (k0 : Bool → Option R) : Option R :=
k0 true
theorem t70_5 {N cl} {R} (K : KE R) (x0 x1 x2 x3) : exec cl N c70_5 [(0, .v U0 x0), (1, .v .str x1), (5, .v U2 x2), (17, .v .bool x3)] K = (g70_5 x0 x1 x2 x3 (fun y0 => K .normal [(4, .v .bool y0)])) := by
  kernel_rfl
theorem kp70_2 (x0) : keep [0, 1, 4, 5] [(4, .v .bool x0)] = [(0, .dead), (1, .dead), (4, .v .bool x0), (5, .dead)] := by kernel_rfl
theorem kp70_3 (x0 x1 x2 x3) : keep [0, 1, 4, 5] [(0, .v U0 x0), (1, .v .str x1), (5, .v U2 x2), (17, .v .bool x3)] = [(0, .v U0 x0), (1, .v .str x1), (4, .dead), (5, .v U2 x2)] := by kernel_rfl
theorem hb70_1 (x0 : V6) (x1 : V1) (x2 : Int) (x3 : Bool) : boolOf? (ent [(0, .v U0 x0), (1, .v .str x1), (5, .v U2 x2), (17, .v .bool x3)] (.t 17)) = some x3 := by kernel_rfl
theorem kp70_4 (x0) : keep [0, 1, 4, 5] [(0, .dead), (1, .dead), (4, .v .bool x0), (5, .dead)] = [(0, .dead), (1, .dead), (4, .v .bool x0), (5, .dead)] := by kernel_rfl
theorem kp70_5 (x0 x1 x2) : keep [0, 1, 4, 5] [(0, .v U0 x0), (1, .v .str x1), (4, .dead), (5, .v U2 x2)] = [(0, .v U0 x0), (1, .v .str x1), (4, .dead), (5, .v U2 x2)] := by kernel_rfl
def g70_8 {R : Type} (x0 : V6) (x1 : V1) (x2 : Int) (k0 : V6 → V1 → Int → Option R) : Option R :=
k0 x0 x1 (IntKind.i64.wrap (x2 + (1 : Int)))
theorem t70_8 {N cl} {R} (K : KE R) (x0 x1 x2) : exec cl N c70_8 [(0, .v U0 x0), (1, .v .str x1), (4, .dead), (5, .v U2 x2)] K = (g70_8 x0 x1 x2 (fun y0 y1 y2 => K .normal [(0, .v U0 y0), (1, .v .str y1), (5, .v U2 y2)])) := by
  kernel_rfl
def g70_9 {R : Type} (x0 : V6) (x1 : V1) (x2 : Int) (k0 : Bool → Option R) (k1 : V6 → V1 → Int → Option R) (k2 : V6 → V1 → Int → Option R) : Option R :=
(g70_2 x0 x1 x2 (fun y0 y1 y2 y3 => brB y3 ((fun y0 y1 y2 => (g70_4 y0 y1 y2 (fun y0 y1 y2 y3 => brB y3 (g70_5 y0 y1 y2 y3 (fun y0 => ((fun y0 => (k0 y0)) y0))) (g70_8 y0 y1 y2 k1)))) y0 y1 y2) (k2 y0 y1 y2)))
theorem t70_9 {N cl} {R} (K : KE R) (x0 x1 x2) : exec cl N c70_9 [(0, .v U0 x0), (1, .v .str x1), (5, .v U2 x2)] K = (g70_9 x0 x1 x2 (fun y0 => K .ret [(0, .dead), (1, .dead), (4, .v .bool y0), (5, .dead)]) (fun y0 y1 y2 => K .normal [(0, .v U0 y0), (1, .v .str y1), (5, .v U2 y2)]) (fun y0 y1 y2 => K (.exit 0) [(0, .v U0 y0), (1, .v .str y1), (5, .v U2 y2)])) := by
  simp only [c70_9, exec_seq, seqK_normal, seqK_exit, seqK_ret, t70_2, c70_3, exec_out, exec_cond', hb70_0, Option.bind_some, brB_true, brB_false, exec_skip, exec_exit, kp70_1, c70_7, exec_block, t70_4, c70_6, hb70_1, t70_5, exec_ret, kp70_2, kp70_3, blockK_normal, blockK_ret, blockK_eq, kp70_4, kp70_5, t70_8]
  rfl
def l70_10 {R : Type} (k0 : Bool → Option R) (k1 : V6 → V1 → Int → Option R) : Nat → V6 → V1 → Int → Option R
  | 0, _, _, _ => none
  | m + 1, x0, x1, x2 => (g70_9 x0 x1 x2 k0 (fun y0 y1 y2 => l70_10 k0 k1 m y0 y1 y2) k1)
theorem lt70_10 {N cl} {R} (K : KE R) : ∀ (m) (x0 x1 x2), iter [0, 1, 5] (fun env K => exec cl N c70_9 env K) K m [(0, .v U0 x0), (1, .v .str x1), (5, .v U2 x2)] = l70_10 (fun y0 => K .ret [(0, .dead), (1, .dead), (4, .v .bool y0), (5, .dead)]) (fun y0 y1 y2 => K (.exit 0) [(0, .v U0 y0), (1, .v .str y1), (5, .v U2 y2)]) m x0 x1 x2 := by
  intro m
  induction m with
  | zero => intros; rfl
  | succ m ih =>
    intro x0 x1 x2
    simp only [iter_succ, t70_9, loopK_normal, loopK_exit, loopK_ret, kp70_0, ih]
    rfl
theorem kp70_6 (x0) : keep [4] [(0, .dead), (1, .dead), (4, .v .bool x0), (5, .dead)] = [(4, .v .bool x0)] := by kernel_rfl
theorem kp70_7 (x0 x1 x2) : keep [4] [(0, .v U0 x0), (1, .v .str x1), (5, .v U2 x2)] = [(4, .dead)] := by kernel_rfl
def g70_10 {R : Type} (N : Nat) (x0 : V6) (x1 : V1) (x2 : Int) (k0 : Bool → Option R) (k1 : Option R) : Option R :=
l70_10 (fun y0 => k0 y0) (fun y0 y1 y2 => k1) N x0 x1 x2
theorem t70_10 {N cl} {R} (K : KE R) (x0 x1 x2) : exec cl N c70_10 [(0, .v U0 x0), (1, .v .str x1), (5, .v U2 x2)] K = (g70_10 N x0 x1 x2 (fun y0 => K .ret [(4, .v .bool y0)]) (K (.exit 0) [(4, .dead)])) := by
  simp only [c70_10, exec_out, exec_loop, kp70_0, lt70_10, kp70_6, kp70_7]
  rfl
theorem kp70_8 (x0) : keep [4] [(4, .v .bool x0)] = [(4, .v .bool x0)] := by kernel_rfl
theorem kp70_9 : keep [4] [(4, .dead)] = [(4, .dead)] := by kernel_rfl
def g70_12 {R : Type} (k0 : Bool → Option R) : Option R :=
k0 false
theorem t70_12 {N cl} {R} (K : KE R) : exec cl N c70_12 [(4, .dead)] K = (g70_12 (fun y0 => K .normal [(4, .v .bool y0)])) := by
  kernel_rfl
def g70_13 {R : Type} (N : Nat) (x0 : V6) (x1 : V1) (k0 : Bool → Option R) : Option R :=
(g70_0 x0 x1 (fun y0 y1 => (g70_1 y0 y1 (fun y0 y1 y2 => (g70_10 N y0 y1 y2 (fun y0 => (k0 y0)) (g70_12 (fun y0 => (k0 y0))))))))
theorem t70_13 {N cl} {R} (K : KE R) (x0 x1) : exec cl N c70_13 [(0, .v U0 x0), (1, .v .str x1)] K = (g70_13 N x0 x1 (fun y0 => K .ret [(4, .v .bool y0)])) := by
  simp only [c70_13, exec_seq, seqK_normal, seqK_exit, seqK_ret, t70_0, t70_1, c70_11, exec_out, exec_block, t70_10, blockK_normal, blockK_ret, blockK_eq, kp70_8, kp70_9, t70_12, exec_ret]
  rfl
theorem rk70_0 (y0 : Bool) : retK d70 .ret [(4, .v .bool y0)] = some [.v .bool y0] := by kernel_rfl
def g70 {R : Type} (N : Nat) (x0 : V6) (x1 : V1) (k : Bool → Option R) : Option R :=
(g70_13 N x0 x1 (fun y0 => k y0))
theorem gen70 {N : Nat} {cl : Cal} (x0 : V6) (x1 : V1) {R : Type} (k : List E → Option R) : exec cl N c70 (params 0 [.v U0 x0, .v .str x1]) (fun e env => (retK d70 e env).bind k) = g70 N x0 x1 (fun (r0 : Bool) => k [.v .bool r0]) := by
  have e0 : params 0 [.v U0 x0, .v .str x1] = [(0, .v U0 x0), (1, .v .str x1)] := by kernel_rfl
  simp only [c70, e0, t70_13, rk70_0, Option.bind_some]
  rfl
def ctr70 (S : V6 → V1 → Option (Bool)) : Ctr := { A := V6 × V1 × Unit, B := Bool, f := 70, enc := fun a => [.v U0 a.1, .v .str a.2.1], dec := (decC (decV U0) (decC (decV .str) dec0)), S := fun a => S a.1 a.2.1, ent := fun b => [.v .bool b], ok := (decV_cons (T := U0) (decV_cons (T := .str) (fun es b h => dec0_some h))) }
def S70 (N : Nat) (x0 : V6) (x1 : V1) : Option (Bool) := g70 N x0 x1 (fun (r0 : Bool) => some (r0))
def g66_0 {R : Type} (x0 : V22) (k0 : V22 → Option R) : Option R :=
k0 x0
theorem t66_0 {N cl} {R} (K : KE R) (x0) : exec cl N c66_0 [(0, .v U20 x0)] K = (g66_0 x0 (fun y0 => K .normal [(1, .loc U20 .no y0)])) := by
  kernel_rfl
def g66_1 {R : Type} (x0 : V22) (k0 : V22 → Bool → Option R) : Option R :=
brB (decide (x0.1 < (1 : Int))) (k0 x0 true) (brB (decide (x0.1 > (12 : Int))) (k0 x0 true) (brB (decide (x0.2.1 < (0 : Int))) (k0 x0 true) (k0 x0 (decide (x0.2.1 > (999 : Int))))))
theorem t66_1 {N cl} {R} (K : KE R) (x0) : exec cl N c66_1 [(1, .loc U20 .no x0)] K = (g66_1 x0 (fun y0 y1 => K .normal [(1, .loc U20 .no y0), (22, .v .bool y1)])) := by
  kernel_rfl
def g66_2 {R : Type} (x0 : V22) (x1 : Bool) (k0 : Int → Option R) : Option R :=
k0 (6 : Int)
theorem t66_2 {N cl} {R} (K : KE R) (x0 x1) : exec cl N c66_2 [(1, .loc U20 .no x0), (22, .v .bool x1)] K = (g66_2 x0 x1 (fun y0 => K .normal [(2, .v U2 y0)])) := by
  kernel_rfl
theorem kp66_0 (x0) : keep [1, 2] [(2, .v U2 x0)] = [(1, .dead), (2, .v U2 x0)] := by kernel_rfl
theorem kp66_1 (x0 x1) : keep [1, 2] [(1, .loc U20 .no x0), (22, .v .bool x1)] = [(1, .loc U20 .no x0), (2, .dead)] := by kernel_rfl
theorem hb66_0 (x0 : V22) (x1 : Bool) : boolOf? (ent [(1, .loc U20 .no x0), (22, .v .bool x1)] (.t 22)) = some x1 := by kernel_rfl
def g66_4 {R : Type} (x0 : V22) (k0 : V22 → Bool → Option R) : Option R :=
k0 x0 (decide ((x0.2.2.1.length : Int) > (20 : Int)))
theorem t66_4 {N cl} {R} (K : KE R) (x0) : exec cl N c66_4 [(1, .loc U20 .no x0), (2, .dead)] K = (g66_4 x0 (fun y0 y1 => K .normal [(1, .loc U20 .no y0), (26, .v .bool y1)])) := by
  kernel_rfl
def g66_5 {R : Type} (x0 : V22) (x1 : Bool) (k0 : Int → Option R) : Option R :=
k0 (3 : Int)
theorem t66_5 {N cl} {R} (K : KE R) (x0 x1) : exec cl N c66_5 [(1, .loc U20 .no x0), (26, .v .bool x1)] K = (g66_5 x0 x1 (fun y0 => K .normal [(2, .v U2 y0)])) := by
  kernel_rfl
theorem kp66_2 (x0 x1) : keep [1, 2] [(1, .loc U20 .no x0), (26, .v .bool x1)] = [(1, .loc U20 .no x0), (2, .dead)] := by kernel_rfl
theorem hb66_1 (x0 : V22) (x1 : Bool) : boolOf? (ent [(1, .loc U20 .no x0), (26, .v .bool x1)] (.t 26)) = some x1 := by kernel_rfl
def g66_7 {R : Type} (x0 : V22) (k0 : V22 → Int → Option R) : Option R :=
k0 x0 (0 : Int)
theorem t66_7 {N cl} {R} (K : KE R) (x0) : exec cl N c66_7 [(1, .loc U20 .no x0), (2, .dead)] K = (g66_7 x0 (fun y0 y1 => K .normal [(1, .loc U20 .no y0), (3, .v U2 y1)])) := by
  kernel_rfl
theorem kp66_3 (x0 x1) : keep [1, 3] [(1, .loc U20 .no x0), (3, .v U2 x1)] = [(1, .loc U20 .no x0), (3, .v U2 x1)] := by kernel_rfl
def g66_8 {R : Type} (x0 : V22) (x1 : Int) (k0 : V22 → Int → Bool → Option R) : Option R :=
k0 x0 x1 (decide (x1 < (x0.2.2.1.length : Int)))
theorem t66_8 {N cl} {R} (K : KE R) (x0 x1) : exec cl N c66_8 [(1, .loc U20 .no x0), (3, .v U2 x1)] K = (g66_8 x0 x1 (fun y0 y1 y2 => K .normal [(1, .loc U20 .no y0), (3, .v U2 y1), (31, .v .bool y2)])) := by
  kernel_rfl
theorem kp66_4 (x0 x1 x2) : keep [1, 3] [(1, .loc U20 .no x0), (3, .v U2 x1), (31, .v .bool x2)] = [(1, .loc U20 .no x0), (3, .v U2 x1)] := by kernel_rfl
theorem hb66_2 (x0 : V22) (x1 : Int) (x2 : Bool) : boolOf? (ent [(1, .loc U20 .no x0), (3, .v U2 x1), (31, .v .bool x2)] (.t 31)) = some x2 := by kernel_rfl
def g66_10 {R : Type} (S87 : V1 → Option (Int)) (x0 : V22) (x1 : Int) (k0 : V22 → Int → Int → Option R) : Option R :=
if 0 ≤ x1 ∧ x1 < (x0.2.2.1.length : Int) then
(S87 (x0.2.2.1.getD x1.toNat [])).bind fun r675 =>
k0 x0 x1 r675
else none
theorem t66_10 {N cl} (S87) (h87 : (ctr87 S87).holds cl) {R} (K : KE R) (x0 x1) : exec cl N c66_10 [(1, .loc U20 .no x0), (3, .v U2 x1)] K = (g66_10 S87 x0 x1 (fun y0 y1 y2 => K .normal [(1, .loc U20 .no y0), (3, .v U2 y1), (4, .v U2 y2)])) := by
  rw [← put_eq h87]
  kernel_rfl
def g66_11 {R : Type} (x0 : V22) (x1 : Int) (x2 : Int) (k0 : V22 → Int → Int → Bool → Option R) : Option R :=
k0 x0 x1 x2 (x2 != (0 : Int))
theorem t66_11 {N cl} {R} (K : KE R) (x0 x1 x2) : exec cl N c66_11 [(1, .loc U20 .no x0), (3, .v U2 x1), (4, .v U2 x2)] K = (g66_11 x0 x1 x2 (fun y0 y1 y2 y3 => K .normal [(1, .loc U20 .no y0), (3, .v U2 y1), (4, .v U2 y2), (41, .v .bool y3)])) := by
  kernel_rfl
def g66_12 {R : Type} (x0 : V22) (x1 : Int) (x2 : Int) (x3 : Bool) (k0 : Int → Option R) : Option R :=
k0 x2
theorem t66_12 {N cl} {R} (K : KE R) (x0 x1 x2 x3) : exec cl N c66_12 [(1, .loc U20 .no x0), (3, .v U2 x1), (4, .v U2 x2), (41, .v .bool x3)] K = (g66_12 x0 x1 x2 x3 (fun y0 => K .normal [(2, .v U2 y0)])) := by
  kernel_rfl
theorem kp66_5 (x0) : keep [1, 2, 3] [(2, .v U2 x0)] = [(1, .dead), (2, .v U2 x0), (3, .dead)] := by kernel_rfl
theorem kp66_6 (x0 x1 x2 x3) : keep [1, 2, 3] [(1, .loc U20 .no x0), (3, .v U2 x1), (4, .v U2 x2), (41, .v .bool x3)] = [(1, .loc U20 .no x0), (2, .dead), (3, .v U2 x1)] := by kernel_rfl
theorem hb66_3 (x0 : V22) (x1 : Int) (x2 : Int) (x3 : Bool) : boolOf? (ent [(1, .loc U20 .no x0), (3, .v U2 x1), (4, .v U2 x2), (41, .v .bool x3)] (.t 41)) = some x3 := by kernel_rfl
def g66_14 {R : Type} (S70 : V6 → V1 → Option (Bool)) (x0 : V22) (x1 : Int) (k0 : V22 → Int → Bool → Option R) : Option R :=
if 0 ≤ (0 : Int) ∧ (0 : Int) ≤ x1 ∧ x1 ≤ (x0.2.2.1.length : Int) ∧ (x0.2.2.1.length : Int) ≤ (x0.2.2.1.length : Int) then
if 0 ≤ x1 ∧ x1 < (x0.2.2.1.length : Int) then
(S70 ((x0.2.2.1.drop (0 : Int).toNat).take (x1.toNat - (0 : Int).toNat)) (x0.2.2.1.getD x1.toNat [])).bind fun r678 =>
k0 x0 x1 r678
else none
else none
theorem t66_14 {N cl} (S70) (h70 : (ctr70 S70).holds cl) {R} (K : KE R) (x0 x1) : exec cl N c66_14 [(1, .loc U20 .no x0), (2, .dead), (3, .v U2 x1)] K = (g66_14 S70 x0 x1 (fun y0 y1 y2 => K .normal [(1, .loc U20 .no y0), (3, .v U2 y1), (52, .v .bool y2)])) := by
  rw [← put_eq h70]
  kernel_rfl
def g66_15 {R : Type} (x0 : V22) (x1 : Int) (x2 : Bool) (k0 : Int → Option R) : Option R :=
k0 (5 : Int)
theorem t66_15 {N cl} {R} (K : KE R) (x0 x1 x2) : exec cl N c66_15 [(1, .loc U20 .no x0), (3, .v U2 x1), (52, .v .bool x2)] K = (g66_15 x0 x1 x2 (fun y0 => K .normal [(2, .v U2 y0)])) := by
  kernel_rfl
theorem kp66_7 (x0 x1 x2) : keep [1, 2, 3] [(1, .loc U20 .no x0), (3, .v U2 x1), (52, .v .bool x2)] = [(1, .loc U20 .no x0), (2, .dead), (3, .v U2 x1)] := by kernel_rfl
theorem hb66_4 (x0 : V22) (x1 : Int) (x2 : Bool) : boolOf? (ent [(1, .loc U20 .no x0), (3, .v U2 x1), (52, .v .bool x2)] (.t 52)) = some x2 := by kernel_rfl
theorem kp66_8 (x0) : keep [1, 2, 3] [(1, .dead), (2, .v U2 x0), (3, .dead)] = [(1, .dead), (2, .v U2 x0), (3, .dead)] := by kernel_rfl
theorem kp66_9 (x0 x1) : keep [1, 2, 3] [(1, .loc U20 .no x0), (2, .dead), (3, .v U2 x1)] = [(1, .loc U20 .no x0), (2, .dead), (3, .v U2 x1)] := by kernel_rfl
def g66_18 {R : Type} (x0 : V22) (x1 : Int) (k0 : V22 → Int → Option R) : Option R :=
k0 x0 (IntKind.i64.wrap (x1 + (1 : Int)))
theorem t66_18 {N cl} {R} (K : KE R) (x0 x1) : exec cl N c66_18 [(1, .loc U20 .no x0), (2, .dead), (3, .v U2 x1)] K = (g66_18 x0 x1 (fun y0 y1 => K .normal [(1, .loc U20 .no y0), (3, .v U2 y1)])) := by
  kernel_rfl
def g66_19 {R : Type} (S70 : V6 → V1 → Option (Bool)) (S87 : V1 → Option (Int)) (x0 : V22) (x1 : Int) (k0 : Int → Option R) (k1 : V22 → Int → Option R) (k2 : V22 → Int → Option R) : Option R :=
(g66_8 x0 x1 (fun y0 y1 y2 => brB y2 ((fun y0 y1 => (g66_10 S87 y0 y1 (fun y0 y1 y2 => (g66_11 y0 y1 y2 (fun y0 y1 y2 y3 => brB y3 (g66_12 y0 y1 y2 y3 (fun y0 => ((fun y0 => (k0 y0)) y0))) ((fun y0 y1 => (g66_14 S70 y0 y1 (fun y0 y1 y2 => brB y2 (g66_15 y0 y1 y2 (fun y0 => ((fun y0 => (k0 y0)) y0))) (g66_18 y0 y1 k1)))) y0 y1)))))) y0 y1) (k2 y0 y1)))
theorem t66_19 {N cl} (S70) (S87) (h70 : (ctr70 S70).holds cl) (h87 : (ctr87 S87).holds cl) {R} (K : KE R) (x0 x1) : exec cl N c66_19 [(1, .loc U20 .no x0), (3, .v U2 x1)] K = (g66_19 S70 S87 x0 x1 (fun y0 => K .ret [(1, .dead), (2, .v U2 y0), (3, .dead)]) (fun y0 y1 => K .normal [(1, .loc U20 .no y0), (3, .v U2 y1)]) (fun y0 y1 => K (.exit 0) [(1, .loc U20 .no y0), (3, .v U2 y1)])) := by
  simp only [c66_19, exec_seq, seqK_normal, seqK_exit, seqK_ret, t66_8, c66_9, exec_out, exec_cond', hb66_2, Option.bind_some, brB_true, brB_false, exec_skip, exec_exit, kp66_4, c66_17, exec_block, t66_10 S87 h87, t66_11, c66_13, hb66_3, t66_12, exec_ret, kp66_5, kp66_6, t66_14 S70 h70, c66_16, hb66_4, t66_15, kp66_7, blockK_normal, blockK_ret, blockK_eq, kp66_8, kp66_9, t66_18]
  rfl
def l66_20 {R : Type} (S70 : V6 → V1 → Option (Bool)) (S87 : V1 → Option (Int)) (k0 : Int → Option R) (k1 : V22 → Int → Option R) : Nat → V22 → Int → Option R
  | 0, _, _ => none
  | m + 1, x0, x1 => (g66_19 S70 S87 x0 x1 k0 (fun y0 y1 => l66_20 S70 S87 k0 k1 m y0 y1) k1)
theorem lt66_20 {N cl} (S70) (S87) (h70 : (ctr70 S70).holds cl) (h87 : (ctr87 S87).holds cl) {R} (K : KE R) : ∀ (m) (x0 x1), iter [1, 3] (fun env K => exec cl N c66_19 env K) K m [(1, .loc U20 .no x0), (3, .v U2 x1)] = l66_20 S70 S87 (fun y0 => K .ret [(1, .dead), (2, .v U2 y0), (3, .dead)]) (fun y0 y1 => K (.exit 0) [(1, .loc U20 .no y0), (3, .v U2 y1)]) m x0 x1 := by
  intro m
  induction m with
  | zero => intros; rfl
  | succ m ih =>
    intro x0 x1
    simp only [iter_succ, t66_19 S70 S87 h70 h87, loopK_normal, loopK_exit, loopK_ret, kp66_3, ih]
    rfl
theorem kp66_10 (x0) : keep [2] [(1, .dead), (2, .v U2 x0), (3, .dead)] = [(2, .v U2 x0)] := by kernel_rfl
theorem kp66_11 (x0 x1) : keep [2] [(1, .loc U20 .no x0), (3, .v U2 x1)] = [(2, .dead)] := by kernel_rfl
def g66_20 {R : Type} (N : Nat) (S70 : V6 → V1 → Option (Bool)) (S87 : V1 → Option (Int)) (x0 : V22) (x1 : Int) (k0 : Int → Option R) (k1 : Option R) : Option R :=
l66_20 S70 S87 (fun y0 => k0 y0) (fun y0 y1 => k1) N x0 x1
theorem t66_20 {N cl} (S70) (S87) (h70 : (ctr70 S70).holds cl) (h87 : (ctr87 S87).holds cl) {R} (K : KE R) (x0 x1) : exec cl N c66_20 [(1, .loc U20 .no x0), (3, .v U2 x1)] K = (g66_20 N S70 S87 x0 x1 (fun y0 => K .ret [(2, .v U2 y0)]) (K (.exit 0) [(2, .dead)])) := by
  simp only [c66_20, exec_out, exec_loop, kp66_3, lt66_20 S70 S87 h70 h87, kp66_10, kp66_11]
  rfl
theorem kp66_12 (x0) : keep [2] [(2, .v U2 x0)] = [(2, .v U2 x0)] := by kernel_rfl
theorem kp66_13 : keep [2] [(2, .dead)] = [(2, .dead)] := by kernel_rfl
def g66_22 {R : Type} (k0 : Int → Option R) : Option R :=
k0 (0 : Int)
theorem t66_22 {N cl} {R} (K : KE R) : exec cl N c66_22 [(2, .dead)] K = (g66_22 (fun y0 => K .normal [(2, .v U2 y0)])) := by
  kernel_rfl
def g66_23 {R : Type} (N : Nat) (S70 : V6 → V1 → Option (Bool)) (S87 : V1 → Option (Int)) (x0 : V22) (k0 : Int → Option R) (k1 : Int → Option R) : Option R :=
(g66_0 x0 (fun y0 => (g66_1 y0 (fun y0 y1 => brB y1 (g66_2 y0 y1 (fun y0 => ((fun y0 => (k0 y0)) y0))) ((fun y0 => (g66_4 y0 (fun y0 y1 => brB y1 (g66_5 y0 y1 (fun y0 => ((fun y0 => (k0 y0)) y0))) ((fun y0 => (g66_7 y0 (fun y0 y1 => (g66_20 N S70 S87 y0 y1 (fun y0 => (k1 y0)) (g66_22 (fun y0 => (k1 y0))))))) y0)))) y0)))))
theorem t66_23 {N cl} (S70) (S87) (h70 : (ctr70 S70).holds cl) (h87 : (ctr87 S87).holds cl) {R} (K : KE R) (x0) : exec cl N c66_23 [(0, .v U20 x0)] K = (g66_23 N S70 S87 x0 (fun y0 => K .ret [(1, .dead), (2, .v U2 y0)]) (fun y0 => K .ret [(2, .v U2 y0)])) := by
  simp only [c66_23, exec_seq, seqK_normal, seqK_exit, seqK_ret, t66_0, t66_1, c66_3, exec_out, exec_cond', hb66_0, Option.bind_some, brB_true, brB_false, t66_2, exec_ret, exec_skip, kp66_0, kp66_1, t66_4, c66_6, hb66_1, t66_5, kp66_2, t66_7, c66_21, exec_block, t66_20 S70 S87 h70 h87, blockK_normal, blockK_ret, blockK_eq, kp66_12, kp66_13, t66_22]
  rfl
theorem rk66_0 (y0 : Int) : retK d66 .ret [(1, .dead), (2, .v U2 y0)] = some [.v U2 y0] := by kernel_rfl
theorem rk66_1 (y0 : Int) : retK d66 .ret [(2, .v U2 y0)] = some [.v U2 y0] := by kernel_rfl
def g66 {R : Type} (N : Nat) (S70 : V6 → V1 → Option (Bool)) (S87 : V1 → Option (Int)) (x0 : V22) (k : Int → Option R) : Option R :=
(g66_23 N S70 S87 x0 (fun y0 => k y0) (fun y0 => k y0))
theorem gen66 {N : Nat} {cl : Cal} (S70 : V6 → V1 → Option (Bool)) (S87 : V1 → Option (Int)) (h70 : (ctr70 S70).holds cl) (h87 : (ctr87 S87).holds cl) (x0 : V22) {R : Type} (k : List E → Option R) : exec cl N c66 (params 0 [.v U20 x0]) (fun e env => (retK d66 e env).bind k) = g66 N S70 S87 x0 (fun (r0 : Int) => k [.v U2 r0]) := by
  have e0 : params 0 [.v U20 x0] = [(0, .v U20 x0)] := by kernel_rfl
  simp only [c66, e0, t66_23 S70 S87 h70 h87, rk66_0, rk66_1, Option.bind_some]
  rfl
def ctr66 (S : V22 → Option (Int)) : Ctr := { A := V22 × Unit, B := Int, f := 66, enc := fun a => [.v U20 a.1], dec := (decC (decV U20) dec0), S := fun a => S a.1, ent := fun b => [.v U2 b], ok := (decV_cons (T := U20) (fun es b h => dec0_some h)) }
def S66 (N : Nat) (x0 : V22) : Option (Int) := g66 N (S70 N) (S87 N) x0 (fun (r0 : Int) => some (r0))
def g38_0 {R : Type} (x0 : V29) (k0 : V29 → Option R) : Option R :=
k0 x0
theorem t38_0 {N cl} {R} (K : KE R) (x0) : exec cl N c38_0 [(0, .v U27 x0)] K = (g38_0 x0 (fun y0 => K .normal [(1, .loc U27 .no y0)])) := by
  kernel_rfl
def g38_1 {R : Type} (S65 : V1 → Option (Bool)) (x0 : V29) (k0 : V29 → Bool → Option R) : Option R :=
(S65 x0.1).bind fun r683 =>
k0 x0 (!r683)
theorem t38_1 {N cl} (S65) (h65 : (ctr65 S65).holds cl) {R} (K : KE R) (x0) : exec cl N c38_1 [(1, .loc U27 .no x0)] K = (g38_1 S65 x0 (fun y0 y1 => K .normal [(1, .loc U27 .no y0), (8, .v .bool y1)])) := by
  rw [← put_eq h65]
  kernel_rfl
def g38_2 {R : Type} (x0 : V29) (x1 : Bool) (k0 : Int → Option R) : Option R :=
k0 (2 : Int)
theorem t38_2 {N cl} {R} (K : KE R) (x0 x1) : exec cl N c38_2 [(1, .loc U27 .no x0), (8, .v .bool x1)] K = (g38_2 x0 x1 (fun y0 => K .normal [(2, .v U2 y0)])) := by
  kernel_rfl
theorem kp38_0 (x0) : keep [1, 2] [(2, .v U2 x0)] = [(1, .dead), (2, .v U2 x0)] := by kernel_rfl
theorem kp38_1 (x0 x1) : keep [1, 2] [(1, .loc U27 .no x0), (8, .v .bool x1)] = [(1, .loc U27 .no x0), (2, .dead)] := by kernel_rfl
theorem hb38_0 (x0 : V29) (x1 : Bool) : boolOf? (ent [(1, .loc U27 .no x0), (8, .v .bool x1)] (.t 8)) = some x1 := by kernel_rfl
def g38_4 {R : Type} (x0 : V29) (k0 : V29 → Bool → Option R) : Option R :=
k0 x0 (decide ((x0.2.1.length : Int) > (30 : Int)))
theorem t38_4 {N cl} {R} (K : KE R) (x0) : exec cl N c38_4 [(1, .loc U27 .no x0), (2, .dead)] K = (g38_4 x0 (fun y0 y1 => K .normal [(1, .loc U27 .no y0), (12, .v .bool y1)])) := by
  kernel_rfl
def g38_5 {R : Type} (x0 : V29) (x1 : Bool) (k0 : Int → Option R) : Option R :=
k0 (3 : Int)
theorem t38_5 {N cl} {R} (K : KE R) (x0 x1) : exec cl N c38_5 [(1, .loc U27 .no x0), (12, .v .bool x1)] K = (g38_5 x0 x1 (fun y0 => K .normal [(2, .v U2 y0)])) := by
  kernel_rfl
theorem kp38_2 (x0 x1) : keep [1, 2] [(1, .loc U27 .no x0), (12, .v .bool x1)] = [(1, .loc U27 .no x0), (2, .dead)] := by kernel_rfl
theorem hb38_1 (x0 : V29) (x1 : Bool) : boolOf? (ent [(1, .loc U27 .no x0), (12, .v .bool x1)] (.t 12)) = some x1 := by kernel_rfl
def g38_7 {R : Type} (x0 : V29) (k0 : V29 → Int → Option R) : Option R :=
k0 x0 (0 : Int)
theorem t38_7 {N cl} {R} (K : KE R) (x0) : exec cl N c38_7 [(1, .loc U27 .no x0), (2, .dead)] K = (g38_7 x0 (fun y0 y1 => K .normal [(1, .loc U27 .no y0), (3, .v U2 y1)])) := by
  kernel_rfl
theorem kp38_3 (x0 x1) : keep [1, 3] [(1, .loc U27 .no x0), (3, .v U2 x1)] = [(1, .loc U27 .no x0), (3, .v U2 x1)] := by kernel_rfl
def g38_8 {R : Type} (x0 : V29) (x1 : Int) (k0 : V29 → Int → Bool → Option R) : Option R :=
k0 x0 x1 (decide (x1 < (x0.2.1.length : Int)))
theorem t38_8 {N cl} {R} (K : KE R) (x0 x1) : exec cl N c38_8 [(1, .loc U27 .no x0), (3, .v U2 x1)] K = (g38_8 x0 x1 (fun y0 y1 y2 => K .normal [(1, .loc U27 .no y0), (3, .v U2 y1), (17, .v .bool y2)])) := by
  kernel_rfl
theorem kp38_4 (x0 x1 x2) : keep [1, 3] [(1, .loc U27 .no x0), (3, .v U2 x1), (17, .v .bool x2)] = [(1, .loc U27 .no x0), (3, .v U2 x1)] := by kernel_rfl
theorem hb38_2 (x0 : V29) (x1 : Int) (x2 : Bool) : boolOf? (ent [(1, .loc U27 .no x0), (3, .v U2 x1), (17, .v .bool x2)] (.t 17)) = some x2 := by kernel_rfl
def g38_10 {R : Type} (S66 : V22 → Option (Int)) (x0 : V29) (x1 : Int) (k0 : V29 → Int → Int → Option R) : Option R :=
if 0 ≤ x1 ∧ x1 < (x0.2.1.length : Int) then
(S66 (x0.2.1.getD x1.toNat ((0 : Int), ((0 : Int), ([], ()))))).bind fun r686 =>
k0 x0 x1 r686
else none
theorem t38_10 {N cl} (S66) (h66 : (ctr66 S66).holds cl) {R} (K : KE R) (x0 x1) : exec cl N c38_10 [(1, .loc U27 .no x0), (3, .v U2 x1)] K = (g38_10 S66 x0 x1 (fun y0 y1 y2 => K .normal [(1, .loc U27 .no y0), (3, .v U2 y1), (4, .v U2 y2)])) := by
  rw [← put_eq h66]
  kernel_rfl
def g38_11 {R : Type} (x0 : V29) (x1 : Int) (x2 : Int) (k0 : V29 → Int → Int → Bool → Option R) : Option R :=
k0 x0 x1 x2 (x2 != (0 : Int))
theorem t38_11 {N cl} {R} (K : KE R) (x0 x1 x2) : exec cl N c38_11 [(1, .loc U27 .no x0), (3, .v U2 x1), (4, .v U2 x2)] K = (g38_11 x0 x1 x2 (fun y0 y1 y2 y3 => K .normal [(1, .loc U27 .no y0), (3, .v U2 y1), (4, .v U2 y2), (27, .v .bool y3)])) := by
  kernel_rfl
def g38_12 {R : Type} (x0 : V29) (x1 : Int) (x2 : Int) (x3 : Bool) (k0 : Int → Option R) : Option R :=
k0 x2
theorem t38_12 {N cl} {R} (K : KE R) (x0 x1 x2 x3) : exec cl N c38_12 [(1, .loc U27 .no x0), (3, .v U2 x1), (4, .v U2 x2), (27, .v .bool x3)] K = (g38_12 x0 x1 x2 x3 (fun y0 => K .normal [(2, .v U2 y0)])) := by
  kernel_rfl
theorem kp38_5 (x0) : keep [1, 2, 3] [(2, .v U2 x0)] = [(1, .dead), (2, .v U2 x0), (3, .dead)] := by kernel_rfl
theorem kp38_6 (x0 x1 x2 x3) : keep [1, 2, 3] [(1, .loc U27 .no x0), (3, .v U2 x1), (4, .v U2 x2), (27, .v .bool x3)] = [(1, .loc U27 .no x0), (2, .dead), (3, .v U2 x1)] := by kernel_rfl
theorem hb38_3 (x0 : V29) (x1 : Int) (x2 : Int) (x3 : Bool) : boolOf? (ent [(1, .loc U27 .no x0), (3, .v U2 x1), (4, .v U2 x2), (27, .v .bool x3)] (.t 27)) = some x3 := by kernel_rfl
theorem kp38_7 (x0) : keep [1, 2, 3] [(1, .dead), (2, .v U2 x0), (3, .dead)] = [(1, .dead), (2, .v U2 x0), (3, .dead)] := by kernel_rfl
theorem kp38_8 (x0 x1) : keep [1, 2, 3] [(1, .loc U27 .no x0), (2, .dead), (3, .v U2 x1)] = [(1, .loc U27 .no x0), (2, .dead), (3, .v U2 x1)] := by kernel_rfl
def g38_15 {R : Type} (x0 : V29) (x1 : Int) (k0 : V29 → Int → Option R) : Option R :=
k0 x0 (IntKind.i64.wrap (x1 + (1 : Int)))
theorem t38_15 {N cl} {R} (K : KE R) (x0 x1) : exec cl N c38_15 [(1, .loc U27 .no x0), (2, .dead), (3, .v U2 x1)] K = (g38_15 x0 x1 (fun y0 y1 => K .normal [(1, .loc U27 .no y0), (3, .v U2 y1)])) := by
  kernel_rfl
def g38_16 {R : Type} (S66 : V22 → Option (Int)) (x0 : V29) (x1 : Int) (k0 : Int → Option R) (k1 : V29 → Int → Option R) (k2 : V29 → Int → Option R) : Option R :=
(g38_8 x0 x1 (fun y0 y1 y2 => brB y2 ((fun y0 y1 => (g38_10 S66 y0 y1 (fun y0 y1 y2 => (g38_11 y0 y1 y2 (fun y0 y1 y2 y3 => brB y3 (g38_12 y0 y1 y2 y3 (fun y0 => ((fun y0 => (k0 y0)) y0))) (g38_15 y0 y1 k1)))))) y0 y1) (k2 y0 y1)))
theorem t38_16 {N cl} (S66) (h66 : (ctr66 S66).holds cl) {R} (K : KE R) (x0 x1) : exec cl N c38_16 [(1, .loc U27 .no x0), (3, .v U2 x1)] K = (g38_16 S66 x0 x1 (fun y0 => K .ret [(1, .dead), (2, .v U2 y0), (3, .dead)]) (fun y0 y1 => K .normal [(1, .loc U27 .no y0), (3, .v U2 y1)]) (fun y0 y1 => K (.exit 0) [(1, .loc U27 .no y0), (3, .v U2 y1)])) := by
  simp only [c38_16, exec_seq, seqK_normal, seqK_exit, seqK_ret, t38_8, c38_9, exec_out, exec_cond', hb38_2, Option.bind_some, brB_true, brB_false, exec_skip, exec_exit, kp38_4, c38_14, exec_block, t38_10 S66 h66, t38_11, c38_13, hb38_3, t38_12, exec_ret, kp38_5, kp38_6, blockK_normal, blockK_ret, blockK_eq, kp38_7, kp38_8, t38_15]
  rfl
def l38_17 {R : Type} (S66 : V22 → Option (Int)) (k0 : Int → Option R) (k1 : V29 → Int → Option R) : Nat → V29 → Int → Option R
  | 0, _, _ => none
  | m + 1, x0, x1 => (g38_16 S66 x0 x1 k0 (fun y0 y1 => l38_17 S66 k0 k1 m y0 y1) k1)
theorem lt38_17 {N cl} (S66) (h66 : (ctr66 S66).holds cl) {R} (K : KE R) : ∀ (m) (x0 x1), iter [1, 3] (fun env K => exec cl N c38_16 env K) K m [(1, .loc U27 .no x0), (3, .v U2 x1)] = l38_17 S66 (fun y0 => K .ret [(1, .dead), (2, .v U2 y0), (3, .dead)]) (fun y0 y1 => K (.exit 0) [(1, .loc U27 .no y0), (3, .v U2 y1)]) m x0 x1 := by
  intro m
  induction m with
  | zero => intros; rfl
  | succ m ih =>
    intro x0 x1
    simp only [iter_succ, t38_16 S66 h66, loopK_normal, loopK_exit, loopK_ret, kp38_3, ih]
    rfl
theorem kp38_9 (x0) : keep [2] [(1, .dead), (2, .v U2 x0), (3, .dead)] = [(2, .v U2 x0)] := by kernel_rfl
theorem kp38_10 (x0 x1) : keep [2] [(1, .loc U27 .no x0), (3, .v U2 x1)] = [(2, .dead)] := by kernel_rfl
def g38_17 {R : Type} (N : Nat) (S66 : V22 → Option (Int)) (x0 : V29) (x1 : Int) (k0 : Int → Option R) (k1 : Option R) : Option R :=
l38_17 S66 (fun y0 => k0 y0) (fun y0 y1 => k1) N x0 x1
theorem t38_17 {N cl} (S66) (h66 : (ctr66 S66).holds cl) {R} (K : KE R) (x0 x1) : exec cl N c38_17 [(1, .loc U27 .no x0), (3, .v U2 x1)] K = (g38_17 N S66 x0 x1 (fun y0 => K .ret [(2, .v U2 y0)]) (K (.exit 0) [(2, .dead)])) := by
  simp only [c38_17, exec_out, exec_loop, kp38_3, lt38_17 S66 h66, kp38_10, kp38_9]
  rfl
theorem kp38_11 (x0) : keep [2] [(2, .v U2 x0)] = [(2, .v U2 x0)] := by kernel_rfl
theorem kp38_12 : keep [2] [(2, .dead)] = [(2, .dead)] := by kernel_rfl
def g38_19 {R : Type} (k0 : Int → Option R) : Option R :=
k0 (0 : Int)
theorem t38_19 {N cl} {R} (K : KE R) : exec cl N c38_19 [(2, .dead)] K = (g38_19 (fun y0 => K .normal [(2, .v U2 y0)])) := by
  kernel_rfl
def g38_20 {R : Type} (N : Nat) (S65 : V1 → Option (Bool)) (S66 : V22 → Option (Int)) (x0 : V29) (k0 : Int → Option R) (k1 : Int → Option R) : Option R :=
(g38_0 x0 (fun y0 => (g38_1 S65 y0 (fun y0 y1 => brB y1 (g38_2 y0 y1 (fun y0 => ((fun y0 => (k0 y0)) y0))) ((fun y0 => (g38_4 y0 (fun y0 y1 => brB y1 (g38_5 y0 y1 (fun y0 => ((fun y0 => (k0 y0)) y0))) ((fun y0 => (g38_7 y0 (fun y0 y1 => (g38_17 N S66 y0 y1 (fun y0 => (k1 y0)) (g38_19 (fun y0 => (k1 y0))))))) y0)))) y0)))))
theorem t38_20 {N cl} (S65) (S66) (h65 : (ctr65 S65).holds cl) (h66 : (ctr66 S66).holds cl) {R} (K : KE R) (x0) : exec cl N c38_20 [(0, .v U27 x0)] K = (g38_20 N S65 S66 x0 (fun y0 => K .ret [(1, .dead), (2, .v U2 y0)]) (fun y0 => K .ret [(2, .v U2 y0)])) := by
  simp only [c38_20, exec_seq, seqK_normal, seqK_exit, seqK_ret, t38_0, t38_1 S65 h65, c38_3, exec_out, exec_cond', hb38_0, Option.bind_some, brB_true, brB_false, t38_2, exec_ret, exec_skip, kp38_0, kp38_1, t38_4, c38_6, hb38_1, t38_5, kp38_2, t38_7, c38_18, exec_block, t38_17 S66 h66, blockK_normal, blockK_ret, blockK_eq, kp38_11, kp38_12, t38_19]
  rfl
theorem rk38_0 (y0 : Int) : retK d38 .ret [(1, .dead), (2, .v U2 y0)] = some [.v U2 y0] := by kernel_rfl
theorem rk38_1 (y0 : Int) : retK d38 .ret [(2, .v U2 y0)] = some [.v U2 y0] := by kernel_rfl
def g38 {R : Type} (N : Nat) (S65 : V1 → Option (Bool)) (S66 : V22 → Option (Int)) (x0 : V29) (k : Int → Option R) : Option R :=
(g38_20 N S65 S66 x0 (fun y0 => k y0) (fun y0 => k y0))
theorem gen38 {N : Nat} {cl : Cal} (S65 : V1 → Option (Bool)) (S66 : V22 → Option (Int)) (h65 : (ctr65 S65).holds cl) (h66 : (ctr66 S66).holds cl) (x0 : V29) {R : Type} (k : List E → Option R) : exec cl N c38 (params 0 [.v U27 x0]) (fun e env => (retK d38 e env).bind k) = g38 N S65 S66 x0 (fun (r0 : Int) => k [.v U2 r0]) := by
  have e0 : params 0 [.v U27 x0] = [(0, .v U27 x0)] := by kernel_rfl
  simp only [c38, e0, t38_20 S65 S66 h65 h66, rk38_0, rk38_1, Option.bind_some]
  rfl
def ctr38 (S : V29 → Option (Int)) : Ctr := { A := V29 × Unit, B := Int, f := 38, enc := fun a => [.v U27 a.1], dec := (decC (decV U27) dec0), S := fun a => S a.1, ent := fun b => [.v U2 b], ok := (decV_cons (T := U27) (fun es b h => dec0_some h)) }
def S38 (N : Nat) (x0 : V29) : Option (Int) := g38 N (S65 N) (S66 N) x0 (fun (r0 : Int) => some (r0))
end Go.Fw.L19
