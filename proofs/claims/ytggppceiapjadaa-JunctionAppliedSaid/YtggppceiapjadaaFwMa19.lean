/- Printed by an own program for this claim: the machine's code of functions, or their typed forms with their equations; no conditions. -/
import Derived.Test.YtggppceiapjadaaFwMa19a
import Derived.Test.YtggppceiapjadaaFwB1
set_option linter.unusedVariables false
set_option linter.unusedSimpArgs false
namespace Go.Fw.L19
open Go Go.Fw
set_option maxRecDepth 100000
set_option linter.unusedVariables false
set_option linter.unusedSimpArgs false
def g57_0 {R : Type} (x0 : V19) (x1 : V1) (k0 : V1 → V19 → Option R) : Option R :=
k0 x1 x0
theorem t57_0 {N cl} {R} (K : KE R) (x0 x1) : exec cl N c57_0 [(0, .v U20 x0), (1, .v .str x1)] K = (g57_0 x0 x1 (fun y0 y1 => K .normal [(1, .v .str y0), (2, .loc U20 .no y1)])) := by
  kernel_rfl
def g57_1 {R : Type} (S74 : V6 → V1 → Option (Bool)) (x0 : V1) (x1 : V19) (k0 : Bool → Option R) : Option R :=
brB ((x1.2.2.1.length : Int) == (0 : Int)) (k0 true) ((S74 x1.2.2.1 x0).bind fun r437 =>
k0 r437)
theorem t57_1 {N cl} (S74) (h74 : (ctr74 S74).holds cl) {R} (K : KE R) (x0 x1) : exec cl N c57_1 [(1, .v .str x0), (2, .loc U20 .no x1)] K = (g57_1 S74 x0 x1 (fun y0 => K .normal [(4, .v .bool y0)])) := by
  rw [← put_eq h74]
  kernel_rfl
def g57_2 {R : Type} (S74 : V6 → V1 → Option (Bool)) (x0 : V19) (x1 : V1) (k0 : Bool → Option R) : Option R :=
(g57_0 x0 x1 (fun y0 y1 => (g57_1 S74 y0 y1 (fun y0 => (k0 y0)))))
theorem t57_2 {N cl} (S74) (h74 : (ctr74 S74).holds cl) {R} (K : KE R) (x0 x1) : exec cl N c57_2 [(0, .v U20 x0), (1, .v .str x1)] K = (g57_2 S74 x0 x1 (fun y0 => K .ret [(4, .v .bool y0)])) := by
  simp only [c57_2, exec_seq, seqK_normal, seqK_exit, seqK_ret, t57_0, t57_1 S74 h74, exec_ret]
  rfl
theorem rk57_0 (y0 : Bool) : retK d57 .ret [(4, .v .bool y0)] = some [.v .bool y0] := by kernel_rfl
def g57 {R : Type} (S74 : V6 → V1 → Option (Bool)) (x0 : V19) (x1 : V1) (k : Bool → Option R) : Option R :=
(g57_2 S74 x0 x1 (fun y0 => k y0))
theorem gen57 {N : Nat} {cl : Cal} (S74 : V6 → V1 → Option (Bool)) (h74 : (ctr74 S74).holds cl) (x0 : V19) (x1 : V1) {R : Type} (k : List E → Option R) : exec cl N c57 (params 0 [.v U20 x0, .v .str x1]) (fun e env => (retK d57 e env).bind k) = g57 S74 x0 x1 (fun (r0 : Bool) => k [.v .bool r0]) := by
  have e0 : params 0 [.v U20 x0, .v .str x1] = [(0, .v U20 x0), (1, .v .str x1)] := by kernel_rfl
  simp only [c57, e0, t57_2 S74 h74, rk57_0, Option.bind_some]
  rfl
def ctr57 (S : V19 → V1 → Option (Bool)) : Ctr := { A := V19 × V1 × Unit, B := Bool, f := 57, enc := fun a => [.v U20 a.1, .v .str a.2.1], dec := (decC (decV U20) (decC (decV .str) dec0)), S := fun a => S a.1 a.2.1, ent := fun b => [.v .bool b], ok := (decV_cons (T := U20) (decV_cons (T := .str) (fun es b h => dec0_some h))) }
def S57 (N : Nat) (x0 : V19) (x1 : V1) : Option (Bool) := g57 (S74 N) x0 x1 (fun (r0 : Bool) => some (r0))
def g38_0 {R : Type} (x0 : V24) (x1 : Int) (x2 : V1) (k0 : Int → V1 → V24 → Option R) : Option R :=
k0 x1 x2 x0
theorem t38_0 {N cl} {R} (K : KE R) (x0 x1 x2) : exec cl N c38_0 [(0, .v U26 x0), (1, .v U2 x1), (2, .v .str x2)] K = (g38_0 x0 x1 x2 (fun y0 y1 y2 => K .normal [(1, .v U2 y0), (2, .v .str y1), (3, .loc U26 .no y2)])) := by
  kernel_rfl
def g38_1 {R : Type} (S56 : V1 → Option V5) (x0 : Int) (x1 : V1) (x2 : V24) (k0 : Int → V1 → V24 → Option R) : Option R :=
(S56 x1).bind fun r441 =>
k0 x0 r441 x2
theorem t38_1 {N cl} (S56) (h56 : (ctr56 S56).holds cl) {R} (K : KE R) (x0 x1 x2) : exec cl N c38_1 [(1, .v U2 x0), (2, .v .str x1), (3, .loc U26 .no x2)] K = (g38_1 S56 x0 x1 x2 (fun y0 y1 y2 => K .normal [(1, .v U2 y0), (2, .v .str y1), (3, .loc U26 .no y2)])) := by
  rw [← put_eq h56]
  kernel_rfl
def g38_2 {R : Type} (x0 : Int) (x1 : V1) (x2 : V24) (k0 : Int → V1 → V24 → Int → Bool → Option R) : Option R :=
k0 x0 x1 x2 (0 : Int) false
theorem t38_2 {N cl} {R} (K : KE R) (x0 x1 x2) : exec cl N c38_2 [(1, .v U2 x0), (2, .v .str x1), (3, .loc U26 .no x2)] K = (g38_2 x0 x1 x2 (fun y0 y1 y2 y3 y4 => K .normal [(1, .v U2 y0), (2, .v .str y1), (3, .loc U26 .no y2), (8, .v U2 y3), (9, .v .bool y4)])) := by
  kernel_rfl
def g38_3 {R : Type} (x0 : Int) (x1 : V1) (x2 : V24) (x3 : Int) (x4 : Bool) (k0 : Int → V1 → Int → Bool → V21 → Int → Int → Option R) : Option R :=
k0 x0 x1 x3 x4 x2.2.1 (x2.2.1.length : Int) (0 : Int)
theorem t38_3 {N cl} {R} (K : KE R) (x0 x1 x2 x3 x4) : exec cl N c38_3 [(1, .v U2 x0), (2, .v .str x1), (3, .loc U26 .no x2), (8, .v U2 x3), (9, .v .bool x4)] K = (g38_3 x0 x1 x2 x3 x4 (fun y0 y1 y2 y3 y4 y5 y6 => K .normal [(1, .v U2 y0), (2, .v .str y1), (8, .v U2 y2), (9, .v .bool y3), (15, .v U22 y4), (16, .v U2 y5), (17, .v U2 y6)])) := by
  kernel_rfl
theorem kp38_0 (x0 x1 x2 x3 x4 x5 x6) : keep [1, 2, 8, 9, 15, 16, 17] [(1, .v U2 x0), (2, .v .str x1), (8, .v U2 x2), (9, .v .bool x3), (15, .v U22 x4), (16, .v U2 x5), (17, .v U2 x6)] = [(1, .v U2 x0), (2, .v .str x1), (8, .v U2 x2), (9, .v .bool x3), (15, .v U22 x4), (16, .v U2 x5), (17, .v U2 x6)] := by kernel_rfl
def g38_4 {R : Type} (x0 : Int) (x1 : V1) (x2 : Int) (x3 : Bool) (x4 : V21) (x5 : Int) (x6 : Int) (k0 : Int → V1 → Int → Bool → V21 → Int → Int → Bool → Option R) : Option R :=
k0 x0 x1 x2 x3 x4 x5 x6 (decide (x6 < x5))
theorem t38_4 {N cl} {R} (K : KE R) (x0 x1 x2 x3 x4 x5 x6) : exec cl N c38_4 [(1, .v U2 x0), (2, .v .str x1), (8, .v U2 x2), (9, .v .bool x3), (15, .v U22 x4), (16, .v U2 x5), (17, .v U2 x6)] K = (g38_4 x0 x1 x2 x3 x4 x5 x6 (fun y0 y1 y2 y3 y4 y5 y6 y7 => K .normal [(1, .v U2 y0), (2, .v .str y1), (8, .v U2 y2), (9, .v .bool y3), (15, .v U22 y4), (16, .v U2 y5), (17, .v U2 y6), (18, .v .bool y7)])) := by
  kernel_rfl
theorem kp38_1 (x0 x1 x2 x3 x4 x5 x6 x7) : keep [1, 2, 8, 9, 15, 16, 17] [(1, .v U2 x0), (2, .v .str x1), (8, .v U2 x2), (9, .v .bool x3), (15, .v U22 x4), (16, .v U2 x5), (17, .v U2 x6), (18, .v .bool x7)] = [(1, .v U2 x0), (2, .v .str x1), (8, .v U2 x2), (9, .v .bool x3), (15, .v U22 x4), (16, .v U2 x5), (17, .v U2 x6)] := by kernel_rfl
theorem hb38_0 (x0 : Int) (x1 : V1) (x2 : Int) (x3 : Bool) (x4 : V21) (x5 : Int) (x6 : Int) (x7 : Bool) : boolOf? (ent [(1, .v U2 x0), (2, .v .str x1), (8, .v U2 x2), (9, .v .bool x3), (15, .v U22 x4), (16, .v U2 x5), (17, .v U2 x6), (18, .v .bool x7)] (.t 18)) = some x7 := by kernel_rfl
def g38_6 {R : Type} (x0 : Int) (x1 : V1) (x2 : Int) (x3 : Bool) (x4 : V21) (x5 : Int) (x6 : Int) (k0 : Int → V1 → Int → Bool → V19 → V21 → Int → Int → Option R) : Option R :=
if 0 ≤ x6 ∧ x6 < (x4.length : Int) then
k0 x0 x1 x2 x3 (x4.getD x6.toNat ((0 : Int), ((0 : Int), ([], ())))) x4 x5 x6
else none
theorem t38_6 {N cl} {R} (K : KE R) (x0 x1 x2 x3 x4 x5 x6) : exec cl N c38_6 [(1, .v U2 x0), (2, .v .str x1), (8, .v U2 x2), (9, .v .bool x3), (15, .v U22 x4), (16, .v U2 x5), (17, .v U2 x6)] K = (g38_6 x0 x1 x2 x3 x4 x5 x6 (fun y0 y1 y2 y3 y4 y5 y6 y7 => K .normal [(1, .v U2 y0), (2, .v .str y1), (8, .v U2 y2), (9, .v .bool y3), (11, .loc U20 .no y4), (15, .v U22 y5), (16, .v U2 y6), (17, .v U2 y7)])) := by
  kernel_rfl
def g38_7 {R : Type} (S57 : V19 → V1 → Option (Bool)) (x0 : Int) (x1 : V1) (x2 : Int) (x3 : Bool) (x4 : V19) (x5 : V21) (x6 : Int) (x7 : Int) (k0 : Int → V1 → Int → Bool → V19 → V21 → Int → Int → Bool → Option R) : Option R :=
brB (x4.1 == x0) ((S57 x4 x1).bind fun r443 =>
brB r443 (brB (!x3) (k0 x0 x1 x2 x3 x4 x5 x6 x7 true) (k0 x0 x1 x2 x3 x4 x5 x6 x7 (decide (x4.2.1 < x2)))) (k0 x0 x1 x2 x3 x4 x5 x6 x7 false)) (k0 x0 x1 x2 x3 x4 x5 x6 x7 false)
theorem t38_7 {N cl} (S57) (h57 : (ctr57 S57).holds cl) {R} (K : KE R) (x0 x1 x2 x3 x4 x5 x6 x7) : exec cl N c38_7 [(1, .v U2 x0), (2, .v .str x1), (8, .v U2 x2), (9, .v .bool x3), (11, .loc U20 .no x4), (15, .v U22 x5), (16, .v U2 x6), (17, .v U2 x7)] K = (g38_7 S57 x0 x1 x2 x3 x4 x5 x6 x7 (fun y0 y1 y2 y3 y4 y5 y6 y7 y8 => K .normal [(1, .v U2 y0), (2, .v .str y1), (8, .v U2 y2), (9, .v .bool y3), (11, .loc U20 .no y4), (15, .v U22 y5), (16, .v U2 y6), (17, .v U2 y7), (39, .v .bool y8)])) := by
  rw [← put_eq h57]
  kernel_rfl
def g38_8 {R : Type} (x0 : Int) (x1 : V1) (x2 : Int) (x3 : Bool) (x4 : V19) (x5 : V21) (x6 : Int) (x7 : Int) (x8 : Bool) (k0 : Int → V1 → Int → Bool → V21 → Int → Int → Option R) : Option R :=
k0 x0 x1 x4.2.1 true x5 x6 x7
theorem t38_8 {N cl} {R} (K : KE R) (x0 x1 x2 x3 x4 x5 x6 x7 x8) : exec cl N c38_8 [(1, .v U2 x0), (2, .v .str x1), (8, .v U2 x2), (9, .v .bool x3), (11, .loc U20 .no x4), (15, .v U22 x5), (16, .v U2 x6), (17, .v U2 x7), (39, .v .bool x8)] K = (g38_8 x0 x1 x2 x3 x4 x5 x6 x7 x8 (fun y0 y1 y2 y3 y4 y5 y6 => K .normal [(1, .v U2 y0), (2, .v .str y1), (8, .v U2 y2), (9, .v .bool y3), (15, .v U22 y4), (16, .v U2 y5), (17, .v U2 y6)])) := by
  kernel_rfl
theorem kp38_2 (x0 x1 x2 x3 x4 x5 x6 x7 x8) : keep [1, 2, 8, 9, 15, 16, 17] [(1, .v U2 x0), (2, .v .str x1), (8, .v U2 x2), (9, .v .bool x3), (11, .loc U20 .no x4), (15, .v U22 x5), (16, .v U2 x6), (17, .v U2 x7), (39, .v .bool x8)] = [(1, .v U2 x0), (2, .v .str x1), (8, .v U2 x2), (9, .v .bool x3), (15, .v U22 x5), (16, .v U2 x6), (17, .v U2 x7)] := by kernel_rfl
theorem hb38_1 (x0 : Int) (x1 : V1) (x2 : Int) (x3 : Bool) (x4 : V19) (x5 : V21) (x6 : Int) (x7 : Int) (x8 : Bool) : boolOf? (ent [(1, .v U2 x0), (2, .v .str x1), (8, .v U2 x2), (9, .v .bool x3), (11, .loc U20 .no x4), (15, .v U22 x5), (16, .v U2 x6), (17, .v U2 x7), (39, .v .bool x8)] (.t 39)) = some x8 := by kernel_rfl
def g38_10 {R : Type} (S57 : V19 → V1 → Option (Bool)) (x0 : Int) (x1 : V1) (x2 : Int) (x3 : Bool) (x4 : V21) (x5 : Int) (x6 : Int) (k0 : Int → V1 → Int → Bool → V21 → Int → Int → Option R) : Option R :=
(g38_6 x0 x1 x2 x3 x4 x5 x6 (fun y0 y1 y2 y3 y4 y5 y6 y7 => (g38_7 S57 y0 y1 y2 y3 y4 y5 y6 y7 (fun y0 y1 y2 y3 y4 y5 y6 y7 y8 => brB y8 (g38_8 y0 y1 y2 y3 y4 y5 y6 y7 y8 (fun y0 y1 y2 y3 y4 y5 y6 => (k0 y0 y1 y2 y3 y4 y5 y6))) (k0 y0 y1 y2 y3 y5 y6 y7)))))
theorem t38_10 {N cl} (S57) (h57 : (ctr57 S57).holds cl) {R} (K : KE R) (x0 x1 x2 x3 x4 x5 x6) : exec cl N c38_10 [(1, .v U2 x0), (2, .v .str x1), (8, .v U2 x2), (9, .v .bool x3), (15, .v U22 x4), (16, .v U2 x5), (17, .v U2 x6)] K = (g38_10 S57 x0 x1 x2 x3 x4 x5 x6 (fun y0 y1 y2 y3 y4 y5 y6 => K .normal [(1, .v U2 y0), (2, .v .str y1), (8, .v U2 y2), (9, .v .bool y3), (15, .v U22 y4), (16, .v U2 y5), (17, .v U2 y6)])) := by
  simp only [c38_10, exec_out, exec_block, exec_seq, seqK_normal, seqK_exit, seqK_ret, t38_6, t38_7 S57 h57, c38_9, exec_cond', hb38_1, Option.bind_some, brB_true, brB_false, t38_8, exec_skip, kp38_0, kp38_2, blockK_normal, blockK_ret, blockK_eq]
  rfl
def g38_11 {R : Type} (x0 : Int) (x1 : V1) (x2 : Int) (x3 : Bool) (x4 : V21) (x5 : Int) (x6 : Int) (k0 : Int → V1 → Int → Bool → V21 → Int → Int → Option R) : Option R :=
k0 x0 x1 x2 x3 x4 x5 (IntKind.i64.wrap (x6 + (1 : Int)))
theorem t38_11 {N cl} {R} (K : KE R) (x0 x1 x2 x3 x4 x5 x6) : exec cl N c38_11 [(1, .v U2 x0), (2, .v .str x1), (8, .v U2 x2), (9, .v .bool x3), (15, .v U22 x4), (16, .v U2 x5), (17, .v U2 x6)] K = (g38_11 x0 x1 x2 x3 x4 x5 x6 (fun y0 y1 y2 y3 y4 y5 y6 => K .normal [(1, .v U2 y0), (2, .v .str y1), (8, .v U2 y2), (9, .v .bool y3), (15, .v U22 y4), (16, .v U2 y5), (17, .v U2 y6)])) := by
  kernel_rfl
def g38_12 {R : Type} (S57 : V19 → V1 → Option (Bool)) (x0 : Int) (x1 : V1) (x2 : Int) (x3 : Bool) (x4 : V21) (x5 : Int) (x6 : Int) (k0 : Int → V1 → Int → Bool → V21 → Int → Int → Option R) (k1 : Int → V1 → Int → Bool → V21 → Int → Int → Option R) : Option R :=
(g38_4 x0 x1 x2 x3 x4 x5 x6 (fun y0 y1 y2 y3 y4 y5 y6 y7 => brB y7 ((fun y0 y1 y2 y3 y4 y5 y6 => (g38_10 S57 y0 y1 y2 y3 y4 y5 y6 (fun y0 y1 y2 y3 y4 y5 y6 => (g38_11 y0 y1 y2 y3 y4 y5 y6 k0)))) y0 y1 y2 y3 y4 y5 y6) (k1 y0 y1 y2 y3 y4 y5 y6)))
theorem t38_12 {N cl} (S57) (h57 : (ctr57 S57).holds cl) {R} (K : KE R) (x0 x1 x2 x3 x4 x5 x6) : exec cl N c38_12 [(1, .v U2 x0), (2, .v .str x1), (8, .v U2 x2), (9, .v .bool x3), (15, .v U22 x4), (16, .v U2 x5), (17, .v U2 x6)] K = (g38_12 S57 x0 x1 x2 x3 x4 x5 x6 (fun y0 y1 y2 y3 y4 y5 y6 => K .normal [(1, .v U2 y0), (2, .v .str y1), (8, .v U2 y2), (9, .v .bool y3), (15, .v U22 y4), (16, .v U2 y5), (17, .v U2 y6)]) (fun y0 y1 y2 y3 y4 y5 y6 => K (.exit 0) [(1, .v U2 y0), (2, .v .str y1), (8, .v U2 y2), (9, .v .bool y3), (15, .v U22 y4), (16, .v U2 y5), (17, .v U2 y6)])) := by
  simp only [c38_12, exec_seq, seqK_normal, seqK_exit, seqK_ret, t38_4, c38_5, exec_out, exec_cond', hb38_0, Option.bind_some, brB_true, brB_false, exec_skip, exec_exit, kp38_1, t38_10 S57 h57, t38_11]
  rfl
def l38_13 {R : Type} (S57 : V19 → V1 → Option (Bool)) (k0 : Int → V1 → Int → Bool → V21 → Int → Int → Option R) : Nat → Int → V1 → Int → Bool → V21 → Int → Int → Option R
  | 0, _, _, _, _, _, _, _ => none
  | m + 1, x0, x1, x2, x3, x4, x5, x6 => (g38_12 S57 x0 x1 x2 x3 x4 x5 x6 (fun y0 y1 y2 y3 y4 y5 y6 => l38_13 S57 k0 m y0 y1 y2 y3 y4 y5 y6) k0)
theorem lt38_13 {N cl} (S57) (h57 : (ctr57 S57).holds cl) {R} (K : KE R) : ∀ (m) (x0 x1 x2 x3 x4 x5 x6), iter [1, 2, 8, 9, 15, 16, 17] (fun env K => exec cl N c38_12 env K) K m [(1, .v U2 x0), (2, .v .str x1), (8, .v U2 x2), (9, .v .bool x3), (15, .v U22 x4), (16, .v U2 x5), (17, .v U2 x6)] = l38_13 S57 (fun y0 y1 y2 y3 y4 y5 y6 => K (.exit 0) [(1, .v U2 y0), (2, .v .str y1), (8, .v U2 y2), (9, .v .bool y3), (15, .v U22 y4), (16, .v U2 y5), (17, .v U2 y6)]) m x0 x1 x2 x3 x4 x5 x6 := by
  intro m
  induction m with
  | zero => intros; rfl
  | succ m ih =>
    intro x0 x1 x2 x3 x4 x5 x6
    simp only [iter_succ, t38_12 S57 h57, loopK_normal, loopK_exit, loopK_ret, kp38_0, ih]
    rfl
theorem kp38_3 (x0 x1 x2 x3 x4 x5 x6) : keep [8, 9] [(1, .v U2 x0), (2, .v .str x1), (8, .v U2 x2), (9, .v .bool x3), (15, .v U22 x4), (16, .v U2 x5), (17, .v U2 x6)] = [(8, .v U2 x2), (9, .v .bool x3)] := by kernel_rfl
def g38_13 {R : Type} (N : Nat) (S57 : V19 → V1 → Option (Bool)) (x0 : Int) (x1 : V1) (x2 : Int) (x3 : Bool) (x4 : V21) (x5 : Int) (x6 : Int) (k0 : Int → Bool → Option R) : Option R :=
l38_13 S57 (fun y0 y1 y2 y3 y4 y5 y6 => k0 y2 y3) N x0 x1 x2 x3 x4 x5 x6
theorem t38_13 {N cl} (S57) (h57 : (ctr57 S57).holds cl) {R} (K : KE R) (x0 x1 x2 x3 x4 x5 x6) : exec cl N c38_13 [(1, .v U2 x0), (2, .v .str x1), (8, .v U2 x2), (9, .v .bool x3), (15, .v U22 x4), (16, .v U2 x5), (17, .v U2 x6)] K = (g38_13 N S57 x0 x1 x2 x3 x4 x5 x6 (fun y0 y1 => K (.exit 0) [(8, .v U2 y0), (9, .v .bool y1)])) := by
  simp only [c38_13, exec_out, exec_loop, kp38_0, lt38_13 S57 h57, kp38_3]
  rfl
theorem kp38_4 (x0 x1) : keep [8, 9] [(8, .v U2 x0), (9, .v .bool x1)] = [(8, .v U2 x0), (9, .v .bool x1)] := by kernel_rfl
def g38_15 {R : Type} (x0 : Int) (x1 : Bool) (k0 : Int → Bool → Option R) : Option R :=
k0 x0 x1
theorem t38_15 {N cl} {R} (K : KE R) (x0 x1) : exec cl N c38_15 [(8, .v U2 x0), (9, .v .bool x1)] K = (g38_15 x0 x1 (fun y0 y1 => K .normal [(6, .v U2 y0), (7, .v .bool y1)])) := by
  kernel_rfl
def g38_16 {R : Type} (N : Nat) (S56 : V1 → Option V5) (S57 : V19 → V1 → Option (Bool)) (x0 : V24) (x1 : Int) (x2 : V1) (k0 : Int → Bool → Option R) : Option R :=
(g38_0 x0 x1 x2 (fun y0 y1 y2 => (g38_1 S56 y0 y1 y2 (fun y0 y1 y2 => (g38_2 y0 y1 y2 (fun y0 y1 y2 y3 y4 => (g38_3 y0 y1 y2 y3 y4 (fun y0 y1 y2 y3 y4 y5 y6 => (g38_13 N S57 y0 y1 y2 y3 y4 y5 y6 (fun y0 y1 => ((fun y0 y1 => (g38_15 y0 y1 (fun y0 y1 => (k0 y0 y1)))) y0 y1)))))))))))
theorem t38_16 {N cl} (S56) (S57) (h56 : (ctr56 S56).holds cl) (h57 : (ctr57 S57).holds cl) {R} (K : KE R) (x0 x1 x2) : exec cl N c38_16 [(0, .v U26 x0), (1, .v U2 x1), (2, .v .str x2)] K = (g38_16 N S56 S57 x0 x1 x2 (fun y0 y1 => K .ret [(6, .v U2 y0), (7, .v .bool y1)])) := by
  simp only [c38_16, exec_seq, seqK_normal, seqK_exit, seqK_ret, t38_0, t38_1 S56 h56, t38_2, t38_3, c38_14, exec_out, exec_block, t38_13 S57 h57, blockK_normal, blockK_ret, blockK_eq, kp38_4, t38_15, exec_ret]
  rfl
theorem rk38_0 (y0 : Int) (y1 : Bool) : retK d38 .ret [(6, .v U2 y0), (7, .v .bool y1)] = some [.v U2 y0, .v .bool y1] := by kernel_rfl
def g38 {R : Type} (N : Nat) (S56 : V1 → Option V5) (S57 : V19 → V1 → Option (Bool)) (x0 : V24) (x1 : Int) (x2 : V1) (k : Int → Bool → Option R) : Option R :=
(g38_16 N S56 S57 x0 x1 x2 (fun y0 y1 => k y0 y1))
theorem gen38 {N : Nat} {cl : Cal} (S56 : V1 → Option V5) (S57 : V19 → V1 → Option (Bool)) (h56 : (ctr56 S56).holds cl) (h57 : (ctr57 S57).holds cl) (x0 : V24) (x1 : Int) (x2 : V1) {R : Type} (k : List E → Option R) : exec cl N c38 (params 0 [.v U26 x0, .v U2 x1, .v .str x2]) (fun e env => (retK d38 e env).bind k) = g38 N S56 S57 x0 x1 x2 (fun (r0 : Int) (r1 : Bool) => k [.v U2 r0, .v .bool r1]) := by
  have e0 : params 0 [.v U26 x0, .v U2 x1, .v .str x2] = [(0, .v U26 x0), (1, .v U2 x1), (2, .v .str x2)] := by kernel_rfl
  simp only [c38, e0, t38_16 S56 S57 h56 h57, rk38_0, Option.bind_some]
  rfl
def ctr38 (S : V24 → Int → V1 → Option V4) : Ctr := { A := V24 × Int × V1 × Unit, B := Int × Bool, f := 38, enc := fun a => [.v U26 a.1, .v U2 a.2.1, .v .str a.2.2.1], dec := (decC (decV U26) (decC (decV U2) (decC (decV .str) dec0))), S := fun a => S a.1 a.2.1 a.2.2.1, ent := fun b => [.v U2 b.1, .v .bool b.2], ok := (decV_cons (T := U26) (decV_cons (T := U2) (decV_cons (T := .str) (fun es b h => dec0_some h)))) }
def S38 (N : Nat) (x0 : V24) (x1 : Int) (x2 : V1) : Option V4 := g38 N (S56 N) (S57 N) x0 x1 x2 (fun (r0 : Int) (r1 : Bool) => some (r0, r1))
def g11_0 {R : Type} (x0 : V24) (x1 : V1) (x2 : V1) (x3 : V18) (x4 : V18) (k0 : V1 → V1 → V18 → V18 → V24 → Option R) : Option R :=
k0 x1 x2 x3 x4 x0
theorem t11_0 {N cl} {R} (K : KE R) (x0 x1 x2 x3 x4) : exec cl N c11_0 [(0, .v U26 x0), (1, .v .str x1), (2, .v .str x2), (3, .v U21 x3), (4, .v U21 x4)] K = (g11_0 x0 x1 x2 x3 x4 (fun y0 y1 y2 y3 y4 => K .normal [(1, .v .str y0), (2, .v .str y1), (3, .v U21 y2), (4, .v U21 y3), (5, .loc U26 .no y4)])) := by
  kernel_rfl
def g11_1 {R : Type} (S35 : V24 → Option (Int)) (x0 : V1) (x1 : V1) (x2 : V18) (x3 : V18) (x4 : V24) (k0 : V1 → V1 → V18 → V18 → V24 → Int → Option R) : Option R :=
(S35 x4).bind fun r448 =>
k0 x0 x1 x2 x3 x4 r448
theorem t11_1 {N cl} (S35) (h35 : (ctr35 S35).holds cl) {R} (K : KE R) (x0 x1 x2 x3 x4) : exec cl N c11_1 [(1, .v .str x0), (2, .v .str x1), (3, .v U21 x2), (4, .v U21 x3), (5, .loc U26 .no x4)] K = (g11_1 S35 x0 x1 x2 x3 x4 (fun y0 y1 y2 y3 y4 y5 => K .normal [(1, .v .str y0), (2, .v .str y1), (3, .v U21 y2), (4, .v U21 y3), (5, .loc U26 .no y4), (12, .v U2 y5)])) := by
  rw [← put_eq h35]
  kernel_rfl
def g11_2 {R : Type} (x0 : V1) (x1 : V1) (x2 : V18) (x3 : V18) (x4 : V24) (x5 : Int) (k0 : V1 → V1 → V18 → V18 → V24 → Int → Bool → Option R) : Option R :=
k0 x0 x1 x2 x3 x4 x5 (x5 != (0 : Int))
theorem t11_2 {N cl} {R} (K : KE R) (x0 x1 x2 x3 x4 x5) : exec cl N c11_2 [(1, .v .str x0), (2, .v .str x1), (3, .v U21 x2), (4, .v U21 x3), (5, .loc U26 .no x4), (12, .v U2 x5)] K = (g11_2 x0 x1 x2 x3 x4 x5 (fun y0 y1 y2 y3 y4 y5 y6 => K .normal [(1, .v .str y0), (2, .v .str y1), (3, .v U21 y2), (4, .v U21 y3), (5, .loc U26 .no y4), (12, .v U2 y5), (23, .v .bool y6)])) := by
  kernel_rfl
def g11_3 {R : Type} (x0 : V1) (x1 : V1) (x2 : V18) (x3 : V18) (x4 : V24) (x5 : Int) (x6 : Bool) (k0 : V10 → Int → Option R) : Option R :=
k0 [] x5
theorem t11_3 {N cl} {R} (K : KE R) (x0 x1 x2 x3 x4 x5 x6) : exec cl N c11_3 [(1, .v .str x0), (2, .v .str x1), (3, .v U21 x2), (4, .v U21 x3), (5, .loc U26 .no x4), (12, .v U2 x5), (23, .v .bool x6)] K = (g11_3 x0 x1 x2 x3 x4 x5 x6 (fun y0 y1 => K .normal [(10, .own true 39 U16 .no y0), (11, .v U2 y1)])) := by
  kernel_rfl
theorem kp11_0 (x0 x1) : keep [1, 2, 3, 4, 5, 10, 11] [(10, .own true 39 U16 .no x0), (11, .v U2 x1)] = [(1, .dead), (2, .dead), (3, .dead), (4, .dead), (5, .dead), (10, .own true 39 U16 .no x0), (11, .v U2 x1)] := by kernel_rfl
theorem kp11_1 (x0 x1 x2 x3 x4 x5 x6) : keep [1, 2, 3, 4, 5, 10, 11] [(1, .v .str x0), (2, .v .str x1), (3, .v U21 x2), (4, .v U21 x3), (5, .loc U26 .no x4), (12, .v U2 x5), (23, .v .bool x6)] = [(1, .v .str x0), (2, .v .str x1), (3, .v U21 x2), (4, .v U21 x3), (5, .loc U26 .no x4), (10, .dead), (11, .dead)] := by kernel_rfl
theorem hb11_0 (x0 : V1) (x1 : V1) (x2 : V18) (x3 : V18) (x4 : V24) (x5 : Int) (x6 : Bool) : boolOf? (ent [(1, .v .str x0), (2, .v .str x1), (3, .v U21 x2), (4, .v U21 x3), (5, .loc U26 .no x4), (12, .v U2 x5), (23, .v .bool x6)] (.t 23)) = some x6 := by kernel_rfl
def g11_5 {R : Type} (S36 : V18 → V18 → Option (Int)) (x0 : V1) (x1 : V1) (x2 : V18) (x3 : V18) (x4 : V24) (k0 : V1 → V1 → V18 → V18 → V24 → Int → Option R) : Option R :=
(S36 x2 x3).bind fun r450 =>
k0 x0 x1 x2 x3 x4 r450
theorem t11_5 {N cl} (S36) (h36 : (ctr36 S36).holds cl) {R} (K : KE R) (x0 x1 x2 x3 x4) : exec cl N c11_5 [(1, .v .str x0), (2, .v .str x1), (3, .v U21 x2), (4, .v U21 x3), (5, .loc U26 .no x4), (10, .dead), (11, .dead)] K = (g11_5 S36 x0 x1 x2 x3 x4 (fun y0 y1 y2 y3 y4 y5 => K .normal [(1, .v .str y0), (2, .v .str y1), (3, .v U21 y2), (4, .v U21 y3), (5, .loc U26 .no y4), (13, .v U2 y5)])) := by
  rw [← put_eq h36]
  kernel_rfl
def g11_6 {R : Type} (x0 : V1) (x1 : V1) (x2 : V18) (x3 : V18) (x4 : V24) (x5 : Int) (k0 : V1 → V1 → V18 → V18 → V24 → Int → Bool → Option R) : Option R :=
k0 x0 x1 x2 x3 x4 x5 (x5 != (0 : Int))
theorem t11_6 {N cl} {R} (K : KE R) (x0 x1 x2 x3 x4 x5) : exec cl N c11_6 [(1, .v .str x0), (2, .v .str x1), (3, .v U21 x2), (4, .v U21 x3), (5, .loc U26 .no x4), (13, .v U2 x5)] K = (g11_6 x0 x1 x2 x3 x4 x5 (fun y0 y1 y2 y3 y4 y5 y6 => K .normal [(1, .v .str y0), (2, .v .str y1), (3, .v U21 y2), (4, .v U21 y3), (5, .loc U26 .no y4), (13, .v U2 y5), (29, .v .bool y6)])) := by
  kernel_rfl
def g11_7 {R : Type} (x0 : V1) (x1 : V1) (x2 : V18) (x3 : V18) (x4 : V24) (x5 : Int) (x6 : Bool) (k0 : V10 → Int → Option R) : Option R :=
k0 [] x5
theorem t11_7 {N cl} {R} (K : KE R) (x0 x1 x2 x3 x4 x5 x6) : exec cl N c11_7 [(1, .v .str x0), (2, .v .str x1), (3, .v U21 x2), (4, .v U21 x3), (5, .loc U26 .no x4), (13, .v U2 x5), (29, .v .bool x6)] K = (g11_7 x0 x1 x2 x3 x4 x5 x6 (fun y0 y1 => K .normal [(10, .own true 39 U16 .no y0), (11, .v U2 y1)])) := by
  kernel_rfl
theorem kp11_2 (x0 x1 x2 x3 x4 x5 x6) : keep [1, 2, 3, 4, 5, 10, 11] [(1, .v .str x0), (2, .v .str x1), (3, .v U21 x2), (4, .v U21 x3), (5, .loc U26 .no x4), (13, .v U2 x5), (29, .v .bool x6)] = [(1, .v .str x0), (2, .v .str x1), (3, .v U21 x2), (4, .v U21 x3), (5, .loc U26 .no x4), (10, .dead), (11, .dead)] := by kernel_rfl
theorem hb11_1 (x0 : V1) (x1 : V1) (x2 : V18) (x3 : V18) (x4 : V24) (x5 : Int) (x6 : Bool) : boolOf? (ent [(1, .v .str x0), (2, .v .str x1), (3, .v U21 x2), (4, .v U21 x3), (5, .loc U26 .no x4), (13, .v U2 x5), (29, .v .bool x6)] (.t 29)) = some x6 := by kernel_rfl
def g11_9 {R : Type} (x0 : V1) (x1 : V1) (x2 : V18) (x3 : V18) (x4 : V24) (k0 : V1 → V1 → V18 → V18 → V24 → V10 → Option R) : Option R :=
k0 x0 x1 x2 x3 x4 []
theorem t11_9 {N cl} {R} (K : KE R) (x0 x1 x2 x3 x4) : exec cl N c11_9 [(1, .v .str x0), (2, .v .str x1), (3, .v U21 x2), (4, .v U21 x3), (5, .loc U26 .no x4), (10, .dead), (11, .dead)] K = (g11_9 x0 x1 x2 x3 x4 (fun y0 y1 y2 y3 y4 y5 => K .normal [(1, .v .str y0), (2, .v .str y1), (3, .v U21 y2), (4, .v U21 y3), (5, .loc U26 .no y4), (14, .own true 39 U16 .no y5)])) := by
  kernel_rfl
def g11_10 {R : Type} (S37 : V18 → V18 → Option V3) (x0 : V1) (x1 : V1) (x2 : V18) (x3 : V18) (x4 : V24) (x5 : V10) (k0 : V1 → V1 → V18 → V24 → V10 → V0 → Int → Int → Option R) : Option R :=
(S37 x2 x3).bind fun r452 =>
k0 x0 x1 x2 x4 x5 r452 (r452.length : Int) (0 : Int)
theorem t11_10 {N cl} (S37) (h37 : (ctr37 S37).holds cl) {R} (K : KE R) (x0 x1 x2 x3 x4 x5) : exec cl N c11_10 [(1, .v .str x0), (2, .v .str x1), (3, .v U21 x2), (4, .v U21 x3), (5, .loc U26 .no x4), (14, .own true 39 U16 .no x5)] K = (g11_10 S37 x0 x1 x2 x3 x4 x5 (fun y0 y1 y2 y3 y4 y5 y6 y7 => K .normal [(1, .v .str y0), (2, .v .str y1), (3, .v U21 y2), (5, .loc U26 .no y3), (14, .own true 39 U16 .no y4), (33, .own true 3 U2 .no y5), (34, .v U2 y6), (35, .v U2 y7)])) := by
  rw [← put_eq h37]
  kernel_rfl
theorem kp11_3 (x0 x1 x2 x3 x4 x5 x6 x7) : keep [1, 2, 3, 5, 14, 33, 34, 35] [(1, .v .str x0), (2, .v .str x1), (3, .v U21 x2), (5, .loc U26 .no x3), (14, .own true 39 U16 .no x4), (33, .own true 3 U2 .no x5), (34, .v U2 x6), (35, .v U2 x7)] = [(1, .v .str x0), (2, .v .str x1), (3, .v U21 x2), (5, .loc U26 .no x3), (14, .own true 39 U16 .no x4), (33, .own true 3 U2 .no x5), (34, .v U2 x6), (35, .v U2 x7)] := by kernel_rfl
def g11_11 {R : Type} (x0 : V1) (x1 : V1) (x2 : V18) (x3 : V24) (x4 : V10) (x5 : V0) (x6 : Int) (x7 : Int) (k0 : V1 → V1 → V18 → V24 → V10 → V0 → Int → Int → Bool → Option R) : Option R :=
k0 x0 x1 x2 x3 x4 x5 x6 x7 (decide (x7 < x6))
theorem t11_11 {N cl} {R} (K : KE R) (x0 x1 x2 x3 x4 x5 x6 x7) : exec cl N c11_11 [(1, .v .str x0), (2, .v .str x1), (3, .v U21 x2), (5, .loc U26 .no x3), (14, .own true 39 U16 .no x4), (33, .own true 3 U2 .no x5), (34, .v U2 x6), (35, .v U2 x7)] K = (g11_11 x0 x1 x2 x3 x4 x5 x6 x7 (fun y0 y1 y2 y3 y4 y5 y6 y7 y8 => K .normal [(1, .v .str y0), (2, .v .str y1), (3, .v U21 y2), (5, .loc U26 .no y3), (14, .own true 39 U16 .no y4), (33, .own true 3 U2 .no y5), (34, .v U2 y6), (35, .v U2 y7), (36, .v .bool y8)])) := by
  kernel_rfl
theorem kp11_4 (x0 x1 x2 x3 x4 x5 x6 x7 x8) : keep [1, 2, 3, 5, 14, 33, 34, 35] [(1, .v .str x0), (2, .v .str x1), (3, .v U21 x2), (5, .loc U26 .no x3), (14, .own true 39 U16 .no x4), (33, .own true 3 U2 .no x5), (34, .v U2 x6), (35, .v U2 x7), (36, .v .bool x8)] = [(1, .v .str x0), (2, .v .str x1), (3, .v U21 x2), (5, .loc U26 .no x3), (14, .own true 39 U16 .no x4), (33, .own true 3 U2 .no x5), (34, .v U2 x6), (35, .v U2 x7)] := by kernel_rfl
theorem hb11_2 (x0 : V1) (x1 : V1) (x2 : V18) (x3 : V24) (x4 : V10) (x5 : V0) (x6 : Int) (x7 : Int) (x8 : Bool) : boolOf? (ent [(1, .v .str x0), (2, .v .str x1), (3, .v U21 x2), (5, .loc U26 .no x3), (14, .own true 39 U16 .no x4), (33, .own true 3 U2 .no x5), (34, .v U2 x6), (35, .v U2 x7), (36, .v .bool x8)] (.t 36)) = some x8 := by kernel_rfl
def g11_13 {R : Type} (x0 : V1) (x1 : V1) (x2 : V18) (x3 : V24) (x4 : V10) (x5 : V0) (x6 : Int) (x7 : Int) (k0 : V1 → V1 → V18 → V24 → V10 → Int → V0 → Int → Int → Option R) : Option R :=
if 0 ≤ x7 ∧ x7 < (x5.length : Int) then
if x7.toNat < x5.length then
k0 x0 x1 x2 x3 x4 (x5.getD x7.toNat (0 : Int)) x5 x6 x7
else none
else none
theorem t11_13 {N cl} {R} (K : KE R) (x0 x1 x2 x3 x4 x5 x6 x7) : exec cl N c11_13 [(1, .v .str x0), (2, .v .str x1), (3, .v U21 x2), (5, .loc U26 .no x3), (14, .own true 39 U16 .no x4), (33, .own true 3 U2 .no x5), (34, .v U2 x6), (35, .v U2 x7)] K = (g11_13 x0 x1 x2 x3 x4 x5 x6 x7 (fun y0 y1 y2 y3 y4 y5 y6 y7 y8 => K .normal [(1, .v .str y0), (2, .v .str y1), (3, .v U21 y2), (5, .loc U26 .no y3), (14, .own true 39 U16 .no y4), (16, .v U2 y5), (33, .own true 3 U2 .no y6), (34, .v U2 y7), (35, .v U2 y8)])) := by
  kernel_rfl
def g11_14 {R : Type} (x0 : V1) (x1 : V1) (x2 : V18) (x3 : V24) (x4 : V10) (x5 : Int) (x6 : V0) (x7 : Int) (x8 : Int) (k0 : V1 → V1 → V18 → V24 → V10 → Int → V0 → Int → Int → Bool → Option R) : Option R :=
k0 x0 x1 x2 x3 x4 x5 x6 x7 x8 (x5 == (0 : Int))
theorem t11_14 {N cl} {R} (K : KE R) (x0 x1 x2 x3 x4 x5 x6 x7 x8) : exec cl N c11_14 [(1, .v .str x0), (2, .v .str x1), (3, .v U21 x2), (5, .loc U26 .no x3), (14, .own true 39 U16 .no x4), (16, .v U2 x5), (33, .own true 3 U2 .no x6), (34, .v U2 x7), (35, .v U2 x8)] K = (g11_14 x0 x1 x2 x3 x4 x5 x6 x7 x8 (fun y0 y1 y2 y3 y4 y5 y6 y7 y8 y9 => K .normal [(1, .v .str y0), (2, .v .str y1), (3, .v U21 y2), (5, .loc U26 .no y3), (14, .own true 39 U16 .no y4), (16, .v U2 y5), (33, .own true 3 U2 .no y6), (34, .v U2 y7), (35, .v U2 y8), (40, .v .bool y9)])) := by
  kernel_rfl
def g11_15 {R : Type} (x0 : V1) (x1 : V1) (x2 : V18) (x3 : V24) (x4 : V10) (x5 : Int) (x6 : V0) (x7 : Int) (x8 : Int) (x9 : Bool) (k0 : V1 → V1 → V18 → V24 → V10 → V0 → Int → Int → Option R) : Option R :=
if x4.length + [(x5, (0 : Int), ())].length ≤ 8796093022208 then
k0 x0 x1 x2 x3 (x4 ++ [(x5, (0 : Int), ())]) x6 x7 x8
else none
theorem t11_15 {N cl} {R} (K : KE R) (x0 x1 x2 x3 x4 x5 x6 x7 x8 x9) : exec cl N c11_15 [(1, .v .str x0), (2, .v .str x1), (3, .v U21 x2), (5, .loc U26 .no x3), (14, .own true 39 U16 .no x4), (16, .v U2 x5), (33, .own true 3 U2 .no x6), (34, .v U2 x7), (35, .v U2 x8), (40, .v .bool x9)] K = (g11_15 x0 x1 x2 x3 x4 x5 x6 x7 x8 x9 (fun y0 y1 y2 y3 y4 y5 y6 y7 => K .normal [(1, .v .str y0), (2, .v .str y1), (3, .v U21 y2), (5, .loc U26 .no y3), (14, .own true 39 U16 .no y4), (33, .own true 3 U2 .no y5), (34, .v U2 y6), (35, .v U2 y7)])) := by
  kernel_rfl
theorem kp11_5 (x0 x1 x2 x3 x4 x5 x6 x7) : keep [1, 2, 3, 5, 14, 16, 33, 34, 35] [(1, .v .str x0), (2, .v .str x1), (3, .v U21 x2), (5, .loc U26 .no x3), (14, .own true 39 U16 .no x4), (33, .own true 3 U2 .no x5), (34, .v U2 x6), (35, .v U2 x7)] = [(1, .v .str x0), (2, .v .str x1), (3, .v U21 x2), (5, .loc U26 .no x3), (14, .own true 39 U16 .no x4), (16, .dead), (33, .own true 3 U2 .no x5), (34, .v U2 x6), (35, .v U2 x7)] := by kernel_rfl
theorem kp11_6 (x0 x1 x2 x3 x4 x5 x6 x7 x8 x9) : keep [1, 2, 3, 5, 14, 16, 33, 34, 35] [(1, .v .str x0), (2, .v .str x1), (3, .v U21 x2), (5, .loc U26 .no x3), (14, .own true 39 U16 .no x4), (16, .v U2 x5), (33, .own true 3 U2 .no x6), (34, .v U2 x7), (35, .v U2 x8), (40, .v .bool x9)] = [(1, .v .str x0), (2, .v .str x1), (3, .v U21 x2), (5, .loc U26 .no x3), (14, .own true 39 U16 .no x4), (16, .v U2 x5), (33, .own true 3 U2 .no x6), (34, .v U2 x7), (35, .v U2 x8)] := by kernel_rfl
theorem hb11_3 (x0 : V1) (x1 : V1) (x2 : V18) (x3 : V24) (x4 : V10) (x5 : Int) (x6 : V0) (x7 : Int) (x8 : Int) (x9 : Bool) : boolOf? (ent [(1, .v .str x0), (2, .v .str x1), (3, .v U21 x2), (5, .loc U26 .no x3), (14, .own true 39 U16 .no x4), (16, .v U2 x5), (33, .own true 3 U2 .no x6), (34, .v U2 x7), (35, .v U2 x8), (40, .v .bool x9)] (.t 40)) = some x9 := by kernel_rfl
def g11_17 {R : Type} (x0 : V1) (x1 : V1) (x2 : V18) (x3 : V24) (x4 : V10) (x5 : Int) (x6 : V0) (x7 : Int) (x8 : Int) (k0 : V1 → V1 → V18 → V24 → V10 → Int → V1 → V0 → Int → Int → Option R) : Option R :=
k0 x0 x1 x2 x3 x4 x5 x0 x6 x7 x8
theorem t11_17 {N cl} {R} (K : KE R) (x0 x1 x2 x3 x4 x5 x6 x7 x8) : exec cl N c11_17 [(1, .v .str x0), (2, .v .str x1), (3, .v U21 x2), (5, .loc U26 .no x3), (14, .own true 39 U16 .no x4), (16, .v U2 x5), (33, .own true 3 U2 .no x6), (34, .v U2 x7), (35, .v U2 x8)] K = (g11_17 x0 x1 x2 x3 x4 x5 x6 x7 x8 (fun y0 y1 y2 y3 y4 y5 y6 y7 y8 y9 => K .normal [(1, .v .str y0), (2, .v .str y1), (3, .v U21 y2), (5, .loc U26 .no y3), (14, .own true 39 U16 .no y4), (16, .v U2 y5), (17, .v .str y6), (33, .own true 3 U2 .no y7), (34, .v U2 y8), (35, .v U2 y9)])) := by
  kernel_rfl
def g11_18 {R : Type} (x0 : V1) (x1 : V1) (x2 : V18) (x3 : V24) (x4 : V10) (x5 : Int) (x6 : V1) (x7 : V0) (x8 : Int) (x9 : Int) (k0 : V1 → V1 → V18 → V24 → V10 → Int → V1 → V0 → Int → Int → Bool → Option R) : Option R :=
k0 x0 x1 x2 x3 x4 x5 x6 x7 x8 x9 (x5 == (2 : Int))
theorem t11_18 {N cl} {R} (K : KE R) (x0 x1 x2 x3 x4 x5 x6 x7 x8 x9) : exec cl N c11_18 [(1, .v .str x0), (2, .v .str x1), (3, .v U21 x2), (5, .loc U26 .no x3), (14, .own true 39 U16 .no x4), (16, .v U2 x5), (17, .v .str x6), (33, .own true 3 U2 .no x7), (34, .v U2 x8), (35, .v U2 x9)] K = (g11_18 x0 x1 x2 x3 x4 x5 x6 x7 x8 x9 (fun y0 y1 y2 y3 y4 y5 y6 y7 y8 y9 y10 => K .normal [(1, .v .str y0), (2, .v .str y1), (3, .v U21 y2), (5, .loc U26 .no y3), (14, .own true 39 U16 .no y4), (16, .v U2 y5), (17, .v .str y6), (33, .own true 3 U2 .no y7), (34, .v U2 y8), (35, .v U2 y9), (48, .v .bool y10)])) := by
  kernel_rfl
def g11_19 {R : Type} (x0 : V1) (x1 : V1) (x2 : V18) (x3 : V24) (x4 : V10) (x5 : Int) (x6 : V1) (x7 : V0) (x8 : Int) (x9 : Int) (x10 : Bool) (k0 : V1 → V1 → V18 → V24 → V10 → Int → V1 → V0 → Int → Int → Option R) : Option R :=
k0 x0 x1 x2 x3 x4 x5 x1 x7 x8 x9
theorem t11_19 {N cl} {R} (K : KE R) (x0 x1 x2 x3 x4 x5 x6 x7 x8 x9 x10) : exec cl N c11_19 [(1, .v .str x0), (2, .v .str x1), (3, .v U21 x2), (5, .loc U26 .no x3), (14, .own true 39 U16 .no x4), (16, .v U2 x5), (17, .v .str x6), (33, .own true 3 U2 .no x7), (34, .v U2 x8), (35, .v U2 x9), (48, .v .bool x10)] K = (g11_19 x0 x1 x2 x3 x4 x5 x6 x7 x8 x9 x10 (fun y0 y1 y2 y3 y4 y5 y6 y7 y8 y9 => K .normal [(1, .v .str y0), (2, .v .str y1), (3, .v U21 y2), (5, .loc U26 .no y3), (14, .own true 39 U16 .no y4), (16, .v U2 y5), (17, .v .str y6), (33, .own true 3 U2 .no y7), (34, .v U2 y8), (35, .v U2 y9)])) := by
  kernel_rfl
theorem kp11_7 (x0 x1 x2 x3 x4 x5 x6 x7 x8 x9) : keep [1, 2, 3, 5, 14, 16, 17, 33, 34, 35] [(1, .v .str x0), (2, .v .str x1), (3, .v U21 x2), (5, .loc U26 .no x3), (14, .own true 39 U16 .no x4), (16, .v U2 x5), (17, .v .str x6), (33, .own true 3 U2 .no x7), (34, .v U2 x8), (35, .v U2 x9)] = [(1, .v .str x0), (2, .v .str x1), (3, .v U21 x2), (5, .loc U26 .no x3), (14, .own true 39 U16 .no x4), (16, .v U2 x5), (17, .v .str x6), (33, .own true 3 U2 .no x7), (34, .v U2 x8), (35, .v U2 x9)] := by kernel_rfl
theorem kp11_8 (x0 x1 x2 x3 x4 x5 x6 x7 x8 x9 x10) : keep [1, 2, 3, 5, 14, 16, 17, 33, 34, 35] [(1, .v .str x0), (2, .v .str x1), (3, .v U21 x2), (5, .loc U26 .no x3), (14, .own true 39 U16 .no x4), (16, .v U2 x5), (17, .v .str x6), (33, .own true 3 U2 .no x7), (34, .v U2 x8), (35, .v U2 x9), (48, .v .bool x10)] = [(1, .v .str x0), (2, .v .str x1), (3, .v U21 x2), (5, .loc U26 .no x3), (14, .own true 39 U16 .no x4), (16, .v U2 x5), (17, .v .str x6), (33, .own true 3 U2 .no x7), (34, .v U2 x8), (35, .v U2 x9)] := by kernel_rfl
theorem hb11_4 (x0 : V1) (x1 : V1) (x2 : V18) (x3 : V24) (x4 : V10) (x5 : Int) (x6 : V1) (x7 : V0) (x8 : Int) (x9 : Int) (x10 : Bool) : boolOf? (ent [(1, .v .str x0), (2, .v .str x1), (3, .v U21 x2), (5, .loc U26 .no x3), (14, .own true 39 U16 .no x4), (16, .v U2 x5), (17, .v .str x6), (33, .own true 3 U2 .no x7), (34, .v U2 x8), (35, .v U2 x9), (48, .v .bool x10)] (.t 48)) = some x10 := by kernel_rfl
def g11_21 {R : Type} (x0 : V1) (x1 : V1) (x2 : V18) (x3 : V24) (x4 : V10) (x5 : Int) (x6 : V1) (x7 : V0) (x8 : Int) (x9 : Int) (k0 : V1 → V1 → V18 → V24 → V10 → Int → V1 → V0 → Int → Int → Option R) : Option R :=
(g11_18 x0 x1 x2 x3 x4 x5 x6 x7 x8 x9 (fun y0 y1 y2 y3 y4 y5 y6 y7 y8 y9 y10 => brB y10 (g11_19 y0 y1 y2 y3 y4 y5 y6 y7 y8 y9 y10 (fun y0 y1 y2 y3 y4 y5 y6 y7 y8 y9 => (k0 y0 y1 y2 y3 y4 y5 y6 y7 y8 y9))) (k0 y0 y1 y2 y3 y4 y5 y6 y7 y8 y9)))
theorem t11_21 {N cl} {R} (K : KE R) (x0 x1 x2 x3 x4 x5 x6 x7 x8 x9) : exec cl N c11_21 [(1, .v .str x0), (2, .v .str x1), (3, .v U21 x2), (5, .loc U26 .no x3), (14, .own true 39 U16 .no x4), (16, .v U2 x5), (17, .v .str x6), (33, .own true 3 U2 .no x7), (34, .v U2 x8), (35, .v U2 x9)] K = (g11_21 x0 x1 x2 x3 x4 x5 x6 x7 x8 x9 (fun y0 y1 y2 y3 y4 y5 y6 y7 y8 y9 => K .normal [(1, .v .str y0), (2, .v .str y1), (3, .v U21 y2), (5, .loc U26 .no y3), (14, .own true 39 U16 .no y4), (16, .v U2 y5), (17, .v .str y6), (33, .own true 3 U2 .no y7), (34, .v U2 y8), (35, .v U2 y9)])) := by
  simp only [c11_21, exec_seq, seqK_normal, seqK_exit, seqK_ret, t11_18, c11_20, exec_out, exec_cond', hb11_4, Option.bind_some, brB_true, brB_false, t11_19, exec_skip, kp11_7, kp11_8]
  rfl
def g11_22 {R : Type} (S14 : V18 → Option (Int)) (S38 : V24 → Int → V1 → Option V4) (S39 : Int → Int → Option (Int)) (x0 : V1) (x1 : V1) (x2 : V18) (x3 : V24) (x4 : V10) (x5 : Int) (x6 : V1) (x7 : V0) (x8 : Int) (x9 : Int) (k0 : V1 → V1 → V18 → V24 → V10 → Int → Int → Bool → V0 → Int → Int → Option R) : Option R :=
(S14 x2).bind fun r458 =>
(S39 x5 r458).bind fun r459 =>
(S38 x3 r459 x6).bind fun r460 =>
k0 x0 x1 x2 x3 x4 x5 r460.1 r460.2 x7 x8 x9
theorem t11_22 {N cl} (S14) (S38) (S39) (h14 : (ctr14 S14).holds cl) (h38 : (ctr38 S38).holds cl) (h39 : (ctr39 S39).holds cl) {R} (K : KE R) (x0 x1 x2 x3 x4 x5 x6 x7 x8 x9) : exec cl N c11_22 [(1, .v .str x0), (2, .v .str x1), (3, .v U21 x2), (5, .loc U26 .no x3), (14, .own true 39 U16 .no x4), (16, .v U2 x5), (17, .v .str x6), (33, .own true 3 U2 .no x7), (34, .v U2 x8), (35, .v U2 x9)] K = (g11_22 S14 S38 S39 x0 x1 x2 x3 x4 x5 x6 x7 x8 x9 (fun y0 y1 y2 y3 y4 y5 y6 y7 y8 y9 y10 => K .normal [(1, .v .str y0), (2, .v .str y1), (3, .v U21 y2), (5, .loc U26 .no y3), (14, .own true 39 U16 .no y4), (16, .v U2 y5), (18, .v U2 y6), (19, .v .bool y7), (33, .own true 3 U2 .no y8), (34, .v U2 y9), (35, .v U2 y10)])) := by
  rw [← put_eq h14]
  rw [← put_eq h38]
  rw [← put_eq h39]
  kernel_rfl
def g11_23 {R : Type} (x0 : V1) (x1 : V1) (x2 : V18) (x3 : V24) (x4 : V10) (x5 : Int) (x6 : Int) (x7 : Bool) (x8 : V0) (x9 : Int) (x10 : Int) (k0 : V1 → V1 → V18 → V24 → V10 → Int → Int → V0 → Int → Int → Bool → Option R) : Option R :=
k0 x0 x1 x2 x3 x4 x5 x6 x8 x9 x10 x7
theorem t11_23 {N cl} {R} (K : KE R) (x0 x1 x2 x3 x4 x5 x6 x7 x8 x9 x10) : exec cl N c11_23 [(1, .v .str x0), (2, .v .str x1), (3, .v U21 x2), (5, .loc U26 .no x3), (14, .own true 39 U16 .no x4), (16, .v U2 x5), (18, .v U2 x6), (19, .v .bool x7), (33, .own true 3 U2 .no x8), (34, .v U2 x9), (35, .v U2 x10)] K = (g11_23 x0 x1 x2 x3 x4 x5 x6 x7 x8 x9 x10 (fun y0 y1 y2 y3 y4 y5 y6 y7 y8 y9 y10 => K .normal [(1, .v .str y0), (2, .v .str y1), (3, .v U21 y2), (5, .loc U26 .no y3), (14, .own true 39 U16 .no y4), (16, .v U2 y5), (18, .v U2 y6), (33, .own true 3 U2 .no y7), (34, .v U2 y8), (35, .v U2 y9), (60, .v .bool y10)])) := by
  kernel_rfl
def g11_24 {R : Type} (x0 : V1) (x1 : V1) (x2 : V18) (x3 : V24) (x4 : V10) (x5 : Int) (x6 : Int) (x7 : V0) (x8 : Int) (x9 : Int) (x10 : Bool) (k0 : V1 → V1 → V18 → V24 → V10 → V0 → Int → Int → Option R) : Option R :=
if x4.length + [(x5, x6, ())].length ≤ 8796093022208 then
k0 x0 x1 x2 x3 (x4 ++ [(x5, x6, ())]) x7 x8 x9
else none
theorem t11_24 {N cl} {R} (K : KE R) (x0 x1 x2 x3 x4 x5 x6 x7 x8 x9 x10) : exec cl N c11_24 [(1, .v .str x0), (2, .v .str x1), (3, .v U21 x2), (5, .loc U26 .no x3), (14, .own true 39 U16 .no x4), (16, .v U2 x5), (18, .v U2 x6), (33, .own true 3 U2 .no x7), (34, .v U2 x8), (35, .v U2 x9), (60, .v .bool x10)] K = (g11_24 x0 x1 x2 x3 x4 x5 x6 x7 x8 x9 x10 (fun y0 y1 y2 y3 y4 y5 y6 y7 => K .normal [(1, .v .str y0), (2, .v .str y1), (3, .v U21 y2), (5, .loc U26 .no y3), (14, .own true 39 U16 .no y4), (33, .own true 3 U2 .no y5), (34, .v U2 y6), (35, .v U2 y7)])) := by
  kernel_rfl
theorem kp11_9 (x0 x1 x2 x3 x4 x5 x6 x7 x8 x9 x10) : keep [1, 2, 3, 5, 14, 33, 34, 35] [(1, .v .str x0), (2, .v .str x1), (3, .v U21 x2), (5, .loc U26 .no x3), (14, .own true 39 U16 .no x4), (16, .v U2 x5), (18, .v U2 x6), (33, .own true 3 U2 .no x7), (34, .v U2 x8), (35, .v U2 x9), (60, .v .bool x10)] = [(1, .v .str x0), (2, .v .str x1), (3, .v U21 x2), (5, .loc U26 .no x3), (14, .own true 39 U16 .no x4), (33, .own true 3 U2 .no x7), (34, .v U2 x8), (35, .v U2 x9)] := by kernel_rfl
theorem hb11_5 (x0 : V1) (x1 : V1) (x2 : V18) (x3 : V24) (x4 : V10) (x5 : Int) (x6 : Int) (x7 : V0) (x8 : Int) (x9 : Int) (x10 : Bool) : boolOf? (ent [(1, .v .str x0), (2, .v .str x1), (3, .v U21 x2), (5, .loc U26 .no x3), (14, .own true 39 U16 .no x4), (16, .v U2 x5), (18, .v U2 x6), (33, .own true 3 U2 .no x7), (34, .v U2 x8), (35, .v U2 x9), (60, .v .bool x10)] (.t 60)) = some x10 := by kernel_rfl
theorem kp11_10 (x0 x1 x2 x3 x4 x5 x6 x7) : keep [1, 2, 3, 5, 14, 33, 34, 35] [(1, .v .str x0), (2, .v .str x1), (3, .v U21 x2), (5, .loc U26 .no x3), (14, .own true 39 U16 .no x4), (16, .dead), (33, .own true 3 U2 .no x5), (34, .v U2 x6), (35, .v U2 x7)] = [(1, .v .str x0), (2, .v .str x1), (3, .v U21 x2), (5, .loc U26 .no x3), (14, .own true 39 U16 .no x4), (33, .own true 3 U2 .no x5), (34, .v U2 x6), (35, .v U2 x7)] := by kernel_rfl
def g11_26 {R : Type} (S14 : V18 → Option (Int)) (S38 : V24 → Int → V1 → Option V4) (S39 : Int → Int → Option (Int)) (x0 : V1) (x1 : V1) (x2 : V18) (x3 : V24) (x4 : V10) (x5 : V0) (x6 : Int) (x7 : Int) (k0 : V1 → V1 → V18 → V24 → V10 → V0 → Int → Int → Option R) : Option R :=
(g11_13 x0 x1 x2 x3 x4 x5 x6 x7 (fun y0 y1 y2 y3 y4 y5 y6 y7 y8 => (g11_14 y0 y1 y2 y3 y4 y5 y6 y7 y8 (fun y0 y1 y2 y3 y4 y5 y6 y7 y8 y9 => brB y9 (g11_15 y0 y1 y2 y3 y4 y5 y6 y7 y8 y9 (fun y0 y1 y2 y3 y4 y5 y6 y7 => ((fun y0 y1 y2 y3 y4 y5 y6 y7 => (k0 y0 y1 y2 y3 y4 y5 y6 y7)) y0 y1 y2 y3 y4 y5 y6 y7))) ((fun y0 y1 y2 y3 y4 y5 y6 y7 y8 => (g11_17 y0 y1 y2 y3 y4 y5 y6 y7 y8 (fun y0 y1 y2 y3 y4 y5 y6 y7 y8 y9 => (g11_21 y0 y1 y2 y3 y4 y5 y6 y7 y8 y9 (fun y0 y1 y2 y3 y4 y5 y6 y7 y8 y9 => (g11_22 S14 S38 S39 y0 y1 y2 y3 y4 y5 y6 y7 y8 y9 (fun y0 y1 y2 y3 y4 y5 y6 y7 y8 y9 y10 => (g11_23 y0 y1 y2 y3 y4 y5 y6 y7 y8 y9 y10 (fun y0 y1 y2 y3 y4 y5 y6 y7 y8 y9 y10 => brB y10 (g11_24 y0 y1 y2 y3 y4 y5 y6 y7 y8 y9 y10 (fun y0 y1 y2 y3 y4 y5 y6 y7 => (k0 y0 y1 y2 y3 y4 y5 y6 y7))) (k0 y0 y1 y2 y3 y4 y7 y8 y9)))))))))) y0 y1 y2 y3 y4 y5 y6 y7 y8)))))
theorem t11_26 {N cl} (S14) (S38) (S39) (h14 : (ctr14 S14).holds cl) (h38 : (ctr38 S38).holds cl) (h39 : (ctr39 S39).holds cl) {R} (K : KE R) (x0 x1 x2 x3 x4 x5 x6 x7) : exec cl N c11_26 [(1, .v .str x0), (2, .v .str x1), (3, .v U21 x2), (5, .loc U26 .no x3), (14, .own true 39 U16 .no x4), (33, .own true 3 U2 .no x5), (34, .v U2 x6), (35, .v U2 x7)] K = (g11_26 S14 S38 S39 x0 x1 x2 x3 x4 x5 x6 x7 (fun y0 y1 y2 y3 y4 y5 y6 y7 => K .normal [(1, .v .str y0), (2, .v .str y1), (3, .v U21 y2), (5, .loc U26 .no y3), (14, .own true 39 U16 .no y4), (33, .own true 3 U2 .no y5), (34, .v U2 y6), (35, .v U2 y7)])) := by
  simp only [c11_26, exec_out, exec_block, exec_seq, seqK_normal, seqK_exit, seqK_ret, t11_13, t11_14, c11_16, exec_cond', hb11_3, Option.bind_some, brB_true, brB_false, t11_15, exec_exit, exec_skip, kp11_5, kp11_6, t11_17, t11_21, t11_22 S14 S38 S39 h14 h38 h39, t11_23, c11_25, hb11_5, t11_24, kp11_3, kp11_9, blockK_normal, blockK_ret, blockK_eq, kp11_10]
  rfl
def g11_27 {R : Type} (x0 : V1) (x1 : V1) (x2 : V18) (x3 : V24) (x4 : V10) (x5 : V0) (x6 : Int) (x7 : Int) (k0 : V1 → V1 → V18 → V24 → V10 → V0 → Int → Int → Option R) : Option R :=
k0 x0 x1 x2 x3 x4 x5 x6 (IntKind.i64.wrap (x7 + (1 : Int)))
theorem t11_27 {N cl} {R} (K : KE R) (x0 x1 x2 x3 x4 x5 x6 x7) : exec cl N c11_27 [(1, .v .str x0), (2, .v .str x1), (3, .v U21 x2), (5, .loc U26 .no x3), (14, .own true 39 U16 .no x4), (33, .own true 3 U2 .no x5), (34, .v U2 x6), (35, .v U2 x7)] K = (g11_27 x0 x1 x2 x3 x4 x5 x6 x7 (fun y0 y1 y2 y3 y4 y5 y6 y7 => K .normal [(1, .v .str y0), (2, .v .str y1), (3, .v U21 y2), (5, .loc U26 .no y3), (14, .own true 39 U16 .no y4), (33, .own true 3 U2 .no y5), (34, .v U2 y6), (35, .v U2 y7)])) := by
  kernel_rfl
def g11_28 {R : Type} (S14 : V18 → Option (Int)) (S38 : V24 → Int → V1 → Option V4) (S39 : Int → Int → Option (Int)) (x0 : V1) (x1 : V1) (x2 : V18) (x3 : V24) (x4 : V10) (x5 : V0) (x6 : Int) (x7 : Int) (k0 : V1 → V1 → V18 → V24 → V10 → V0 → Int → Int → Option R) (k1 : V1 → V1 → V18 → V24 → V10 → V0 → Int → Int → Option R) : Option R :=
(g11_11 x0 x1 x2 x3 x4 x5 x6 x7 (fun y0 y1 y2 y3 y4 y5 y6 y7 y8 => brB y8 ((fun y0 y1 y2 y3 y4 y5 y6 y7 => (g11_26 S14 S38 S39 y0 y1 y2 y3 y4 y5 y6 y7 (fun y0 y1 y2 y3 y4 y5 y6 y7 => (g11_27 y0 y1 y2 y3 y4 y5 y6 y7 k0)))) y0 y1 y2 y3 y4 y5 y6 y7) (k1 y0 y1 y2 y3 y4 y5 y6 y7)))
theorem t11_28 {N cl} (S14) (S38) (S39) (h14 : (ctr14 S14).holds cl) (h38 : (ctr38 S38).holds cl) (h39 : (ctr39 S39).holds cl) {R} (K : KE R) (x0 x1 x2 x3 x4 x5 x6 x7) : exec cl N c11_28 [(1, .v .str x0), (2, .v .str x1), (3, .v U21 x2), (5, .loc U26 .no x3), (14, .own true 39 U16 .no x4), (33, .own true 3 U2 .no x5), (34, .v U2 x6), (35, .v U2 x7)] K = (g11_28 S14 S38 S39 x0 x1 x2 x3 x4 x5 x6 x7 (fun y0 y1 y2 y3 y4 y5 y6 y7 => K .normal [(1, .v .str y0), (2, .v .str y1), (3, .v U21 y2), (5, .loc U26 .no y3), (14, .own true 39 U16 .no y4), (33, .own true 3 U2 .no y5), (34, .v U2 y6), (35, .v U2 y7)]) (fun y0 y1 y2 y3 y4 y5 y6 y7 => K (.exit 0) [(1, .v .str y0), (2, .v .str y1), (3, .v U21 y2), (5, .loc U26 .no y3), (14, .own true 39 U16 .no y4), (33, .own true 3 U2 .no y5), (34, .v U2 y6), (35, .v U2 y7)])) := by
  simp only [c11_28, exec_seq, seqK_normal, seqK_exit, seqK_ret, t11_11, c11_12, exec_out, exec_cond', hb11_2, Option.bind_some, brB_true, brB_false, exec_skip, exec_exit, kp11_4, t11_26 S14 S38 S39 h14 h38 h39, t11_27]
  rfl
def l11_29 {R : Type} (S14 : V18 → Option (Int)) (S38 : V24 → Int → V1 → Option V4) (S39 : Int → Int → Option (Int)) (k0 : V1 → V1 → V18 → V24 → V10 → V0 → Int → Int → Option R) : Nat → V1 → V1 → V18 → V24 → V10 → V0 → Int → Int → Option R
  | 0, _, _, _, _, _, _, _, _ => none
  | m + 1, x0, x1, x2, x3, x4, x5, x6, x7 => (g11_28 S14 S38 S39 x0 x1 x2 x3 x4 x5 x6 x7 (fun y0 y1 y2 y3 y4 y5 y6 y7 => l11_29 S14 S38 S39 k0 m y0 y1 y2 y3 y4 y5 y6 y7) k0)
theorem lt11_29 {N cl} (S14) (S38) (S39) (h14 : (ctr14 S14).holds cl) (h38 : (ctr38 S38).holds cl) (h39 : (ctr39 S39).holds cl) {R} (K : KE R) : ∀ (m) (x0 x1 x2 x3 x4 x5 x6 x7), iter [1, 2, 3, 5, 14, 33, 34, 35] (fun env K => exec cl N c11_28 env K) K m [(1, .v .str x0), (2, .v .str x1), (3, .v U21 x2), (5, .loc U26 .no x3), (14, .own true 39 U16 .no x4), (33, .own true 3 U2 .no x5), (34, .v U2 x6), (35, .v U2 x7)] = l11_29 S14 S38 S39 (fun y0 y1 y2 y3 y4 y5 y6 y7 => K (.exit 0) [(1, .v .str y0), (2, .v .str y1), (3, .v U21 y2), (5, .loc U26 .no y3), (14, .own true 39 U16 .no y4), (33, .own true 3 U2 .no y5), (34, .v U2 y6), (35, .v U2 y7)]) m x0 x1 x2 x3 x4 x5 x6 x7 := by
  intro m
  induction m with
  | zero => intros; rfl
  | succ m ih =>
    intro x0 x1 x2 x3 x4 x5 x6 x7
    simp only [iter_succ, t11_28 S14 S38 S39 h14 h38 h39, loopK_normal, loopK_exit, loopK_ret, kp11_3, ih]
    rfl
theorem kp11_11 (x0 x1 x2 x3 x4 x5 x6 x7) : keep [14] [(1, .v .str x0), (2, .v .str x1), (3, .v U21 x2), (5, .loc U26 .no x3), (14, .own true 39 U16 .no x4), (33, .own true 3 U2 .no x5), (34, .v U2 x6), (35, .v U2 x7)] = [(14, .own true 39 U16 .no x4)] := by kernel_rfl
def g11_29 {R : Type} (N : Nat) (S14 : V18 → Option (Int)) (S38 : V24 → Int → V1 → Option V4) (S39 : Int → Int → Option (Int)) (x0 : V1) (x1 : V1) (x2 : V18) (x3 : V24) (x4 : V10) (x5 : V0) (x6 : Int) (x7 : Int) (k0 : V10 → Option R) : Option R :=
l11_29 S14 S38 S39 (fun y0 y1 y2 y3 y4 y5 y6 y7 => k0 y4) N x0 x1 x2 x3 x4 x5 x6 x7
theorem t11_29 {N cl} (S14) (S38) (S39) (h14 : (ctr14 S14).holds cl) (h38 : (ctr38 S38).holds cl) (h39 : (ctr39 S39).holds cl) {R} (K : KE R) (x0 x1 x2 x3 x4 x5 x6 x7) : exec cl N c11_29 [(1, .v .str x0), (2, .v .str x1), (3, .v U21 x2), (5, .loc U26 .no x3), (14, .own true 39 U16 .no x4), (33, .own true 3 U2 .no x5), (34, .v U2 x6), (35, .v U2 x7)] K = (g11_29 N S14 S38 S39 x0 x1 x2 x3 x4 x5 x6 x7 (fun y0 => K (.exit 0) [(14, .own true 39 U16 .no y0)])) := by
  simp only [c11_29, exec_out, exec_loop, kp11_3, lt11_29 S14 S38 S39 h14 h38 h39, kp11_11]
  rfl
theorem kp11_12 (x0) : keep [14] [(14, .own true 39 U16 .no x0)] = [(14, .own true 39 U16 .no x0)] := by kernel_rfl
def g11_31 {R : Type} (x0 : V10) (k0 : Int → V10 → Option R) : Option R :=
k0 (0 : Int) x0
theorem t11_31 {N cl} {R} (K : KE R) (x0) : exec cl N c11_31 [(14, .own true 39 U16 .no x0)] K = (g11_31 x0 (fun y0 y1 => K .normal [(10, .ref 14 []), (11, .v U2 y0), (14, .own true 39 U16 .no y1)])) := by
  kernel_rfl
def g11_32 {R : Type} (N : Nat) (S14 : V18 → Option (Int)) (S35 : V24 → Option (Int)) (S36 : V18 → V18 → Option (Int)) (S37 : V18 → V18 → Option V3) (S38 : V24 → Int → V1 → Option V4) (S39 : Int → Int → Option (Int)) (x0 : V24) (x1 : V1) (x2 : V1) (x3 : V18) (x4 : V18) (k0 : V10 → Int → Option R) (k1 : Int → V10 → Option R) : Option R :=
(g11_0 x0 x1 x2 x3 x4 (fun y0 y1 y2 y3 y4 => (g11_1 S35 y0 y1 y2 y3 y4 (fun y0 y1 y2 y3 y4 y5 => (g11_2 y0 y1 y2 y3 y4 y5 (fun y0 y1 y2 y3 y4 y5 y6 => brB y6 (g11_3 y0 y1 y2 y3 y4 y5 y6 (fun y0 y1 => ((fun y0 y1 => (k0 y0 y1)) y0 y1))) ((fun y0 y1 y2 y3 y4 => (g11_5 S36 y0 y1 y2 y3 y4 (fun y0 y1 y2 y3 y4 y5 => (g11_6 y0 y1 y2 y3 y4 y5 (fun y0 y1 y2 y3 y4 y5 y6 => brB y6 (g11_7 y0 y1 y2 y3 y4 y5 y6 (fun y0 y1 => ((fun y0 y1 => (k0 y0 y1)) y0 y1))) ((fun y0 y1 y2 y3 y4 => (g11_9 y0 y1 y2 y3 y4 (fun y0 y1 y2 y3 y4 y5 => (g11_10 S37 y0 y1 y2 y3 y4 y5 (fun y0 y1 y2 y3 y4 y5 y6 y7 => (g11_29 N S14 S38 S39 y0 y1 y2 y3 y4 y5 y6 y7 (fun y0 => ((fun y0 => (g11_31 y0 (fun y0 y1 => (k1 y0 y1)))) y0)))))))) y0 y1 y2 y3 y4)))))) y0 y1 y2 y3 y4)))))))
theorem t11_32 {N cl} (S14) (S35) (S36) (S37) (S38) (S39) (h14 : (ctr14 S14).holds cl) (h35 : (ctr35 S35).holds cl) (h36 : (ctr36 S36).holds cl) (h37 : (ctr37 S37).holds cl) (h38 : (ctr38 S38).holds cl) (h39 : (ctr39 S39).holds cl) {R} (K : KE R) (x0 x1 x2 x3 x4) : exec cl N c11_32 [(0, .v U26 x0), (1, .v .str x1), (2, .v .str x2), (3, .v U21 x3), (4, .v U21 x4)] K = (g11_32 N S14 S35 S36 S37 S38 S39 x0 x1 x2 x3 x4 (fun y0 y1 => K .ret [(1, .dead), (2, .dead), (3, .dead), (4, .dead), (5, .dead), (10, .own true 39 U16 .no y0), (11, .v U2 y1)]) (fun y0 y1 => K .ret [(10, .ref 14 []), (11, .v U2 y0), (14, .own true 39 U16 .no y1)])) := by
  simp only [c11_32, exec_seq, seqK_normal, seqK_exit, seqK_ret, t11_0, t11_1 S35 h35, t11_2, c11_4, exec_out, exec_cond', hb11_0, Option.bind_some, brB_true, brB_false, t11_3, exec_ret, exec_skip, kp11_0, kp11_1, t11_5 S36 h36, t11_6, c11_8, hb11_1, t11_7, kp11_2, t11_9, t11_10 S37 h37, c11_30, exec_block, t11_29 S14 S38 S39 h14 h38 h39, blockK_normal, blockK_ret, blockK_eq, kp11_12, t11_31]
  rfl
theorem rk11_0 (y0 : V10) (y1 : Int) : retK d11 .ret [(1, .dead), (2, .dead), (3, .dead), (4, .dead), (5, .dead), (10, .own true 39 U16 .no y0), (11, .v U2 y1)] = some [.own true 39 U16 .no y0, .v U2 y1] := by kernel_rfl
theorem rk11_1 (y0 : Int) (y1 : V10) : retK d11 .ret [(10, .ref 14 []), (11, .v U2 y0), (14, .own true 39 U16 .no y1)] = some [.own true 39 U16 .no y1, .v U2 y0] := by kernel_rfl
def g11 {R : Type} (N : Nat) (S14 : V18 → Option (Int)) (S35 : V24 → Option (Int)) (S36 : V18 → V18 → Option (Int)) (S37 : V18 → V18 → Option V3) (S38 : V24 → Int → V1 → Option V4) (S39 : Int → Int → Option (Int)) (x0 : V24) (x1 : V1) (x2 : V1) (x3 : V18) (x4 : V18) (k : V10 → Int → Option R) : Option R :=
(g11_32 N S14 S35 S36 S37 S38 S39 x0 x1 x2 x3 x4 (fun y0 y1 => k y0 y1) (fun y0 y1 => k y1 y0))
theorem gen11 {N : Nat} {cl : Cal} (S14 : V18 → Option (Int)) (S35 : V24 → Option (Int)) (S36 : V18 → V18 → Option (Int)) (S37 : V18 → V18 → Option V3) (S38 : V24 → Int → V1 → Option V4) (S39 : Int → Int → Option (Int)) (h14 : (ctr14 S14).holds cl) (h35 : (ctr35 S35).holds cl) (h36 : (ctr36 S36).holds cl) (h37 : (ctr37 S37).holds cl) (h38 : (ctr38 S38).holds cl) (h39 : (ctr39 S39).holds cl) (x0 : V24) (x1 : V1) (x2 : V1) (x3 : V18) (x4 : V18) {R : Type} (k : List E → Option R) : exec cl N c11 (params 0 [.v U26 x0, .v .str x1, .v .str x2, .v U21 x3, .v U21 x4]) (fun e env => (retK d11 e env).bind k) = g11 N S14 S35 S36 S37 S38 S39 x0 x1 x2 x3 x4 (fun (r0 : V10) (r1 : Int) => k [.own true 39 U16 .no r0, .v U2 r1]) := by
  have e0 : params 0 [.v U26 x0, .v .str x1, .v .str x2, .v U21 x3, .v U21 x4] = [(0, .v U26 x0), (1, .v .str x1), (2, .v .str x2), (3, .v U21 x3), (4, .v U21 x4)] := by kernel_rfl
  simp only [c11, e0, t11_32 S14 S35 S36 S37 S38 S39 h14 h35 h36 h37 h38 h39, rk11_0, rk11_1, Option.bind_some]
  rfl
def ctr11 (S : V24 → V1 → V1 → V18 → V18 → Option V14) : Ctr := { A := V24 × V1 × V1 × V18 × V18 × Unit, B := V10 × Int, f := 11, enc := fun a => [.v U26 a.1, .v .str a.2.1, .v .str a.2.2.1, .v U21 a.2.2.2.1, .v U21 a.2.2.2.2.1], dec := (decC (decV U26) (decC (decV .str) (decC (decV .str) (decC (decV U21) (decC (decV U21) dec0))))), S := fun a => S a.1 a.2.1 a.2.2.1 a.2.2.2.1 a.2.2.2.2.1, ent := fun b => [.own true 39 U16 .no b.1, .v U2 b.2], ok := (decV_cons (T := U26) (decV_cons (T := .str) (decV_cons (T := .str) (decV_cons (T := U21) (decV_cons (T := U21) (fun es b h => dec0_some h)))))) }
def S11 (N : Nat) (x0 : V24) (x1 : V1) (x2 : V1) (x3 : V18) (x4 : V18) : Option V14 := g11 N (S14 N) (S35 N) (S36 N) (S37 N) (S38 N) (S39 N) x0 x1 x2 x3 x4 (fun (r0 : V10) (r1 : Int) => some (r0, r1))
def g76_0 {R : Type} (x0 : Int) (k0 : Int → Option R) : Option R :=
k0 x0
theorem t76_0 {N cl} {R} (K : KE R) (x0) : exec cl N c76_0 [(0, .v U1 x0)] K = (g76_0 x0 (fun y0 => K .normal [(0, .v U1 y0)])) := by
  kernel_rfl
def g76_1 {R : Type} (x0 : Int) (k0 : Bool → Option R) : Option R :=
brB (decide (x0 ≥ (97 : Int))) (k0 (decide (x0 ≤ (122 : Int)))) (k0 false)
theorem t76_1 {N cl} {R} (K : KE R) (x0) : exec cl N c76_1 [(0, .v U1 x0)] K = (g76_1 x0 (fun y0 => K .normal [(2, .v .bool y0)])) := by
  kernel_rfl
def g76_2 {R : Type} (x0 : Int) (k0 : Bool → Option R) : Option R :=
(g76_0 x0 (fun y0 => (g76_1 y0 (fun y0 => (k0 y0)))))
theorem t76_2 {N cl} {R} (K : KE R) (x0) : exec cl N c76_2 [(0, .v U1 x0)] K = (g76_2 x0 (fun y0 => K .ret [(2, .v .bool y0)])) := by
  simp only [c76_2, exec_seq, seqK_normal, seqK_exit, seqK_ret, t76_0, t76_1, exec_ret]
  rfl
theorem rk76_0 (y0 : Bool) : retK d76 .ret [(2, .v .bool y0)] = some [.v .bool y0] := by kernel_rfl
def g76 {R : Type} (x0 : Int) (k : Bool → Option R) : Option R :=
(g76_2 x0 (fun y0 => k y0))
theorem gen76 {N : Nat} {cl : Cal} (x0 : Int) {R : Type} (k : List E → Option R) : exec cl N c76 (params 0 [.v U1 x0]) (fun e env => (retK d76 e env).bind k) = g76 x0 (fun (r0 : Bool) => k [.v .bool r0]) := by
  have e0 : params 0 [.v U1 x0] = [(0, .v U1 x0)] := by kernel_rfl
  simp only [c76, e0, t76_2, rk76_0, Option.bind_some]
  rfl
def ctr76 (S : Int → Option (Bool)) : Ctr := { A := Int × Unit, B := Bool, f := 76, enc := fun a => [.v U1 a.1], dec := (decC (decV U1) dec0), S := fun a => S a.1, ent := fun b => [.v .bool b], ok := (decV_cons (T := U1) (fun es b h => dec0_some h)) }
def S76 (N : Nat) (x0 : Int) : Option (Bool) := g76 x0 (fun (r0 : Bool) => some (r0))
def g77_0 {R : Type} (x0 : Int) (k0 : Int → Option R) : Option R :=
k0 x0
theorem t77_0 {N cl} {R} (K : KE R) (x0) : exec cl N c77_0 [(0, .v U1 x0)] K = (g77_0 x0 (fun y0 => K .normal [(0, .v U1 y0)])) := by
  kernel_rfl
def g77_1 {R : Type} (x0 : Int) (k0 : Bool → Option R) : Option R :=
brB (decide (x0 ≥ (48 : Int))) (k0 (decide (x0 ≤ (57 : Int)))) (k0 false)
theorem t77_1 {N cl} {R} (K : KE R) (x0) : exec cl N c77_1 [(0, .v U1 x0)] K = (g77_1 x0 (fun y0 => K .normal [(2, .v .bool y0)])) := by
  kernel_rfl
def g77_2 {R : Type} (x0 : Int) (k0 : Bool → Option R) : Option R :=
(g77_0 x0 (fun y0 => (g77_1 y0 (fun y0 => (k0 y0)))))
theorem t77_2 {N cl} {R} (K : KE R) (x0) : exec cl N c77_2 [(0, .v U1 x0)] K = (g77_2 x0 (fun y0 => K .ret [(2, .v .bool y0)])) := by
  simp only [c77_2, exec_seq, seqK_normal, seqK_exit, seqK_ret, t77_0, t77_1, exec_ret]
  rfl
theorem rk77_0 (y0 : Bool) : retK d77 .ret [(2, .v .bool y0)] = some [.v .bool y0] := by kernel_rfl
def g77 {R : Type} (x0 : Int) (k : Bool → Option R) : Option R :=
(g77_2 x0 (fun y0 => k y0))
theorem gen77 {N : Nat} {cl : Cal} (x0 : Int) {R : Type} (k : List E → Option R) : exec cl N c77 (params 0 [.v U1 x0]) (fun e env => (retK d77 e env).bind k) = g77 x0 (fun (r0 : Bool) => k [.v .bool r0]) := by
  have e0 : params 0 [.v U1 x0] = [(0, .v U1 x0)] := by kernel_rfl
  simp only [c77, e0, t77_2, rk77_0, Option.bind_some]
  rfl
def ctr77 (S : Int → Option (Bool)) : Ctr := { A := Int × Unit, B := Bool, f := 77, enc := fun a => [.v U1 a.1], dec := (decC (decV U1) dec0), S := fun a => S a.1, ent := fun b => [.v .bool b], ok := (decV_cons (T := U1) (fun es b h => dec0_some h)) }
def S77 (N : Nat) (x0 : Int) : Option (Bool) := g77 x0 (fun (r0 : Bool) => some (r0))
def g58_0 {R : Type} (x0 : V1) (k0 : V1 → Option R) : Option R :=
k0 x0
theorem t58_0 {N cl} {R} (K : KE R) (x0) : exec cl N c58_0 [(0, .v .str x0)] K = (g58_0 x0 (fun y0 => K .normal [(0, .v .str y0)])) := by
  kernel_rfl
def g58_1 {R : Type} (S76 : Int → Option (Bool)) (x0 : V1) (k0 : V1 → Bool → Option R) : Option R :=
brB (x0 == ([] : List UInt8)) (k0 x0 true) (if 0 ≤ (0 : Int) ∧ (0 : Int) < (x0.length : Int) then
(S76 ((x0.getD (0 : Int).toNat 0).toNat : Int)).bind fun r496 =>
k0 x0 (!r496)
else none)
theorem t58_1 {N cl} (S76) (h76 : (ctr76 S76).holds cl) {R} (K : KE R) (x0) : exec cl N c58_1 [(0, .v .str x0)] K = (g58_1 S76 x0 (fun y0 y1 => K .normal [(0, .v .str y0), (11, .v .bool y1)])) := by
  rw [← put_eq h76]
  kernel_rfl
def g58_2 {R : Type} (x0 : V1) (x1 : Bool) (k0 : Int → Option R) : Option R :=
k0 (0 : Int)
theorem t58_2 {N cl} {R} (K : KE R) (x0 x1) : exec cl N c58_2 [(0, .v .str x0), (11, .v .bool x1)] K = (g58_2 x0 x1 (fun y0 => K .normal [(2, .v U2 y0)])) := by
  kernel_rfl
theorem kp58_0 (x0) : keep [0, 2] [(2, .v U2 x0)] = [(0, .dead), (2, .v U2 x0)] := by kernel_rfl
theorem kp58_1 (x0 x1) : keep [0, 2] [(0, .v .str x0), (11, .v .bool x1)] = [(0, .v .str x0), (2, .dead)] := by kernel_rfl
theorem hb58_0 (x0 : V1) (x1 : Bool) : boolOf? (ent [(0, .v .str x0), (11, .v .bool x1)] (.t 11)) = some x1 := by kernel_rfl
def g58_4 {R : Type} (x0 : V1) (k0 : V1 → Int → Option R) : Option R :=
k0 x0 (1 : Int)
theorem t58_4 {N cl} {R} (K : KE R) (x0) : exec cl N c58_4 [(0, .v .str x0), (2, .dead)] K = (g58_4 x0 (fun y0 y1 => K .normal [(0, .v .str y0), (3, .v U2 y1)])) := by
  kernel_rfl
theorem kp58_2 (x0 x1) : keep [0, 3] [(0, .v .str x0), (3, .v U2 x1)] = [(0, .v .str x0), (3, .v U2 x1)] := by kernel_rfl
def g58_5 {R : Type} (x0 : V1) (x1 : Int) (k0 : V1 → Int → Bool → Option R) : Option R :=
k0 x0 x1 (decide (x1 < (x0.length : Int)))
theorem t58_5 {N cl} {R} (K : KE R) (x0 x1) : exec cl N c58_5 [(0, .v .str x0), (3, .v U2 x1)] K = (g58_5 x0 x1 (fun y0 y1 y2 => K .normal [(0, .v .str y0), (3, .v U2 y1), (15, .v .bool y2)])) := by
  kernel_rfl
theorem kp58_3 (x0 x1 x2) : keep [0, 3] [(0, .v .str x0), (3, .v U2 x1), (15, .v .bool x2)] = [(0, .v .str x0), (3, .v U2 x1)] := by kernel_rfl
theorem hb58_1 (x0 : V1) (x1 : Int) (x2 : Bool) : boolOf? (ent [(0, .v .str x0), (3, .v U2 x1), (15, .v .bool x2)] (.t 15)) = some x2 := by kernel_rfl
def g58_7 {R : Type} (S76 : Int → Option (Bool)) (S77 : Int → Option (Bool)) (x0 : V1) (x1 : Int) (k0 : V1 → Int → Bool → Option R) : Option R :=
if 0 ≤ x1 ∧ x1 < (x0.length : Int) then
(S76 ((x0.getD x1.toNat 0).toNat : Int)).bind fun r499 =>
brB r499 (k0 x0 x1 true) (if 0 ≤ x1 ∧ x1 < (x0.length : Int) then
(S77 ((x0.getD x1.toNat 0).toNat : Int)).bind fun r501 =>
k0 x0 x1 r501
else none)
else none
theorem t58_7 {N cl} (S76) (S77) (h76 : (ctr76 S76).holds cl) (h77 : (ctr77 S77).holds cl) {R} (K : KE R) (x0 x1) : exec cl N c58_7 [(0, .v .str x0), (3, .v U2 x1)] K = (g58_7 S76 S77 x0 x1 (fun y0 y1 y2 => K .normal [(0, .v .str y0), (3, .v U2 y1), (25, .v .bool y2)])) := by
  rw [← put_eq h76]
  rw [← put_eq h77]
  kernel_rfl
def g58_8 {R : Type} (x0 : V1) (x1 : Int) (x2 : Bool) (k0 : V1 → Int → Option R) : Option R :=
k0 x0 (IntKind.i64.wrap (x1 + (1 : Int)))
theorem t58_8 {N cl} {R} (K : KE R) (x0 x1 x2) : exec cl N c58_8 [(0, .v .str x0), (3, .v U2 x1), (25, .v .bool x2)] K = (g58_8 x0 x1 x2 (fun y0 y1 => K .normal [(0, .v .str y0), (3, .v U2 y1)])) := by
  kernel_rfl
theorem kp58_4 (x0 x1 x2) : keep [0, 3] [(0, .v .str x0), (3, .v U2 x1), (25, .v .bool x2)] = [(0, .v .str x0), (3, .v U2 x1)] := by kernel_rfl
theorem hb58_2 (x0 : V1) (x1 : Int) (x2 : Bool) : boolOf? (ent [(0, .v .str x0), (3, .v U2 x1), (25, .v .bool x2)] (.t 25)) = some x2 := by kernel_rfl
def g58_10 {R : Type} (S76 : Int → Option (Bool)) (S77 : Int → Option (Bool)) (x0 : V1) (x1 : Int) (k0 : V1 → Int → Bool → Option R) : Option R :=
if 0 ≤ x1 ∧ x1 < (x0.length : Int) then
brB (((x0.getD x1.toNat 0).toNat : Int) != (45 : Int)) (k0 x0 x1 true) (brB ((IntKind.i64.wrap (x1 + (1 : Int))) == (x0.length : Int)) (k0 x0 x1 true) (let v507 : Int := (IntKind.i64.wrap (x1 + (1 : Int)))
if 0 ≤ v507 ∧ v507 < (x0.length : Int) then
(S76 ((x0.getD v507.toNat 0).toNat : Int)).bind fun r509 =>
brB (!r509) (let v510 : Int := (IntKind.i64.wrap (x1 + (1 : Int)))
if 0 ≤ v510 ∧ v510 < (x0.length : Int) then
(S77 ((x0.getD v510.toNat 0).toNat : Int)).bind fun r512 =>
k0 x0 x1 (!r512)
else none) (k0 x0 x1 false)
else none))
else none
theorem t58_10 {N cl} (S76) (S77) (h76 : (ctr76 S76).holds cl) (h77 : (ctr77 S77).holds cl) {R} (K : KE R) (x0 x1) : exec cl N c58_10 [(0, .v .str x0), (3, .v U2 x1)] K = (g58_10 S76 S77 x0 x1 (fun y0 y1 y2 => K .normal [(0, .v .str y0), (3, .v U2 y1), (54, .v .bool y2)])) := by
  rw [← put_eq h76]
  rw [← put_eq h77]
  kernel_rfl
theorem kp58_5 (x0 x1 x2) : keep [0, 3] [(0, .v .str x0), (3, .v U2 x1), (54, .v .bool x2)] = [(0, .v .str x0), (3, .v U2 x1)] := by kernel_rfl
theorem hb58_3 (x0 : V1) (x1 : Int) (x2 : Bool) : boolOf? (ent [(0, .v .str x0), (3, .v U2 x1), (54, .v .bool x2)] (.t 54)) = some x2 := by kernel_rfl
def g58_12 {R : Type} (x0 : V1) (x1 : Int) (k0 : V1 → Int → Option R) : Option R :=
k0 x0 (IntKind.i64.wrap (x1 + (2 : Int)))
theorem t58_12 {N cl} {R} (K : KE R) (x0 x1) : exec cl N c58_12 [(0, .v .str x0), (3, .v U2 x1)] K = (g58_12 x0 x1 (fun y0 y1 => K .normal [(0, .v .str y0), (3, .v U2 y1)])) := by
  kernel_rfl
def g58_14 {R : Type} (S76 : Int → Option (Bool)) (S77 : Int → Option (Bool)) (x0 : V1) (x1 : Int) (k0 : V1 → Int → Option R) (k1 : V1 → Int → Option R) : Option R :=
(g58_5 x0 x1 (fun y0 y1 y2 => brB y2 ((fun y0 y1 => (g58_7 S76 S77 y0 y1 (fun y0 y1 y2 => brB y2 (g58_8 y0 y1 y2 (fun y0 y1 => ((fun y0 y1 => (k0 y0 y1)) y0 y1))) ((fun y0 y1 => (g58_10 S76 S77 y0 y1 (fun y0 y1 y2 => brB y2 (k1 y0 y1) ((fun y0 y1 => (g58_12 y0 y1 (fun y0 y1 => (k0 y0 y1)))) y0 y1)))) y0 y1)))) y0 y1) (k1 y0 y1)))
theorem t58_14 {N cl} (S76) (S77) (h76 : (ctr76 S76).holds cl) (h77 : (ctr77 S77).holds cl) {R} (K : KE R) (x0 x1) : exec cl N c58_14 [(0, .v .str x0), (3, .v U2 x1)] K = (g58_14 S76 S77 x0 x1 (fun y0 y1 => K .normal [(0, .v .str y0), (3, .v U2 y1)]) (fun y0 y1 => K (.exit 0) [(0, .v .str y0), (3, .v U2 y1)])) := by
  simp only [c58_14, exec_seq, seqK_normal, seqK_exit, seqK_ret, t58_5, c58_6, exec_out, exec_cond', hb58_1, Option.bind_some, brB_true, brB_false, exec_skip, exec_exit, kp58_3, c58_13, exec_block, t58_7 S76 S77 h76 h77, c58_9, hb58_2, t58_8, kp58_2, kp58_4, t58_10 S76 S77 h76 h77, c58_11, hb58_3, kp58_5, t58_12, blockK_normal, blockK_ret, blockK_eq, blockK_ne 1 0 rfl]
  rfl
def l58_15 {R : Type} (S76 : Int → Option (Bool)) (S77 : Int → Option (Bool)) (k0 : V1 → Int → Option R) : Nat → V1 → Int → Option R
  | 0, _, _ => none
  | m + 1, x0, x1 => (g58_14 S76 S77 x0 x1 (fun y0 y1 => l58_15 S76 S77 k0 m y0 y1) k0)
theorem lt58_15 {N cl} (S76) (S77) (h76 : (ctr76 S76).holds cl) (h77 : (ctr77 S77).holds cl) {R} (K : KE R) : ∀ (m) (x0 x1), iter [0, 3] (fun env K => exec cl N c58_14 env K) K m [(0, .v .str x0), (3, .v U2 x1)] = l58_15 S76 S77 (fun y0 y1 => K (.exit 0) [(0, .v .str y0), (3, .v U2 y1)]) m x0 x1 := by
  intro m
  induction m with
  | zero => intros; rfl
  | succ m ih =>
    intro x0 x1
    simp only [iter_succ, t58_14 S76 S77 h76 h77, loopK_normal, loopK_exit, loopK_ret, kp58_2, ih]
    rfl
theorem kp58_6 (x0 x1) : keep [3] [(0, .v .str x0), (3, .v U2 x1)] = [(3, .v U2 x1)] := by kernel_rfl
def g58_15 {R : Type} (N : Nat) (S76 : Int → Option (Bool)) (S77 : Int → Option (Bool)) (x0 : V1) (x1 : Int) (k0 : Int → Option R) : Option R :=
l58_15 S76 S77 (fun y0 y1 => k0 y1) N x0 x1
theorem t58_15 {N cl} (S76) (S77) (h76 : (ctr76 S76).holds cl) (h77 : (ctr77 S77).holds cl) {R} (K : KE R) (x0 x1) : exec cl N c58_15 [(0, .v .str x0), (3, .v U2 x1)] K = (g58_15 N S76 S77 x0 x1 (fun y0 => K (.exit 0) [(3, .v U2 y0)])) := by
  simp only [c58_15, exec_out, exec_loop, kp58_2, lt58_15 S76 S77 h76 h77, kp58_6]
  rfl
theorem kp58_7 (x0) : keep [3] [(3, .v U2 x0)] = [(3, .v U2 x0)] := by kernel_rfl
def g58_17 {R : Type} (x0 : Int) (k0 : Int → Option R) : Option R :=
k0 x0
theorem t58_17 {N cl} {R} (K : KE R) (x0) : exec cl N c58_17 [(3, .v U2 x0)] K = (g58_17 x0 (fun y0 => K .normal [(2, .v U2 y0)])) := by
  kernel_rfl
def g58_18 {R : Type} (N : Nat) (S76 : Int → Option (Bool)) (S77 : Int → Option (Bool)) (x0 : V1) (k0 : Int → Option R) (k1 : Int → Option R) : Option R :=
(g58_0 x0 (fun y0 => (g58_1 S76 y0 (fun y0 y1 => brB y1 (g58_2 y0 y1 (fun y0 => ((fun y0 => (k0 y0)) y0))) ((fun y0 => (g58_4 y0 (fun y0 y1 => (g58_15 N S76 S77 y0 y1 (fun y0 => ((fun y0 => (g58_17 y0 (fun y0 => (k1 y0)))) y0)))))) y0)))))
theorem t58_18 {N cl} (S76) (S77) (h76 : (ctr76 S76).holds cl) (h77 : (ctr77 S77).holds cl) {R} (K : KE R) (x0) : exec cl N c58_18 [(0, .v .str x0)] K = (g58_18 N S76 S77 x0 (fun y0 => K .ret [(0, .dead), (2, .v U2 y0)]) (fun y0 => K .ret [(2, .v U2 y0)])) := by
  simp only [c58_18, exec_seq, seqK_normal, seqK_exit, seqK_ret, t58_0, t58_1 S76 h76, c58_3, exec_out, exec_cond', hb58_0, Option.bind_some, brB_true, brB_false, t58_2, exec_ret, exec_skip, kp58_0, kp58_1, t58_4, c58_16, exec_block, t58_15 S76 S77 h76 h77, blockK_normal, blockK_ret, blockK_eq, kp58_7, t58_17]
  rfl
theorem rk58_0 (y0 : Int) : retK d58 .ret [(0, .dead), (2, .v U2 y0)] = some [.v U2 y0] := by kernel_rfl
theorem rk58_1 (y0 : Int) : retK d58 .ret [(2, .v U2 y0)] = some [.v U2 y0] := by kernel_rfl
def g58 {R : Type} (N : Nat) (S76 : Int → Option (Bool)) (S77 : Int → Option (Bool)) (x0 : V1) (k : Int → Option R) : Option R :=
(g58_18 N S76 S77 x0 (fun y0 => k y0) (fun y0 => k y0))
theorem gen58 {N : Nat} {cl : Cal} (S76 : Int → Option (Bool)) (S77 : Int → Option (Bool)) (h76 : (ctr76 S76).holds cl) (h77 : (ctr77 S77).holds cl) (x0 : V1) {R : Type} (k : List E → Option R) : exec cl N c58 (params 0 [.v .str x0]) (fun e env => (retK d58 e env).bind k) = g58 N S76 S77 x0 (fun (r0 : Int) => k [.v U2 r0]) := by
  have e0 : params 0 [.v .str x0] = [(0, .v .str x0)] := by kernel_rfl
  simp only [c58, e0, t58_18 S76 S77 h76 h77, rk58_0, rk58_1, Option.bind_some]
  rfl
def ctr58 (S : V1 → Option (Int)) : Ctr := { A := V1 × Unit, B := Int, f := 58, enc := fun a => [.v .str a.1], dec := (decC (decV .str) dec0), S := fun a => S a.1, ent := fun b => [.v U2 b], ok := (decV_cons (T := .str) (fun es b h => dec0_some h)) }
def S58 (N : Nat) (x0 : V1) : Option (Int) := g58 N (S76 N) (S77 N) x0 (fun (r0 : Int) => some (r0))
def g40_0 {R : Type} (x0 : V1) (k0 : V1 → Option R) : Option R :=
k0 x0
theorem t40_0 {N cl} {R} (K : KE R) (x0) : exec cl N c40_0 [(0, .v .str x0)] K = (g40_0 x0 (fun y0 => K .normal [(0, .v .str y0)])) := by
  kernel_rfl
def g40_1 {R : Type} (S58 : V1 → Option (Int)) (x0 : V1) (k0 : Bool → Option R) : Option R :=
brB (x0 != ([] : List UInt8)) (brB (decide ((x0.length : Int) ≤ (20 : Int))) ((S58 x0).bind fun r518 =>
k0 (r518 == (x0.length : Int))) (k0 false)) (k0 false)
theorem t40_1 {N cl} (S58) (h58 : (ctr58 S58).holds cl) {R} (K : KE R) (x0) : exec cl N c40_1 [(0, .v .str x0)] K = (g40_1 S58 x0 (fun y0 => K .normal [(2, .v .bool y0)])) := by
  rw [← put_eq h58]
  kernel_rfl
def g40_2 {R : Type} (S58 : V1 → Option (Int)) (x0 : V1) (k0 : Bool → Option R) : Option R :=
(g40_0 x0 (fun y0 => (g40_1 S58 y0 (fun y0 => (k0 y0)))))
theorem t40_2 {N cl} (S58) (h58 : (ctr58 S58).holds cl) {R} (K : KE R) (x0) : exec cl N c40_2 [(0, .v .str x0)] K = (g40_2 S58 x0 (fun y0 => K .ret [(2, .v .bool y0)])) := by
  simp only [c40_2, exec_seq, seqK_normal, seqK_exit, seqK_ret, t40_0, t40_1 S58 h58, exec_ret]
  rfl
theorem rk40_0 (y0 : Bool) : retK d40 .ret [(2, .v .bool y0)] = some [.v .bool y0] := by kernel_rfl
def g40 {R : Type} (S58 : V1 → Option (Int)) (x0 : V1) (k : Bool → Option R) : Option R :=
(g40_2 S58 x0 (fun y0 => k y0))
theorem gen40 {N : Nat} {cl : Cal} (S58 : V1 → Option (Int)) (h58 : (ctr58 S58).holds cl) (x0 : V1) {R : Type} (k : List E → Option R) : exec cl N c40 (params 0 [.v .str x0]) (fun e env => (retK d40 e env).bind k) = g40 S58 x0 (fun (r0 : Bool) => k [.v .bool r0]) := by
  have e0 : params 0 [.v .str x0] = [(0, .v .str x0)] := by kernel_rfl
  simp only [c40, e0, t40_2 S58 h58, rk40_0, Option.bind_some]
  rfl
def ctr40 (S : V1 → Option (Bool)) : Ctr := { A := V1 × Unit, B := Bool, f := 40, enc := fun a => [.v .str a.1], dec := (decC (decV .str) dec0), S := fun a => S a.1, ent := fun b => [.v .bool b], ok := (decV_cons (T := .str) (fun es b h => dec0_some h)) }
def S40 (N : Nat) (x0 : V1) : Option (Bool) := g40 (S58 N) x0 (fun (r0 : Bool) => some (r0))
def g78_0 {R : Type} (x0 : V1) (k0 : V1 → Option R) : Option R :=
k0 x0
theorem t78_0 {N cl} {R} (K : KE R) (x0) : exec cl N c78_0 [(0, .v .str x0)] K = (g78_0 x0 (fun y0 => K .normal [(0, .v .str y0)])) := by
  kernel_rfl
def g78_1 {R : Type} (x0 : V1) (k0 : V1 → V0 → Option R) : Option R :=
if 0 ≤ (x0.length : Int) ∧ (x0.length : Int) ≤ (x0.length : Int) ∧ (x0.length : Int) ≤ ((140737488355328 : Nat) : Int) then
k0 x0 (List.replicate (x0.length : Int).toNat (0 : Int))
else none
theorem t78_1 {N cl} {R} (K : KE R) (x0) : exec cl N c78_1 [(0, .v .str x0)] K = (g78_1 x0 (fun y0 y1 => K .normal [(0, .v .str y0), (3, .own true 5 U1 .no y1)])) := by
  kernel_rfl
def g78_2 {R : Type} (x0 : V1) (x1 : V0) (k0 : V1 → V0 → Int → Option R) : Option R :=
k0 x0 x1 (0 : Int)
theorem t78_2 {N cl} {R} (K : KE R) (x0 x1) : exec cl N c78_2 [(0, .v .str x0), (3, .own true 5 U1 .no x1)] K = (g78_2 x0 x1 (fun y0 y1 y2 => K .normal [(0, .v .str y0), (3, .own true 5 U1 .no y1), (4, .v U2 y2)])) := by
  kernel_rfl
theorem kp78_0 (x0 x1 x2) : keep [0, 3, 4] [(0, .v .str x0), (3, .own true 5 U1 .no x1), (4, .v U2 x2)] = [(0, .v .str x0), (3, .own true 5 U1 .no x1), (4, .v U2 x2)] := by kernel_rfl
def g78_3 {R : Type} (x0 : V1) (x1 : V0) (x2 : Int) (k0 : V1 → V0 → Int → Bool → Option R) : Option R :=
k0 x0 x1 x2 (decide (x2 < (x0.length : Int)))
theorem t78_3 {N cl} {R} (K : KE R) (x0 x1 x2) : exec cl N c78_3 [(0, .v .str x0), (3, .own true 5 U1 .no x1), (4, .v U2 x2)] K = (g78_3 x0 x1 x2 (fun y0 y1 y2 y3 => K .normal [(0, .v .str y0), (3, .own true 5 U1 .no y1), (4, .v U2 y2), (11, .v .bool y3)])) := by
  kernel_rfl
theorem kp78_1 (x0 x1 x2 x3) : keep [0, 3, 4] [(0, .v .str x0), (3, .own true 5 U1 .no x1), (4, .v U2 x2), (11, .v .bool x3)] = [(0, .v .str x0), (3, .own true 5 U1 .no x1), (4, .v U2 x2)] := by kernel_rfl
theorem hb78_0 (x0 : V1) (x1 : V0) (x2 : Int) (x3 : Bool) : boolOf? (ent [(0, .v .str x0), (3, .own true 5 U1 .no x1), (4, .v U2 x2), (11, .v .bool x3)] (.t 11)) = some x3 := by kernel_rfl
def g78_5 {R : Type} (x0 : V1) (x1 : V0) (x2 : Int) (k0 : V1 → V0 → Int → Option R) : Option R :=
if 0 ≤ x2 ∧ x2 < (x0.length : Int) then
if 0 ≤ x2 ∧ x2 < (x1.length : Int) then
if x2.toNat < x1.length then
k0 x0 (x1.set x2.toNat ((x0.getD x2.toNat 0).toNat : Int)) x2
else none
else none
else none
theorem t78_5 {N cl} {R} (K : KE R) (x0 x1 x2) : exec cl N c78_5 [(0, .v .str x0), (3, .own true 5 U1 .no x1), (4, .v U2 x2)] K = (g78_5 x0 x1 x2 (fun y0 y1 y2 => K .normal [(0, .v .str y0), (3, .own true 5 U1 .no y1), (4, .v U2 y2)])) := by
  kernel_rfl
def g78_6 {R : Type} (x0 : V1) (x1 : V0) (x2 : Int) (k0 : V1 → V0 → Int → Bool → Option R) : Option R :=
if 0 ≤ x2 ∧ x2 < (x0.length : Int) then
brB (decide (((x0.getD x2.toNat 0).toNat : Int) ≥ (65 : Int))) (if 0 ≤ x2 ∧ x2 < (x0.length : Int) then
k0 x0 x1 x2 (decide (((x0.getD x2.toNat 0).toNat : Int) ≤ (90 : Int)))
else none) (k0 x0 x1 x2 false)
else none
theorem t78_6 {N cl} {R} (K : KE R) (x0 x1 x2) : exec cl N c78_6 [(0, .v .str x0), (3, .own true 5 U1 .no x1), (4, .v U2 x2)] K = (g78_6 x0 x1 x2 (fun y0 y1 y2 y3 => K .normal [(0, .v .str y0), (3, .own true 5 U1 .no y1), (4, .v U2 y2), (29, .v .bool y3)])) := by
  kernel_rfl
def g78_7 {R : Type} (x0 : V1) (x1 : V0) (x2 : Int) (x3 : Bool) (k0 : V1 → V0 → Int → Option R) : Option R :=
if 0 ≤ x2 ∧ x2 < (x0.length : Int) then
if 0 ≤ x2 ∧ x2 < (x1.length : Int) then
if x2.toNat < x1.length then
k0 x0 (x1.set x2.toNat (IntKind.u8.wrap ((IntKind.u8.wrap (((x0.getD x2.toNat 0).toNat : Int) - (65 : Int))) + (97 : Int)))) x2
else none
else none
else none
theorem t78_7 {N cl} {R} (K : KE R) (x0 x1 x2 x3) : exec cl N c78_7 [(0, .v .str x0), (3, .own true 5 U1 .no x1), (4, .v U2 x2), (29, .v .bool x3)] K = (g78_7 x0 x1 x2 x3 (fun y0 y1 y2 => K .normal [(0, .v .str y0), (3, .own true 5 U1 .no y1), (4, .v U2 y2)])) := by
  kernel_rfl
theorem kp78_2 (x0 x1 x2 x3) : keep [0, 3, 4] [(0, .v .str x0), (3, .own true 5 U1 .no x1), (4, .v U2 x2), (29, .v .bool x3)] = [(0, .v .str x0), (3, .own true 5 U1 .no x1), (4, .v U2 x2)] := by kernel_rfl
theorem hb78_1 (x0 : V1) (x1 : V0) (x2 : Int) (x3 : Bool) : boolOf? (ent [(0, .v .str x0), (3, .own true 5 U1 .no x1), (4, .v U2 x2), (29, .v .bool x3)] (.t 29)) = some x3 := by kernel_rfl
def g78_9 {R : Type} (x0 : V1) (x1 : V0) (x2 : Int) (k0 : V1 → V0 → Int → Option R) : Option R :=
(g78_5 x0 x1 x2 (fun y0 y1 y2 => (g78_6 y0 y1 y2 (fun y0 y1 y2 y3 => brB y3 (g78_7 y0 y1 y2 y3 (fun y0 y1 y2 => (k0 y0 y1 y2))) (k0 y0 y1 y2)))))
theorem t78_9 {N cl} {R} (K : KE R) (x0 x1 x2) : exec cl N c78_9 [(0, .v .str x0), (3, .own true 5 U1 .no x1), (4, .v U2 x2)] K = (g78_9 x0 x1 x2 (fun y0 y1 y2 => K .normal [(0, .v .str y0), (3, .own true 5 U1 .no y1), (4, .v U2 y2)])) := by
  simp only [c78_9, exec_out, exec_block, exec_seq, seqK_normal, seqK_exit, seqK_ret, t78_5, t78_6, c78_8, exec_cond', hb78_1, Option.bind_some, brB_true, brB_false, t78_7, exec_skip, kp78_0, kp78_2, blockK_normal, blockK_ret, blockK_eq]
  rfl
def g78_10 {R : Type} (x0 : V1) (x1 : V0) (x2 : Int) (k0 : V1 → V0 → Int → Option R) : Option R :=
k0 x0 x1 (IntKind.i64.wrap (x2 + (1 : Int)))
theorem t78_10 {N cl} {R} (K : KE R) (x0 x1 x2) : exec cl N c78_10 [(0, .v .str x0), (3, .own true 5 U1 .no x1), (4, .v U2 x2)] K = (g78_10 x0 x1 x2 (fun y0 y1 y2 => K .normal [(0, .v .str y0), (3, .own true 5 U1 .no y1), (4, .v U2 y2)])) := by
  kernel_rfl
def g78_11 {R : Type} (x0 : V1) (x1 : V0) (x2 : Int) (k0 : V1 → V0 → Int → Option R) (k1 : V1 → V0 → Int → Option R) : Option R :=
(g78_3 x0 x1 x2 (fun y0 y1 y2 y3 => brB y3 ((fun y0 y1 y2 => (g78_9 y0 y1 y2 (fun y0 y1 y2 => (g78_10 y0 y1 y2 k0)))) y0 y1 y2) (k1 y0 y1 y2)))
theorem t78_11 {N cl} {R} (K : KE R) (x0 x1 x2) : exec cl N c78_11 [(0, .v .str x0), (3, .own true 5 U1 .no x1), (4, .v U2 x2)] K = (g78_11 x0 x1 x2 (fun y0 y1 y2 => K .normal [(0, .v .str y0), (3, .own true 5 U1 .no y1), (4, .v U2 y2)]) (fun y0 y1 y2 => K (.exit 0) [(0, .v .str y0), (3, .own true 5 U1 .no y1), (4, .v U2 y2)])) := by
  simp only [c78_11, exec_seq, seqK_normal, seqK_exit, seqK_ret, t78_3, c78_4, exec_out, exec_cond', hb78_0, Option.bind_some, brB_true, brB_false, exec_skip, exec_exit, kp78_1, t78_9, t78_10]
  rfl
def l78_12 {R : Type} (k0 : V1 → V0 → Int → Option R) : Nat → V1 → V0 → Int → Option R
  | 0, _, _, _ => none
  | m + 1, x0, x1, x2 => (g78_11 x0 x1 x2 (fun y0 y1 y2 => l78_12 k0 m y0 y1 y2) k0)
theorem lt78_12 {N cl} {R} (K : KE R) : ∀ (m) (x0 x1 x2), iter [0, 3, 4] (fun env K => exec cl N c78_11 env K) K m [(0, .v .str x0), (3, .own true 5 U1 .no x1), (4, .v U2 x2)] = l78_12 (fun y0 y1 y2 => K (.exit 0) [(0, .v .str y0), (3, .own true 5 U1 .no y1), (4, .v U2 y2)]) m x0 x1 x2 := by
  intro m
  induction m with
  | zero => intros; rfl
  | succ m ih =>
    intro x0 x1 x2
    simp only [iter_succ, t78_11, loopK_normal, loopK_exit, loopK_ret, kp78_0, ih]
    rfl
theorem kp78_3 (x0 x1 x2) : keep [3] [(0, .v .str x0), (3, .own true 5 U1 .no x1), (4, .v U2 x2)] = [(3, .own true 5 U1 .no x1)] := by kernel_rfl
def g78_12 {R : Type} (N : Nat) (x0 : V1) (x1 : V0) (x2 : Int) (k0 : V0 → Option R) : Option R :=
l78_12 (fun y0 y1 y2 => k0 y1) N x0 x1 x2
theorem t78_12 {N cl} {R} (K : KE R) (x0 x1 x2) : exec cl N c78_12 [(0, .v .str x0), (3, .own true 5 U1 .no x1), (4, .v U2 x2)] K = (g78_12 N x0 x1 x2 (fun y0 => K (.exit 0) [(3, .own true 5 U1 .no y0)])) := by
  simp only [c78_12, exec_out, exec_loop, kp78_0, lt78_12, kp78_3]
  rfl
theorem kp78_4 (x0) : keep [3] [(3, .own true 5 U1 .no x0)] = [(3, .own true 5 U1 .no x0)] := by kernel_rfl
def g78_14 {R : Type} (x0 : V0) (k0 : V1 → Option R) : Option R :=
k0 (x0.map fun n => UInt8.ofNat n.toNat)
theorem t78_14 {N cl} {R} (K : KE R) (x0) : exec cl N c78_14 [(3, .own true 5 U1 .no x0)] K = (g78_14 x0 (fun y0 => K .normal [(2, .v .str y0)])) := by
  kernel_rfl
def g78_15 {R : Type} (N : Nat) (x0 : V1) (k0 : V1 → Option R) : Option R :=
(g78_0 x0 (fun y0 => (g78_1 y0 (fun y0 y1 => (g78_2 y0 y1 (fun y0 y1 y2 => (g78_12 N y0 y1 y2 (fun y0 => ((fun y0 => (g78_14 y0 (fun y0 => (k0 y0)))) y0)))))))))
theorem t78_15 {N cl} {R} (K : KE R) (x0) : exec cl N c78_15 [(0, .v .str x0)] K = (g78_15 N x0 (fun y0 => K .ret [(2, .v .str y0)])) := by
  simp only [c78_15, exec_seq, seqK_normal, seqK_exit, seqK_ret, t78_0, t78_1, t78_2, c78_13, exec_out, exec_block, t78_12, blockK_normal, blockK_ret, blockK_eq, kp78_4, t78_14, exec_ret]
  rfl
theorem rk78_0 (y0 : V1) : retK d78 .ret [(2, .v .str y0)] = some [.v .str y0] := by kernel_rfl
def g78 {R : Type} (N : Nat) (x0 : V1) (k : V1 → Option R) : Option R :=
(g78_15 N x0 (fun y0 => k y0))
theorem gen78 {N : Nat} {cl : Cal} (x0 : V1) {R : Type} (k : List E → Option R) : exec cl N c78 (params 0 [.v .str x0]) (fun e env => (retK d78 e env).bind k) = g78 N x0 (fun (r0 : V1) => k [.v .str r0]) := by
  have e0 : params 0 [.v .str x0] = [(0, .v .str x0)] := by kernel_rfl
  simp only [c78, e0, t78_15, rk78_0, Option.bind_some]
  rfl
def ctr78 (S : V1 → Option V5) : Ctr := { A := V1 × Unit, B := V1, f := 78, enc := fun a => [.v .str a.1], dec := (decC (decV .str) dec0), S := fun a => S a.1, ent := fun b => [.v .str b], ok := (decV_cons (T := .str) (fun es b h => dec0_some h)) }
def S78 (N : Nat) (x0 : V1) : Option V5 := g78 N x0 (fun (r0 : V1) => some (r0))
def g79_0 {R : Type} (x0 : Int) (k0 : Int → Option R) : Option R :=
k0 x0
theorem t79_0 {N cl} {R} (K : KE R) (x0) : exec cl N c79_0 [(0, .v U1 x0)] K = (g79_0 x0 (fun y0 => K .normal [(0, .v U1 y0)])) := by
  kernel_rfl
def g79_1 {R : Type} (x0 : Int) (k0 : Int → Bool → Option R) : Option R :=
brB (decide (x0 < (32 : Int))) (k0 x0 true) (k0 x0 (decide (x0 > (126 : Int))))
theorem t79_1 {N cl} {R} (K : KE R) (x0) : exec cl N c79_1 [(0, .v U1 x0)] K = (g79_1 x0 (fun y0 y1 => K .normal [(0, .v U1 y0), (9, .v .bool y1)])) := by
  kernel_rfl
def g79_2 {R : Type} (x0 : Int) (x1 : Bool) (k0 : Bool → Option R) : Option R :=
k0 false
theorem t79_2 {N cl} {R} (K : KE R) (x0 x1) : exec cl N c79_2 [(0, .v U1 x0), (9, .v .bool x1)] K = (g79_2 x0 x1 (fun y0 => K .normal [(2, .v .bool y0)])) := by
  kernel_rfl
theorem kp79_0 (x0) : keep [0, 2] [(2, .v .bool x0)] = [(0, .dead), (2, .v .bool x0)] := by kernel_rfl
theorem kp79_1 (x0 x1) : keep [0, 2] [(0, .v U1 x0), (9, .v .bool x1)] = [(0, .v U1 x0), (2, .dead)] := by kernel_rfl
theorem hb79_0 (x0 : Int) (x1 : Bool) : boolOf? (ent [(0, .v U1 x0), (9, .v .bool x1)] (.t 9)) = some x1 := by kernel_rfl
def g79_4 {R : Type} (x0 : Int) (k0 : Int → Int → Option R) : Option R :=
k0 x0 (0 : Int)
theorem t79_4 {N cl} {R} (K : KE R) (x0) : exec cl N c79_4 [(0, .v U1 x0), (2, .dead)] K = (g79_4 x0 (fun y0 y1 => K .normal [(0, .v U1 y0), (3, .v U2 y1)])) := by
  kernel_rfl
theorem kp79_2 (x0 x1) : keep [0, 3] [(0, .v U1 x0), (3, .v U2 x1)] = [(0, .v U1 x0), (3, .v U2 x1)] := by kernel_rfl
def g79_5 {R : Type} (x0 : Int) (x1 : Int) (k0 : Int → Int → Bool → Option R) : Option R :=
k0 x0 x1 (decide (x1 < (15 : Int)))
theorem t79_5 {N cl} {R} (K : KE R) (x0 x1) : exec cl N c79_5 [(0, .v U1 x0), (3, .v U2 x1)] K = (g79_5 x0 x1 (fun y0 y1 y2 => K .normal [(0, .v U1 y0), (3, .v U2 y1), (11, .v .bool y2)])) := by
  kernel_rfl
theorem kp79_3 (x0 x1 x2) : keep [0, 3] [(0, .v U1 x0), (3, .v U2 x1), (11, .v .bool x2)] = [(0, .v U1 x0), (3, .v U2 x1)] := by kernel_rfl
theorem hb79_1 (x0 : Int) (x1 : Int) (x2 : Bool) : boolOf? (ent [(0, .v U1 x0), (3, .v U2 x1), (11, .v .bool x2)] (.t 11)) = some x2 := by kernel_rfl
def g79_7 {R : Type} (x0 : Int) (x1 : Int) (k0 : Int → Int → Bool → Option R) : Option R :=
if 0 ≤ x1 ∧ x1 < (([32, 46, 44, 59, 58, 33, 63, 34, 45, 91, 93, 60, 62, 123, 125] : List UInt8).length : Int) then
k0 x0 x1 (((([32, 46, 44, 59, 58, 33, 63, 34, 45, 91, 93, 60, 62, 123, 125] : List UInt8).getD x1.toNat 0).toNat : Int) == x0)
else none
theorem t79_7 {N cl} {R} (K : KE R) (x0 x1) : exec cl N c79_7 [(0, .v U1 x0), (3, .v U2 x1)] K = (g79_7 x0 x1 (fun y0 y1 y2 => K .normal [(0, .v U1 y0), (3, .v U2 y1), (17, .v .bool y2)])) := by
  kernel_rfl
def g79_8 {R : Type} (x0 : Int) (x1 : Int) (x2 : Bool) (k0 : Bool → Option R) : Option R :=
k0 false
theorem t79_8 {N cl} {R} (K : KE R) (x0 x1 x2) : exec cl N c79_8 [(0, .v U1 x0), (3, .v U2 x1), (17, .v .bool x2)] K = (g79_8 x0 x1 x2 (fun y0 => K .normal [(2, .v .bool y0)])) := by
  kernel_rfl
theorem kp79_4 (x0) : keep [0, 2, 3] [(2, .v .bool x0)] = [(0, .dead), (2, .v .bool x0), (3, .dead)] := by kernel_rfl
theorem kp79_5 (x0 x1 x2) : keep [0, 2, 3] [(0, .v U1 x0), (3, .v U2 x1), (17, .v .bool x2)] = [(0, .v U1 x0), (2, .dead), (3, .v U2 x1)] := by kernel_rfl
theorem hb79_2 (x0 : Int) (x1 : Int) (x2 : Bool) : boolOf? (ent [(0, .v U1 x0), (3, .v U2 x1), (17, .v .bool x2)] (.t 17)) = some x2 := by kernel_rfl
theorem kp79_6 (x0) : keep [0, 2, 3] [(0, .dead), (2, .v .bool x0), (3, .dead)] = [(0, .dead), (2, .v .bool x0), (3, .dead)] := by kernel_rfl
theorem kp79_7 (x0 x1) : keep [0, 2, 3] [(0, .v U1 x0), (2, .dead), (3, .v U2 x1)] = [(0, .v U1 x0), (2, .dead), (3, .v U2 x1)] := by kernel_rfl
def g79_11 {R : Type} (x0 : Int) (x1 : Int) (k0 : Int → Int → Option R) : Option R :=
k0 x0 (IntKind.i64.wrap (x1 + (1 : Int)))
theorem t79_11 {N cl} {R} (K : KE R) (x0 x1) : exec cl N c79_11 [(0, .v U1 x0), (2, .dead), (3, .v U2 x1)] K = (g79_11 x0 x1 (fun y0 y1 => K .normal [(0, .v U1 y0), (3, .v U2 y1)])) := by
  kernel_rfl
def g79_12 {R : Type} (x0 : Int) (x1 : Int) (k0 : Bool → Option R) (k1 : Int → Int → Option R) (k2 : Int → Int → Option R) : Option R :=
(g79_5 x0 x1 (fun y0 y1 y2 => brB y2 ((fun y0 y1 => (g79_7 y0 y1 (fun y0 y1 y2 => brB y2 (g79_8 y0 y1 y2 (fun y0 => ((fun y0 => (k0 y0)) y0))) (g79_11 y0 y1 k1)))) y0 y1) (k2 y0 y1)))
theorem t79_12 {N cl} {R} (K : KE R) (x0 x1) : exec cl N c79_12 [(0, .v U1 x0), (3, .v U2 x1)] K = (g79_12 x0 x1 (fun y0 => K .ret [(0, .dead), (2, .v .bool y0), (3, .dead)]) (fun y0 y1 => K .normal [(0, .v U1 y0), (3, .v U2 y1)]) (fun y0 y1 => K (.exit 0) [(0, .v U1 y0), (3, .v U2 y1)])) := by
  simp only [c79_12, exec_seq, seqK_normal, seqK_exit, seqK_ret, t79_5, c79_6, exec_out, exec_cond', hb79_1, Option.bind_some, brB_true, brB_false, exec_skip, exec_exit, kp79_3, c79_10, exec_block, t79_7, c79_9, hb79_2, t79_8, exec_ret, kp79_4, kp79_5, blockK_normal, blockK_ret, blockK_eq, kp79_6, kp79_7, t79_11]
  rfl
def l79_13 {R : Type} (k0 : Bool → Option R) (k1 : Int → Int → Option R) : Nat → Int → Int → Option R
  | 0, _, _ => none
  | m + 1, x0, x1 => (g79_12 x0 x1 k0 (fun y0 y1 => l79_13 k0 k1 m y0 y1) k1)
theorem lt79_13 {N cl} {R} (K : KE R) : ∀ (m) (x0 x1), iter [0, 3] (fun env K => exec cl N c79_12 env K) K m [(0, .v U1 x0), (3, .v U2 x1)] = l79_13 (fun y0 => K .ret [(0, .dead), (2, .v .bool y0), (3, .dead)]) (fun y0 y1 => K (.exit 0) [(0, .v U1 y0), (3, .v U2 y1)]) m x0 x1 := by
  intro m
  induction m with
  | zero => intros; rfl
  | succ m ih =>
    intro x0 x1
    simp only [iter_succ, t79_12, loopK_normal, loopK_exit, loopK_ret, kp79_2, ih]
    rfl
theorem kp79_8 (x0) : keep [2] [(0, .dead), (2, .v .bool x0), (3, .dead)] = [(2, .v .bool x0)] := by kernel_rfl
theorem kp79_9 (x0 x1) : keep [2] [(0, .v U1 x0), (3, .v U2 x1)] = [(2, .dead)] := by kernel_rfl
def g79_13 {R : Type} (N : Nat) (x0 : Int) (x1 : Int) (k0 : Bool → Option R) (k1 : Option R) : Option R :=
l79_13 (fun y0 => k0 y0) (fun y0 y1 => k1) N x0 x1
theorem t79_13 {N cl} {R} (K : KE R) (x0 x1) : exec cl N c79_13 [(0, .v U1 x0), (3, .v U2 x1)] K = (g79_13 N x0 x1 (fun y0 => K .ret [(2, .v .bool y0)]) (K (.exit 0) [(2, .dead)])) := by
  simp only [c79_13, exec_out, exec_loop, kp79_2, lt79_13, kp79_8, kp79_9]
  rfl
theorem kp79_10 (x0) : keep [2] [(2, .v .bool x0)] = [(2, .v .bool x0)] := by kernel_rfl
theorem kp79_11 : keep [2] [(2, .dead)] = [(2, .dead)] := by kernel_rfl
def g79_15 {R : Type} (k0 : Bool → Option R) : Option R :=
k0 true
theorem t79_15 {N cl} {R} (K : KE R) : exec cl N c79_15 [(2, .dead)] K = (g79_15 (fun y0 => K .normal [(2, .v .bool y0)])) := by
  kernel_rfl
def g79_16 {R : Type} (N : Nat) (x0 : Int) (k0 : Bool → Option R) (k1 : Bool → Option R) : Option R :=
(g79_0 x0 (fun y0 => (g79_1 y0 (fun y0 y1 => brB y1 (g79_2 y0 y1 (fun y0 => ((fun y0 => (k0 y0)) y0))) ((fun y0 => (g79_4 y0 (fun y0 y1 => (g79_13 N y0 y1 (fun y0 => (k1 y0)) (g79_15 (fun y0 => (k1 y0))))))) y0)))))
theorem t79_16 {N cl} {R} (K : KE R) (x0) : exec cl N c79_16 [(0, .v U1 x0)] K = (g79_16 N x0 (fun y0 => K .ret [(0, .dead), (2, .v .bool y0)]) (fun y0 => K .ret [(2, .v .bool y0)])) := by
  simp only [c79_16, exec_seq, seqK_normal, seqK_exit, seqK_ret, t79_0, t79_1, c79_3, exec_out, exec_cond', hb79_0, Option.bind_some, brB_true, brB_false, t79_2, exec_ret, exec_skip, kp79_0, kp79_1, t79_4, c79_14, exec_block, t79_13, blockK_normal, blockK_ret, blockK_eq, kp79_10, kp79_11, t79_15]
  rfl
theorem rk79_0 (y0 : Bool) : retK d79 .ret [(0, .dead), (2, .v .bool y0)] = some [.v .bool y0] := by kernel_rfl
theorem rk79_1 (y0 : Bool) : retK d79 .ret [(2, .v .bool y0)] = some [.v .bool y0] := by kernel_rfl
def g79 {R : Type} (N : Nat) (x0 : Int) (k : Bool → Option R) : Option R :=
(g79_16 N x0 (fun y0 => k y0) (fun y0 => k y0))
theorem gen79 {N : Nat} {cl : Cal} (x0 : Int) {R : Type} (k : List E → Option R) : exec cl N c79 (params 0 [.v U1 x0]) (fun e env => (retK d79 e env).bind k) = g79 N x0 (fun (r0 : Bool) => k [.v .bool r0]) := by
  have e0 : params 0 [.v U1 x0] = [(0, .v U1 x0)] := by kernel_rfl
  simp only [c79, e0, t79_16, rk79_0, rk79_1, Option.bind_some]
  rfl
def ctr79 (S : Int → Option (Bool)) : Ctr := { A := Int × Unit, B := Bool, f := 79, enc := fun a => [.v U1 a.1], dec := (decC (decV U1) dec0), S := fun a => S a.1, ent := fun b => [.v .bool b], ok := (decV_cons (T := U1) (fun es b h => dec0_some h)) }
def S79 (N : Nat) (x0 : Int) : Option (Bool) := g79 N x0 (fun (r0 : Bool) => some (r0))
def g59_0 {R : Type} (x0 : V1) (k0 : V1 → Option R) : Option R :=
k0 x0
theorem t59_0 {N cl} {R} (K : KE R) (x0) : exec cl N c59_0 [(0, .v .str x0)] K = (g59_0 x0 (fun y0 => K .normal [(0, .v .str y0)])) := by
  kernel_rfl
def g59_1 {R : Type} (x0 : V1) (k0 : V1 → Bool → Option R) : Option R :=
k0 x0 (decide ((x0.length : Int) > (16 : Int)))
theorem t59_1 {N cl} {R} (K : KE R) (x0) : exec cl N c59_1 [(0, .v .str x0)] K = (g59_1 x0 (fun y0 y1 => K .normal [(0, .v .str y0), (6, .v .bool y1)])) := by
  kernel_rfl
def g59_2 {R : Type} (x0 : V1) (x1 : Bool) (k0 : Int → Option R) : Option R :=
k0 (3 : Int)
theorem t59_2 {N cl} {R} (K : KE R) (x0 x1) : exec cl N c59_2 [(0, .v .str x0), (6, .v .bool x1)] K = (g59_2 x0 x1 (fun y0 => K .normal [(2, .v U2 y0)])) := by
  kernel_rfl
theorem kp59_0 (x0) : keep [0, 2] [(2, .v U2 x0)] = [(0, .dead), (2, .v U2 x0)] := by kernel_rfl
theorem kp59_1 (x0 x1) : keep [0, 2] [(0, .v .str x0), (6, .v .bool x1)] = [(0, .v .str x0), (2, .dead)] := by kernel_rfl
theorem hb59_0 (x0 : V1) (x1 : Bool) : boolOf? (ent [(0, .v .str x0), (6, .v .bool x1)] (.t 6)) = some x1 := by kernel_rfl
def g59_4 {R : Type} (S78 : V1 → Option V5) (x0 : V1) (k0 : V1 → Bool → Option R) : Option R :=
brB (x0 == ([] : List UInt8)) (k0 x0 true) ((S78 x0).bind fun r570 =>
k0 x0 (r570 != x0))
theorem t59_4 {N cl} (S78) (h78 : (ctr78 S78).holds cl) {R} (K : KE R) (x0) : exec cl N c59_4 [(0, .v .str x0), (2, .dead)] K = (g59_4 S78 x0 (fun y0 y1 => K .normal [(0, .v .str y0), (14, .v .bool y1)])) := by
  rw [← put_eq h78]
  kernel_rfl
def g59_5 {R : Type} (x0 : V1) (x1 : Bool) (k0 : Int → Option R) : Option R :=
k0 (2 : Int)
theorem t59_5 {N cl} {R} (K : KE R) (x0 x1) : exec cl N c59_5 [(0, .v .str x0), (14, .v .bool x1)] K = (g59_5 x0 x1 (fun y0 => K .normal [(2, .v U2 y0)])) := by
  kernel_rfl
theorem kp59_2 (x0 x1) : keep [0, 2] [(0, .v .str x0), (14, .v .bool x1)] = [(0, .v .str x0), (2, .dead)] := by kernel_rfl
theorem hb59_1 (x0 : V1) (x1 : Bool) : boolOf? (ent [(0, .v .str x0), (14, .v .bool x1)] (.t 14)) = some x1 := by kernel_rfl
def g59_7 {R : Type} (x0 : V1) (k0 : V1 → Int → Option R) : Option R :=
k0 x0 (0 : Int)
theorem t59_7 {N cl} {R} (K : KE R) (x0) : exec cl N c59_7 [(0, .v .str x0), (2, .dead)] K = (g59_7 x0 (fun y0 y1 => K .normal [(0, .v .str y0), (3, .v U2 y1)])) := by
  kernel_rfl
theorem kp59_3 (x0 x1) : keep [0, 3] [(0, .v .str x0), (3, .v U2 x1)] = [(0, .v .str x0), (3, .v U2 x1)] := by kernel_rfl
def g59_8 {R : Type} (x0 : V1) (x1 : Int) (k0 : V1 → Int → Bool → Option R) : Option R :=
k0 x0 x1 (decide (x1 < (x0.length : Int)))
theorem t59_8 {N cl} {R} (K : KE R) (x0 x1) : exec cl N c59_8 [(0, .v .str x0), (3, .v U2 x1)] K = (g59_8 x0 x1 (fun y0 y1 y2 => K .normal [(0, .v .str y0), (3, .v U2 y1), (18, .v .bool y2)])) := by
  kernel_rfl
theorem kp59_4 (x0 x1 x2) : keep [0, 3] [(0, .v .str x0), (3, .v U2 x1), (18, .v .bool x2)] = [(0, .v .str x0), (3, .v U2 x1)] := by kernel_rfl
theorem hb59_2 (x0 : V1) (x1 : Int) (x2 : Bool) : boolOf? (ent [(0, .v .str x0), (3, .v U2 x1), (18, .v .bool x2)] (.t 18)) = some x2 := by kernel_rfl
def g59_10 {R : Type} (S79 : Int → Option (Bool)) (x0 : V1) (x1 : Int) (k0 : V1 → Int → Bool → Option R) : Option R :=
if 0 ≤ x1 ∧ x1 < (x0.length : Int) then
(S79 ((x0.getD x1.toNat 0).toNat : Int)).bind fun r573 =>
k0 x0 x1 (!r573)
else none
theorem t59_10 {N cl} (S79) (h79 : (ctr79 S79).holds cl) {R} (K : KE R) (x0 x1) : exec cl N c59_10 [(0, .v .str x0), (3, .v U2 x1)] K = (g59_10 S79 x0 x1 (fun y0 y1 y2 => K .normal [(0, .v .str y0), (3, .v U2 y1), (25, .v .bool y2)])) := by
  rw [← put_eq h79]
  kernel_rfl
def g59_11 {R : Type} (x0 : V1) (x1 : Int) (x2 : Bool) (k0 : Int → Option R) : Option R :=
k0 (2 : Int)
theorem t59_11 {N cl} {R} (K : KE R) (x0 x1 x2) : exec cl N c59_11 [(0, .v .str x0), (3, .v U2 x1), (25, .v .bool x2)] K = (g59_11 x0 x1 x2 (fun y0 => K .normal [(2, .v U2 y0)])) := by
  kernel_rfl
theorem kp59_5 (x0) : keep [0, 2, 3] [(2, .v U2 x0)] = [(0, .dead), (2, .v U2 x0), (3, .dead)] := by kernel_rfl
theorem kp59_6 (x0 x1 x2) : keep [0, 2, 3] [(0, .v .str x0), (3, .v U2 x1), (25, .v .bool x2)] = [(0, .v .str x0), (2, .dead), (3, .v U2 x1)] := by kernel_rfl
theorem hb59_3 (x0 : V1) (x1 : Int) (x2 : Bool) : boolOf? (ent [(0, .v .str x0), (3, .v U2 x1), (25, .v .bool x2)] (.t 25)) = some x2 := by kernel_rfl
theorem kp59_7 (x0) : keep [0, 2, 3] [(0, .dead), (2, .v U2 x0), (3, .dead)] = [(0, .dead), (2, .v U2 x0), (3, .dead)] := by kernel_rfl
theorem kp59_8 (x0 x1) : keep [0, 2, 3] [(0, .v .str x0), (2, .dead), (3, .v U2 x1)] = [(0, .v .str x0), (2, .dead), (3, .v U2 x1)] := by kernel_rfl
def g59_14 {R : Type} (x0 : V1) (x1 : Int) (k0 : V1 → Int → Option R) : Option R :=
k0 x0 (IntKind.i64.wrap (x1 + (1 : Int)))
theorem t59_14 {N cl} {R} (K : KE R) (x0 x1) : exec cl N c59_14 [(0, .v .str x0), (2, .dead), (3, .v U2 x1)] K = (g59_14 x0 x1 (fun y0 y1 => K .normal [(0, .v .str y0), (3, .v U2 y1)])) := by
  kernel_rfl
def g59_15 {R : Type} (S79 : Int → Option (Bool)) (x0 : V1) (x1 : Int) (k0 : Int → Option R) (k1 : V1 → Int → Option R) (k2 : V1 → Int → Option R) : Option R :=
(g59_8 x0 x1 (fun y0 y1 y2 => brB y2 ((fun y0 y1 => (g59_10 S79 y0 y1 (fun y0 y1 y2 => brB y2 (g59_11 y0 y1 y2 (fun y0 => ((fun y0 => (k0 y0)) y0))) (g59_14 y0 y1 k1)))) y0 y1) (k2 y0 y1)))
theorem t59_15 {N cl} (S79) (h79 : (ctr79 S79).holds cl) {R} (K : KE R) (x0 x1) : exec cl N c59_15 [(0, .v .str x0), (3, .v U2 x1)] K = (g59_15 S79 x0 x1 (fun y0 => K .ret [(0, .dead), (2, .v U2 y0), (3, .dead)]) (fun y0 y1 => K .normal [(0, .v .str y0), (3, .v U2 y1)]) (fun y0 y1 => K (.exit 0) [(0, .v .str y0), (3, .v U2 y1)])) := by
  simp only [c59_15, exec_seq, seqK_normal, seqK_exit, seqK_ret, t59_8, c59_9, exec_out, exec_cond', hb59_2, Option.bind_some, brB_true, brB_false, exec_skip, exec_exit, kp59_4, c59_13, exec_block, t59_10 S79 h79, c59_12, hb59_3, t59_11, exec_ret, kp59_5, kp59_6, blockK_normal, blockK_ret, blockK_eq, kp59_7, kp59_8, t59_14]
  rfl
def l59_16 {R : Type} (S79 : Int → Option (Bool)) (k0 : Int → Option R) (k1 : V1 → Int → Option R) : Nat → V1 → Int → Option R
  | 0, _, _ => none
  | m + 1, x0, x1 => (g59_15 S79 x0 x1 k0 (fun y0 y1 => l59_16 S79 k0 k1 m y0 y1) k1)
theorem lt59_16 {N cl} (S79) (h79 : (ctr79 S79).holds cl) {R} (K : KE R) : ∀ (m) (x0 x1), iter [0, 3] (fun env K => exec cl N c59_15 env K) K m [(0, .v .str x0), (3, .v U2 x1)] = l59_16 S79 (fun y0 => K .ret [(0, .dead), (2, .v U2 y0), (3, .dead)]) (fun y0 y1 => K (.exit 0) [(0, .v .str y0), (3, .v U2 y1)]) m x0 x1 := by
  intro m
  induction m with
  | zero => intros; rfl
  | succ m ih =>
    intro x0 x1
    simp only [iter_succ, t59_15 S79 h79, loopK_normal, loopK_exit, loopK_ret, kp59_3, ih]
    rfl
theorem kp59_9 (x0) : keep [2] [(0, .dead), (2, .v U2 x0), (3, .dead)] = [(2, .v U2 x0)] := by kernel_rfl
theorem kp59_10 (x0 x1) : keep [2] [(0, .v .str x0), (3, .v U2 x1)] = [(2, .dead)] := by kernel_rfl
def g59_16 {R : Type} (N : Nat) (S79 : Int → Option (Bool)) (x0 : V1) (x1 : Int) (k0 : Int → Option R) (k1 : Option R) : Option R :=
l59_16 S79 (fun y0 => k0 y0) (fun y0 y1 => k1) N x0 x1
theorem t59_16 {N cl} (S79) (h79 : (ctr79 S79).holds cl) {R} (K : KE R) (x0 x1) : exec cl N c59_16 [(0, .v .str x0), (3, .v U2 x1)] K = (g59_16 N S79 x0 x1 (fun y0 => K .ret [(2, .v U2 y0)]) (K (.exit 0) [(2, .dead)])) := by
  simp only [c59_16, exec_out, exec_loop, kp59_3, lt59_16 S79 h79, kp59_10, kp59_9]
  rfl
theorem kp59_11 (x0) : keep [2] [(2, .v U2 x0)] = [(2, .v U2 x0)] := by kernel_rfl
theorem kp59_12 : keep [2] [(2, .dead)] = [(2, .dead)] := by kernel_rfl
def g59_18 {R : Type} (k0 : Int → Option R) : Option R :=
k0 (0 : Int)
theorem t59_18 {N cl} {R} (K : KE R) : exec cl N c59_18 [(2, .dead)] K = (g59_18 (fun y0 => K .normal [(2, .v U2 y0)])) := by
  kernel_rfl
def g59_19 {R : Type} (N : Nat) (S78 : V1 → Option V5) (S79 : Int → Option (Bool)) (x0 : V1) (k0 : Int → Option R) (k1 : Int → Option R) : Option R :=
(g59_0 x0 (fun y0 => (g59_1 y0 (fun y0 y1 => brB y1 (g59_2 y0 y1 (fun y0 => ((fun y0 => (k0 y0)) y0))) ((fun y0 => (g59_4 S78 y0 (fun y0 y1 => brB y1 (g59_5 y0 y1 (fun y0 => ((fun y0 => (k0 y0)) y0))) ((fun y0 => (g59_7 y0 (fun y0 y1 => (g59_16 N S79 y0 y1 (fun y0 => (k1 y0)) (g59_18 (fun y0 => (k1 y0))))))) y0)))) y0)))))
theorem t59_19 {N cl} (S78) (S79) (h78 : (ctr78 S78).holds cl) (h79 : (ctr79 S79).holds cl) {R} (K : KE R) (x0) : exec cl N c59_19 [(0, .v .str x0)] K = (g59_19 N S78 S79 x0 (fun y0 => K .ret [(0, .dead), (2, .v U2 y0)]) (fun y0 => K .ret [(2, .v U2 y0)])) := by
  simp only [c59_19, exec_seq, seqK_normal, seqK_exit, seqK_ret, t59_0, t59_1, c59_3, exec_out, exec_cond', hb59_0, Option.bind_some, brB_true, brB_false, t59_2, exec_ret, exec_skip, kp59_0, kp59_1, t59_4 S78 h78, c59_6, hb59_1, t59_5, kp59_2, t59_7, c59_17, exec_block, t59_16 S79 h79, blockK_normal, blockK_ret, blockK_eq, kp59_11, kp59_12, t59_18]
  rfl
theorem rk59_0 (y0 : Int) : retK d59 .ret [(0, .dead), (2, .v U2 y0)] = some [.v U2 y0] := by kernel_rfl
theorem rk59_1 (y0 : Int) : retK d59 .ret [(2, .v U2 y0)] = some [.v U2 y0] := by kernel_rfl
def g59 {R : Type} (N : Nat) (S78 : V1 → Option V5) (S79 : Int → Option (Bool)) (x0 : V1) (k : Int → Option R) : Option R :=
(g59_19 N S78 S79 x0 (fun y0 => k y0) (fun y0 => k y0))
theorem gen59 {N : Nat} {cl : Cal} (S78 : V1 → Option V5) (S79 : Int → Option (Bool)) (h78 : (ctr78 S78).holds cl) (h79 : (ctr79 S79).holds cl) (x0 : V1) {R : Type} (k : List E → Option R) : exec cl N c59 (params 0 [.v .str x0]) (fun e env => (retK d59 e env).bind k) = g59 N S78 S79 x0 (fun (r0 : Int) => k [.v U2 r0]) := by
  have e0 : params 0 [.v .str x0] = [(0, .v .str x0)] := by kernel_rfl
  simp only [c59, e0, t59_19 S78 S79 h78 h79, rk59_0, rk59_1, Option.bind_some]
  rfl
def ctr59 (S : V1 → Option (Int)) : Ctr := { A := V1 × Unit, B := Int, f := 59, enc := fun a => [.v .str a.1], dec := (decC (decV .str) dec0), S := fun a => S a.1, ent := fun b => [.v U2 b], ok := (decV_cons (T := .str) (fun es b h => dec0_some h)) }
def S59 (N : Nat) (x0 : V1) : Option (Int) := g59 N (S78 N) (S79 N) x0 (fun (r0 : Int) => some (r0))
def g60_0 {R : Type} (x0 : V6) (x1 : V1) (k0 : V6 → V1 → Option R) : Option R :=
k0 x0 x1
theorem t60_0 {N cl} {R} (K : KE R) (x0 x1) : exec cl N c60_0 [(0, .v U0 x0), (1, .v .str x1)] K = (g60_0 x0 x1 (fun y0 y1 => K .normal [(0, .v U0 y0), (1, .v .str y1)])) := by
  kernel_rfl
def g60_1 {R : Type} (x0 : V6) (x1 : V1) (k0 : V6 → V1 → Int → Option R) : Option R :=
k0 x0 x1 (0 : Int)
theorem t60_1 {N cl} {R} (K : KE R) (x0 x1) : exec cl N c60_1 [(0, .v U0 x0), (1, .v .str x1)] K = (g60_1 x0 x1 (fun y0 y1 y2 => K .normal [(0, .v U0 y0), (1, .v .str y1), (5, .v U2 y2)])) := by
  kernel_rfl
theorem kp60_0 (x0 x1 x2) : keep [0, 1, 5] [(0, .v U0 x0), (1, .v .str x1), (5, .v U2 x2)] = [(0, .v U0 x0), (1, .v .str x1), (5, .v U2 x2)] := by kernel_rfl
def g60_2 {R : Type} (x0 : V6) (x1 : V1) (x2 : Int) (k0 : V6 → V1 → Int → Bool → Option R) : Option R :=
k0 x0 x1 x2 (decide (x2 < (x0.length : Int)))
theorem t60_2 {N cl} {R} (K : KE R) (x0 x1 x2) : exec cl N c60_2 [(0, .v U0 x0), (1, .v .str x1), (5, .v U2 x2)] K = (g60_2 x0 x1 x2 (fun y0 y1 y2 y3 => K .normal [(0, .v U0 y0), (1, .v .str y1), (5, .v U2 y2), (9, .v .bool y3)])) := by
  kernel_rfl
theorem kp60_1 (x0 x1 x2 x3) : keep [0, 1, 5] [(0, .v U0 x0), (1, .v .str x1), (5, .v U2 x2), (9, .v .bool x3)] = [(0, .v U0 x0), (1, .v .str x1), (5, .v U2 x2)] := by kernel_rfl
theorem hb60_0 (x0 : V6) (x1 : V1) (x2 : Int) (x3 : Bool) : boolOf? (ent [(0, .v U0 x0), (1, .v .str x1), (5, .v U2 x2), (9, .v .bool x3)] (.t 9)) = some x3 := by kernel_rfl
def g60_4 {R : Type} (x0 : V6) (x1 : V1) (x2 : Int) (k0 : V6 → V1 → Int → Bool → Option R) : Option R :=
if 0 ≤ x2 ∧ x2 < (x0.length : Int) then
k0 x0 x1 x2 ((x0.getD x2.toNat []) == x1)
else none
theorem t60_4 {N cl} {R} (K : KE R) (x0 x1 x2) : exec cl N c60_4 [(0, .v U0 x0), (1, .v .str x1), (5, .v U2 x2)] K = (g60_4 x0 x1 x2 (fun y0 y1 y2 y3 => K .normal [(0, .v U0 y0), (1, .v .str y1), (5, .v U2 y2), (17, .v .bool y3)])) := by
  kernel_rfl
def g60_5 {R : Type} (x0 : V6) (x1 : V1) (x2 : Int) (x3 : Bool) (k0 : Bool → Option R) : Option R :=
k0 true
theorem t60_5 {N cl} {R} (K : KE R) (x0 x1 x2 x3) : exec cl N c60_5 [(0, .v U0 x0), (1, .v .str x1), (5, .v U2 x2), (17, .v .bool x3)] K = (g60_5 x0 x1 x2 x3 (fun y0 => K .normal [(4, .v .bool y0)])) := by
  kernel_rfl
theorem kp60_2 (x0) : keep [0, 1, 4, 5] [(4, .v .bool x0)] = [(0, .dead), (1, .dead), (4, .v .bool x0), (5, .dead)] := by kernel_rfl
theorem kp60_3 (x0 x1 x2 x3) : keep [0, 1, 4, 5] [(0, .v U0 x0), (1, .v .str x1), (5, .v U2 x2), (17, .v .bool x3)] = [(0, .v U0 x0), (1, .v .str x1), (4, .dead), (5, .v U2 x2)] := by kernel_rfl
theorem hb60_1 (x0 : V6) (x1 : V1) (x2 : Int) (x3 : Bool) : boolOf? (ent [(0, .v U0 x0), (1, .v .str x1), (5, .v U2 x2), (17, .v .bool x3)] (.t 17)) = some x3 := by kernel_rfl
theorem kp60_4 (x0) : keep [0, 1, 4, 5] [(0, .dead), (1, .dead), (4, .v .bool x0), (5, .dead)] = [(0, .dead), (1, .dead), (4, .v .bool x0), (5, .dead)] := by kernel_rfl
theorem kp60_5 (x0 x1 x2) : keep [0, 1, 4, 5] [(0, .v U0 x0), (1, .v .str x1), (4, .dead), (5, .v U2 x2)] = [(0, .v U0 x0), (1, .v .str x1), (4, .dead), (5, .v U2 x2)] := by kernel_rfl
def g60_8 {R : Type} (x0 : V6) (x1 : V1) (x2 : Int) (k0 : V6 → V1 → Int → Option R) : Option R :=
k0 x0 x1 (IntKind.i64.wrap (x2 + (1 : Int)))
theorem t60_8 {N cl} {R} (K : KE R) (x0 x1 x2) : exec cl N c60_8 [(0, .v U0 x0), (1, .v .str x1), (4, .dead), (5, .v U2 x2)] K = (g60_8 x0 x1 x2 (fun y0 y1 y2 => K .normal [(0, .v U0 y0), (1, .v .str y1), (5, .v U2 y2)])) := by
  kernel_rfl
def g60_9 {R : Type} (x0 : V6) (x1 : V1) (x2 : Int) (k0 : Bool → Option R) (k1 : V6 → V1 → Int → Option R) (k2 : V6 → V1 → Int → Option R) : Option R :=
(g60_2 x0 x1 x2 (fun y0 y1 y2 y3 => brB y3 ((fun y0 y1 y2 => (g60_4 y0 y1 y2 (fun y0 y1 y2 y3 => brB y3 (g60_5 y0 y1 y2 y3 (fun y0 => ((fun y0 => (k0 y0)) y0))) (g60_8 y0 y1 y2 k1)))) y0 y1 y2) (k2 y0 y1 y2)))
theorem t60_9 {N cl} {R} (K : KE R) (x0 x1 x2) : exec cl N c60_9 [(0, .v U0 x0), (1, .v .str x1), (5, .v U2 x2)] K = (g60_9 x0 x1 x2 (fun y0 => K .ret [(0, .dead), (1, .dead), (4, .v .bool y0), (5, .dead)]) (fun y0 y1 y2 => K .normal [(0, .v U0 y0), (1, .v .str y1), (5, .v U2 y2)]) (fun y0 y1 y2 => K (.exit 0) [(0, .v U0 y0), (1, .v .str y1), (5, .v U2 y2)])) := by
  simp only [c60_9, exec_seq, seqK_normal, seqK_exit, seqK_ret, t60_2, c60_3, exec_out, exec_cond', hb60_0, Option.bind_some, brB_true, brB_false, exec_skip, exec_exit, kp60_1, c60_7, exec_block, t60_4, c60_6, hb60_1, t60_5, exec_ret, kp60_2, kp60_3, blockK_normal, blockK_ret, blockK_eq, kp60_4, kp60_5, t60_8]
  rfl
def l60_10 {R : Type} (k0 : Bool → Option R) (k1 : V6 → V1 → Int → Option R) : Nat → V6 → V1 → Int → Option R
  | 0, _, _, _ => none
  | m + 1, x0, x1, x2 => (g60_9 x0 x1 x2 k0 (fun y0 y1 y2 => l60_10 k0 k1 m y0 y1 y2) k1)
theorem lt60_10 {N cl} {R} (K : KE R) : ∀ (m) (x0 x1 x2), iter [0, 1, 5] (fun env K => exec cl N c60_9 env K) K m [(0, .v U0 x0), (1, .v .str x1), (5, .v U2 x2)] = l60_10 (fun y0 => K .ret [(0, .dead), (1, .dead), (4, .v .bool y0), (5, .dead)]) (fun y0 y1 y2 => K (.exit 0) [(0, .v U0 y0), (1, .v .str y1), (5, .v U2 y2)]) m x0 x1 x2 := by
  intro m
  induction m with
  | zero => intros; rfl
  | succ m ih =>
    intro x0 x1 x2
    simp only [iter_succ, t60_9, loopK_normal, loopK_exit, loopK_ret, kp60_0, ih]
    rfl
theorem kp60_6 (x0) : keep [4] [(0, .dead), (1, .dead), (4, .v .bool x0), (5, .dead)] = [(4, .v .bool x0)] := by kernel_rfl
theorem kp60_7 (x0 x1 x2) : keep [4] [(0, .v U0 x0), (1, .v .str x1), (5, .v U2 x2)] = [(4, .dead)] := by kernel_rfl
def g60_10 {R : Type} (N : Nat) (x0 : V6) (x1 : V1) (x2 : Int) (k0 : Bool → Option R) (k1 : Option R) : Option R :=
l60_10 (fun y0 => k0 y0) (fun y0 y1 y2 => k1) N x0 x1 x2
theorem t60_10 {N cl} {R} (K : KE R) (x0 x1 x2) : exec cl N c60_10 [(0, .v U0 x0), (1, .v .str x1), (5, .v U2 x2)] K = (g60_10 N x0 x1 x2 (fun y0 => K .ret [(4, .v .bool y0)]) (K (.exit 0) [(4, .dead)])) := by
  simp only [c60_10, exec_out, exec_loop, kp60_0, lt60_10, kp60_6, kp60_7]
  rfl
theorem kp60_8 (x0) : keep [4] [(4, .v .bool x0)] = [(4, .v .bool x0)] := by kernel_rfl
theorem kp60_9 : keep [4] [(4, .dead)] = [(4, .dead)] := by kernel_rfl
def g60_12 {R : Type} (k0 : Bool → Option R) : Option R :=
k0 false
theorem t60_12 {N cl} {R} (K : KE R) : exec cl N c60_12 [(4, .dead)] K = (g60_12 (fun y0 => K .normal [(4, .v .bool y0)])) := by
  kernel_rfl
def g60_13 {R : Type} (N : Nat) (x0 : V6) (x1 : V1) (k0 : Bool → Option R) : Option R :=
(g60_0 x0 x1 (fun y0 y1 => (g60_1 y0 y1 (fun y0 y1 y2 => (g60_10 N y0 y1 y2 (fun y0 => (k0 y0)) (g60_12 (fun y0 => (k0 y0))))))))
theorem t60_13 {N cl} {R} (K : KE R) (x0 x1) : exec cl N c60_13 [(0, .v U0 x0), (1, .v .str x1)] K = (g60_13 N x0 x1 (fun y0 => K .ret [(4, .v .bool y0)])) := by
  simp only [c60_13, exec_seq, seqK_normal, seqK_exit, seqK_ret, t60_0, t60_1, c60_11, exec_out, exec_block, t60_10, blockK_normal, blockK_ret, blockK_eq, kp60_8, kp60_9, t60_12, exec_ret]
  rfl
theorem rk60_0 (y0 : Bool) : retK d60 .ret [(4, .v .bool y0)] = some [.v .bool y0] := by kernel_rfl
def g60 {R : Type} (N : Nat) (x0 : V6) (x1 : V1) (k : Bool → Option R) : Option R :=
(g60_13 N x0 x1 (fun y0 => k y0))
theorem gen60 {N : Nat} {cl : Cal} (x0 : V6) (x1 : V1) {R : Type} (k : List E → Option R) : exec cl N c60 (params 0 [.v U0 x0, .v .str x1]) (fun e env => (retK d60 e env).bind k) = g60 N x0 x1 (fun (r0 : Bool) => k [.v .bool r0]) := by
  have e0 : params 0 [.v U0 x0, .v .str x1] = [(0, .v U0 x0), (1, .v .str x1)] := by kernel_rfl
  simp only [c60, e0, t60_13, rk60_0, Option.bind_some]
  rfl
def ctr60 (S : V6 → V1 → Option (Bool)) : Ctr := { A := V6 × V1 × Unit, B := Bool, f := 60, enc := fun a => [.v U0 a.1, .v .str a.2.1], dec := (decC (decV U0) (decC (decV .str) dec0)), S := fun a => S a.1 a.2.1, ent := fun b => [.v .bool b], ok := (decV_cons (T := U0) (decV_cons (T := .str) (fun es b h => dec0_some h))) }
def S60 (N : Nat) (x0 : V6) (x1 : V1) : Option (Bool) := g60 N x0 x1 (fun (r0 : Bool) => some (r0))
def g41_0 {R : Type} (x0 : V19) (k0 : V19 → Option R) : Option R :=
k0 x0
theorem t41_0 {N cl} {R} (K : KE R) (x0) : exec cl N c41_0 [(0, .v U20 x0)] K = (g41_0 x0 (fun y0 => K .normal [(1, .loc U20 .no y0)])) := by
  kernel_rfl
def g41_1 {R : Type} (x0 : V19) (k0 : V19 → Bool → Option R) : Option R :=
brB (decide (x0.1 < (1 : Int))) (k0 x0 true) (brB (decide (x0.1 > (12 : Int))) (k0 x0 true) (brB (decide (x0.2.1 < (0 : Int))) (k0 x0 true) (k0 x0 (decide (x0.2.1 > (999 : Int))))))
theorem t41_1 {N cl} {R} (K : KE R) (x0) : exec cl N c41_1 [(1, .loc U20 .no x0)] K = (g41_1 x0 (fun y0 y1 => K .normal [(1, .loc U20 .no y0), (22, .v .bool y1)])) := by
  kernel_rfl
def g41_2 {R : Type} (x0 : V19) (x1 : Bool) (k0 : Int → Option R) : Option R :=
k0 (6 : Int)
theorem t41_2 {N cl} {R} (K : KE R) (x0 x1) : exec cl N c41_2 [(1, .loc U20 .no x0), (22, .v .bool x1)] K = (g41_2 x0 x1 (fun y0 => K .normal [(2, .v U2 y0)])) := by
  kernel_rfl
theorem kp41_0 (x0) : keep [1, 2] [(2, .v U2 x0)] = [(1, .dead), (2, .v U2 x0)] := by kernel_rfl
theorem kp41_1 (x0 x1) : keep [1, 2] [(1, .loc U20 .no x0), (22, .v .bool x1)] = [(1, .loc U20 .no x0), (2, .dead)] := by kernel_rfl
theorem hb41_0 (x0 : V19) (x1 : Bool) : boolOf? (ent [(1, .loc U20 .no x0), (22, .v .bool x1)] (.t 22)) = some x1 := by kernel_rfl
def g41_4 {R : Type} (x0 : V19) (k0 : V19 → Bool → Option R) : Option R :=
k0 x0 (decide ((x0.2.2.1.length : Int) > (20 : Int)))
theorem t41_4 {N cl} {R} (K : KE R) (x0) : exec cl N c41_4 [(1, .loc U20 .no x0), (2, .dead)] K = (g41_4 x0 (fun y0 y1 => K .normal [(1, .loc U20 .no y0), (26, .v .bool y1)])) := by
  kernel_rfl
def g41_5 {R : Type} (x0 : V19) (x1 : Bool) (k0 : Int → Option R) : Option R :=
k0 (3 : Int)
theorem t41_5 {N cl} {R} (K : KE R) (x0 x1) : exec cl N c41_5 [(1, .loc U20 .no x0), (26, .v .bool x1)] K = (g41_5 x0 x1 (fun y0 => K .normal [(2, .v U2 y0)])) := by
  kernel_rfl
theorem kp41_2 (x0 x1) : keep [1, 2] [(1, .loc U20 .no x0), (26, .v .bool x1)] = [(1, .loc U20 .no x0), (2, .dead)] := by kernel_rfl
theorem hb41_1 (x0 : V19) (x1 : Bool) : boolOf? (ent [(1, .loc U20 .no x0), (26, .v .bool x1)] (.t 26)) = some x1 := by kernel_rfl
def g41_7 {R : Type} (x0 : V19) (k0 : V19 → Int → Option R) : Option R :=
k0 x0 (0 : Int)
theorem t41_7 {N cl} {R} (K : KE R) (x0) : exec cl N c41_7 [(1, .loc U20 .no x0), (2, .dead)] K = (g41_7 x0 (fun y0 y1 => K .normal [(1, .loc U20 .no y0), (3, .v U2 y1)])) := by
  kernel_rfl
theorem kp41_3 (x0 x1) : keep [1, 3] [(1, .loc U20 .no x0), (3, .v U2 x1)] = [(1, .loc U20 .no x0), (3, .v U2 x1)] := by kernel_rfl
def g41_8 {R : Type} (x0 : V19) (x1 : Int) (k0 : V19 → Int → Bool → Option R) : Option R :=
k0 x0 x1 (decide (x1 < (x0.2.2.1.length : Int)))
theorem t41_8 {N cl} {R} (K : KE R) (x0 x1) : exec cl N c41_8 [(1, .loc U20 .no x0), (3, .v U2 x1)] K = (g41_8 x0 x1 (fun y0 y1 y2 => K .normal [(1, .loc U20 .no y0), (3, .v U2 y1), (31, .v .bool y2)])) := by
  kernel_rfl
theorem kp41_4 (x0 x1 x2) : keep [1, 3] [(1, .loc U20 .no x0), (3, .v U2 x1), (31, .v .bool x2)] = [(1, .loc U20 .no x0), (3, .v U2 x1)] := by kernel_rfl
theorem hb41_2 (x0 : V19) (x1 : Int) (x2 : Bool) : boolOf? (ent [(1, .loc U20 .no x0), (3, .v U2 x1), (31, .v .bool x2)] (.t 31)) = some x2 := by kernel_rfl
def g41_10 {R : Type} (S59 : V1 → Option (Int)) (x0 : V19) (x1 : Int) (k0 : V19 → Int → Int → Option R) : Option R :=
if 0 ≤ x1 ∧ x1 < (x0.2.2.1.length : Int) then
(S59 (x0.2.2.1.getD x1.toNat [])).bind fun r592 =>
k0 x0 x1 r592
else none
theorem t41_10 {N cl} (S59) (h59 : (ctr59 S59).holds cl) {R} (K : KE R) (x0 x1) : exec cl N c41_10 [(1, .loc U20 .no x0), (3, .v U2 x1)] K = (g41_10 S59 x0 x1 (fun y0 y1 y2 => K .normal [(1, .loc U20 .no y0), (3, .v U2 y1), (4, .v U2 y2)])) := by
  rw [← put_eq h59]
  kernel_rfl
def g41_11 {R : Type} (x0 : V19) (x1 : Int) (x2 : Int) (k0 : V19 → Int → Int → Bool → Option R) : Option R :=
k0 x0 x1 x2 (x2 != (0 : Int))
theorem t41_11 {N cl} {R} (K : KE R) (x0 x1 x2) : exec cl N c41_11 [(1, .loc U20 .no x0), (3, .v U2 x1), (4, .v U2 x2)] K = (g41_11 x0 x1 x2 (fun y0 y1 y2 y3 => K .normal [(1, .loc U20 .no y0), (3, .v U2 y1), (4, .v U2 y2), (41, .v .bool y3)])) := by
  kernel_rfl
def g41_12 {R : Type} (x0 : V19) (x1 : Int) (x2 : Int) (x3 : Bool) (k0 : Int → Option R) : Option R :=
k0 x2
theorem t41_12 {N cl} {R} (K : KE R) (x0 x1 x2 x3) : exec cl N c41_12 [(1, .loc U20 .no x0), (3, .v U2 x1), (4, .v U2 x2), (41, .v .bool x3)] K = (g41_12 x0 x1 x2 x3 (fun y0 => K .normal [(2, .v U2 y0)])) := by
  kernel_rfl
theorem kp41_5 (x0) : keep [1, 2, 3] [(2, .v U2 x0)] = [(1, .dead), (2, .v U2 x0), (3, .dead)] := by kernel_rfl
theorem kp41_6 (x0 x1 x2 x3) : keep [1, 2, 3] [(1, .loc U20 .no x0), (3, .v U2 x1), (4, .v U2 x2), (41, .v .bool x3)] = [(1, .loc U20 .no x0), (2, .dead), (3, .v U2 x1)] := by kernel_rfl
theorem hb41_3 (x0 : V19) (x1 : Int) (x2 : Int) (x3 : Bool) : boolOf? (ent [(1, .loc U20 .no x0), (3, .v U2 x1), (4, .v U2 x2), (41, .v .bool x3)] (.t 41)) = some x3 := by kernel_rfl
def g41_14 {R : Type} (S60 : V6 → V1 → Option (Bool)) (x0 : V19) (x1 : Int) (k0 : V19 → Int → Bool → Option R) : Option R :=
if 0 ≤ (0 : Int) ∧ (0 : Int) ≤ x1 ∧ x1 ≤ (x0.2.2.1.length : Int) ∧ (x0.2.2.1.length : Int) ≤ (x0.2.2.1.length : Int) then
if 0 ≤ x1 ∧ x1 < (x0.2.2.1.length : Int) then
(S60 ((x0.2.2.1.drop (0 : Int).toNat).take (x1.toNat - (0 : Int).toNat)) (x0.2.2.1.getD x1.toNat [])).bind fun r595 =>
k0 x0 x1 r595
else none
else none
theorem t41_14 {N cl} (S60) (h60 : (ctr60 S60).holds cl) {R} (K : KE R) (x0 x1) : exec cl N c41_14 [(1, .loc U20 .no x0), (2, .dead), (3, .v U2 x1)] K = (g41_14 S60 x0 x1 (fun y0 y1 y2 => K .normal [(1, .loc U20 .no y0), (3, .v U2 y1), (52, .v .bool y2)])) := by
  rw [← put_eq h60]
  kernel_rfl
def g41_15 {R : Type} (x0 : V19) (x1 : Int) (x2 : Bool) (k0 : Int → Option R) : Option R :=
k0 (5 : Int)
theorem t41_15 {N cl} {R} (K : KE R) (x0 x1 x2) : exec cl N c41_15 [(1, .loc U20 .no x0), (3, .v U2 x1), (52, .v .bool x2)] K = (g41_15 x0 x1 x2 (fun y0 => K .normal [(2, .v U2 y0)])) := by
  kernel_rfl
theorem kp41_7 (x0 x1 x2) : keep [1, 2, 3] [(1, .loc U20 .no x0), (3, .v U2 x1), (52, .v .bool x2)] = [(1, .loc U20 .no x0), (2, .dead), (3, .v U2 x1)] := by kernel_rfl
theorem hb41_4 (x0 : V19) (x1 : Int) (x2 : Bool) : boolOf? (ent [(1, .loc U20 .no x0), (3, .v U2 x1), (52, .v .bool x2)] (.t 52)) = some x2 := by kernel_rfl
theorem kp41_8 (x0) : keep [1, 2, 3] [(1, .dead), (2, .v U2 x0), (3, .dead)] = [(1, .dead), (2, .v U2 x0), (3, .dead)] := by kernel_rfl
theorem kp41_9 (x0 x1) : keep [1, 2, 3] [(1, .loc U20 .no x0), (2, .dead), (3, .v U2 x1)] = [(1, .loc U20 .no x0), (2, .dead), (3, .v U2 x1)] := by kernel_rfl
def g41_18 {R : Type} (x0 : V19) (x1 : Int) (k0 : V19 → Int → Option R) : Option R :=
k0 x0 (IntKind.i64.wrap (x1 + (1 : Int)))
theorem t41_18 {N cl} {R} (K : KE R) (x0 x1) : exec cl N c41_18 [(1, .loc U20 .no x0), (2, .dead), (3, .v U2 x1)] K = (g41_18 x0 x1 (fun y0 y1 => K .normal [(1, .loc U20 .no y0), (3, .v U2 y1)])) := by
  kernel_rfl
def g41_19 {R : Type} (S59 : V1 → Option (Int)) (S60 : V6 → V1 → Option (Bool)) (x0 : V19) (x1 : Int) (k0 : Int → Option R) (k1 : V19 → Int → Option R) (k2 : V19 → Int → Option R) : Option R :=
(g41_8 x0 x1 (fun y0 y1 y2 => brB y2 ((fun y0 y1 => (g41_10 S59 y0 y1 (fun y0 y1 y2 => (g41_11 y0 y1 y2 (fun y0 y1 y2 y3 => brB y3 (g41_12 y0 y1 y2 y3 (fun y0 => ((fun y0 => (k0 y0)) y0))) ((fun y0 y1 => (g41_14 S60 y0 y1 (fun y0 y1 y2 => brB y2 (g41_15 y0 y1 y2 (fun y0 => ((fun y0 => (k0 y0)) y0))) (g41_18 y0 y1 k1)))) y0 y1)))))) y0 y1) (k2 y0 y1)))
theorem t41_19 {N cl} (S59) (S60) (h59 : (ctr59 S59).holds cl) (h60 : (ctr60 S60).holds cl) {R} (K : KE R) (x0 x1) : exec cl N c41_19 [(1, .loc U20 .no x0), (3, .v U2 x1)] K = (g41_19 S59 S60 x0 x1 (fun y0 => K .ret [(1, .dead), (2, .v U2 y0), (3, .dead)]) (fun y0 y1 => K .normal [(1, .loc U20 .no y0), (3, .v U2 y1)]) (fun y0 y1 => K (.exit 0) [(1, .loc U20 .no y0), (3, .v U2 y1)])) := by
  simp only [c41_19, exec_seq, seqK_normal, seqK_exit, seqK_ret, t41_8, c41_9, exec_out, exec_cond', hb41_2, Option.bind_some, brB_true, brB_false, exec_skip, exec_exit, kp41_4, c41_17, exec_block, t41_10 S59 h59, t41_11, c41_13, hb41_3, t41_12, exec_ret, kp41_5, kp41_6, t41_14 S60 h60, c41_16, hb41_4, t41_15, kp41_7, blockK_normal, blockK_ret, blockK_eq, kp41_8, kp41_9, t41_18]
  rfl
def l41_20 {R : Type} (S59 : V1 → Option (Int)) (S60 : V6 → V1 → Option (Bool)) (k0 : Int → Option R) (k1 : V19 → Int → Option R) : Nat → V19 → Int → Option R
  | 0, _, _ => none
  | m + 1, x0, x1 => (g41_19 S59 S60 x0 x1 k0 (fun y0 y1 => l41_20 S59 S60 k0 k1 m y0 y1) k1)
theorem lt41_20 {N cl} (S59) (S60) (h59 : (ctr59 S59).holds cl) (h60 : (ctr60 S60).holds cl) {R} (K : KE R) : ∀ (m) (x0 x1), iter [1, 3] (fun env K => exec cl N c41_19 env K) K m [(1, .loc U20 .no x0), (3, .v U2 x1)] = l41_20 S59 S60 (fun y0 => K .ret [(1, .dead), (2, .v U2 y0), (3, .dead)]) (fun y0 y1 => K (.exit 0) [(1, .loc U20 .no y0), (3, .v U2 y1)]) m x0 x1 := by
  intro m
  induction m with
  | zero => intros; rfl
  | succ m ih =>
    intro x0 x1
    simp only [iter_succ, t41_19 S59 S60 h59 h60, loopK_normal, loopK_exit, loopK_ret, kp41_3, ih]
    rfl
theorem kp41_10 (x0) : keep [2] [(1, .dead), (2, .v U2 x0), (3, .dead)] = [(2, .v U2 x0)] := by kernel_rfl
theorem kp41_11 (x0 x1) : keep [2] [(1, .loc U20 .no x0), (3, .v U2 x1)] = [(2, .dead)] := by kernel_rfl
def g41_20 {R : Type} (N : Nat) (S59 : V1 → Option (Int)) (S60 : V6 → V1 → Option (Bool)) (x0 : V19) (x1 : Int) (k0 : Int → Option R) (k1 : Option R) : Option R :=
l41_20 S59 S60 (fun y0 => k0 y0) (fun y0 y1 => k1) N x0 x1
theorem t41_20 {N cl} (S59) (S60) (h59 : (ctr59 S59).holds cl) (h60 : (ctr60 S60).holds cl) {R} (K : KE R) (x0 x1) : exec cl N c41_20 [(1, .loc U20 .no x0), (3, .v U2 x1)] K = (g41_20 N S59 S60 x0 x1 (fun y0 => K .ret [(2, .v U2 y0)]) (K (.exit 0) [(2, .dead)])) := by
  simp only [c41_20, exec_out, exec_loop, kp41_3, lt41_20 S59 S60 h59 h60, kp41_10, kp41_11]
  rfl
theorem kp41_12 (x0) : keep [2] [(2, .v U2 x0)] = [(2, .v U2 x0)] := by kernel_rfl
theorem kp41_13 : keep [2] [(2, .dead)] = [(2, .dead)] := by kernel_rfl
def g41_22 {R : Type} (k0 : Int → Option R) : Option R :=
k0 (0 : Int)
theorem t41_22 {N cl} {R} (K : KE R) : exec cl N c41_22 [(2, .dead)] K = (g41_22 (fun y0 => K .normal [(2, .v U2 y0)])) := by
  kernel_rfl
def g41_23 {R : Type} (N : Nat) (S59 : V1 → Option (Int)) (S60 : V6 → V1 → Option (Bool)) (x0 : V19) (k0 : Int → Option R) (k1 : Int → Option R) : Option R :=
(g41_0 x0 (fun y0 => (g41_1 y0 (fun y0 y1 => brB y1 (g41_2 y0 y1 (fun y0 => ((fun y0 => (k0 y0)) y0))) ((fun y0 => (g41_4 y0 (fun y0 y1 => brB y1 (g41_5 y0 y1 (fun y0 => ((fun y0 => (k0 y0)) y0))) ((fun y0 => (g41_7 y0 (fun y0 y1 => (g41_20 N S59 S60 y0 y1 (fun y0 => (k1 y0)) (g41_22 (fun y0 => (k1 y0))))))) y0)))) y0)))))
theorem t41_23 {N cl} (S59) (S60) (h59 : (ctr59 S59).holds cl) (h60 : (ctr60 S60).holds cl) {R} (K : KE R) (x0) : exec cl N c41_23 [(0, .v U20 x0)] K = (g41_23 N S59 S60 x0 (fun y0 => K .ret [(1, .dead), (2, .v U2 y0)]) (fun y0 => K .ret [(2, .v U2 y0)])) := by
  simp only [c41_23, exec_seq, seqK_normal, seqK_exit, seqK_ret, t41_0, t41_1, c41_3, exec_out, exec_cond', hb41_0, Option.bind_some, brB_true, brB_false, t41_2, exec_ret, exec_skip, kp41_0, kp41_1, t41_4, c41_6, hb41_1, t41_5, kp41_2, t41_7, c41_21, exec_block, t41_20 S59 S60 h59 h60, blockK_normal, blockK_ret, blockK_eq, kp41_12, kp41_13, t41_22]
  rfl
theorem rk41_0 (y0 : Int) : retK d41 .ret [(1, .dead), (2, .v U2 y0)] = some [.v U2 y0] := by kernel_rfl
theorem rk41_1 (y0 : Int) : retK d41 .ret [(2, .v U2 y0)] = some [.v U2 y0] := by kernel_rfl
def g41 {R : Type} (N : Nat) (S59 : V1 → Option (Int)) (S60 : V6 → V1 → Option (Bool)) (x0 : V19) (k : Int → Option R) : Option R :=
(g41_23 N S59 S60 x0 (fun y0 => k y0) (fun y0 => k y0))
theorem gen41 {N : Nat} {cl : Cal} (S59 : V1 → Option (Int)) (S60 : V6 → V1 → Option (Bool)) (h59 : (ctr59 S59).holds cl) (h60 : (ctr60 S60).holds cl) (x0 : V19) {R : Type} (k : List E → Option R) : exec cl N c41 (params 0 [.v U20 x0]) (fun e env => (retK d41 e env).bind k) = g41 N S59 S60 x0 (fun (r0 : Int) => k [.v U2 r0]) := by
  have e0 : params 0 [.v U20 x0] = [(0, .v U20 x0)] := by kernel_rfl
  simp only [c41, e0, t41_23 S59 S60 h59 h60, rk41_0, rk41_1, Option.bind_some]
  rfl
def ctr41 (S : V19 → Option (Int)) : Ctr := { A := V19 × Unit, B := Int, f := 41, enc := fun a => [.v U20 a.1], dec := (decC (decV U20) dec0), S := fun a => S a.1, ent := fun b => [.v U2 b], ok := (decV_cons (T := U20) (fun es b h => dec0_some h)) }
def S41 (N : Nat) (x0 : V19) : Option (Int) := g41 N (S59 N) (S60 N) x0 (fun (r0 : Int) => some (r0))
def g12_0 {R : Type} (x0 : V24) (k0 : V24 → Option R) : Option R :=
k0 x0
theorem t12_0 {N cl} {R} (K : KE R) (x0) : exec cl N c12_0 [(0, .v U26 x0)] K = (g12_0 x0 (fun y0 => K .normal [(1, .loc U26 .no y0)])) := by
  kernel_rfl
def g12_1 {R : Type} (S40 : V1 → Option (Bool)) (x0 : V24) (k0 : V24 → Bool → Option R) : Option R :=
(S40 x0.1).bind fun r600 =>
k0 x0 (!r600)
theorem t12_1 {N cl} (S40) (h40 : (ctr40 S40).holds cl) {R} (K : KE R) (x0) : exec cl N c12_1 [(1, .loc U26 .no x0)] K = (g12_1 S40 x0 (fun y0 y1 => K .normal [(1, .loc U26 .no y0), (8, .v .bool y1)])) := by
  rw [← put_eq h40]
  kernel_rfl
def g12_2 {R : Type} (x0 : V24) (x1 : Bool) (k0 : Int → Option R) : Option R :=
k0 (2 : Int)
theorem t12_2 {N cl} {R} (K : KE R) (x0 x1) : exec cl N c12_2 [(1, .loc U26 .no x0), (8, .v .bool x1)] K = (g12_2 x0 x1 (fun y0 => K .normal [(2, .v U2 y0)])) := by
  kernel_rfl
theorem kp12_0 (x0) : keep [1, 2] [(2, .v U2 x0)] = [(1, .dead), (2, .v U2 x0)] := by kernel_rfl
theorem kp12_1 (x0 x1) : keep [1, 2] [(1, .loc U26 .no x0), (8, .v .bool x1)] = [(1, .loc U26 .no x0), (2, .dead)] := by kernel_rfl
theorem hb12_0 (x0 : V24) (x1 : Bool) : boolOf? (ent [(1, .loc U26 .no x0), (8, .v .bool x1)] (.t 8)) = some x1 := by kernel_rfl
def g12_4 {R : Type} (x0 : V24) (k0 : V24 → Bool → Option R) : Option R :=
k0 x0 (decide ((x0.2.1.length : Int) > (30 : Int)))
theorem t12_4 {N cl} {R} (K : KE R) (x0) : exec cl N c12_4 [(1, .loc U26 .no x0), (2, .dead)] K = (g12_4 x0 (fun y0 y1 => K .normal [(1, .loc U26 .no y0), (12, .v .bool y1)])) := by
  kernel_rfl
def g12_5 {R : Type} (x0 : V24) (x1 : Bool) (k0 : Int → Option R) : Option R :=
k0 (3 : Int)
theorem t12_5 {N cl} {R} (K : KE R) (x0 x1) : exec cl N c12_5 [(1, .loc U26 .no x0), (12, .v .bool x1)] K = (g12_5 x0 x1 (fun y0 => K .normal [(2, .v U2 y0)])) := by
  kernel_rfl
theorem kp12_2 (x0 x1) : keep [1, 2] [(1, .loc U26 .no x0), (12, .v .bool x1)] = [(1, .loc U26 .no x0), (2, .dead)] := by kernel_rfl
theorem hb12_1 (x0 : V24) (x1 : Bool) : boolOf? (ent [(1, .loc U26 .no x0), (12, .v .bool x1)] (.t 12)) = some x1 := by kernel_rfl
def g12_7 {R : Type} (x0 : V24) (k0 : V24 → Int → Option R) : Option R :=
k0 x0 (0 : Int)
theorem t12_7 {N cl} {R} (K : KE R) (x0) : exec cl N c12_7 [(1, .loc U26 .no x0), (2, .dead)] K = (g12_7 x0 (fun y0 y1 => K .normal [(1, .loc U26 .no y0), (3, .v U2 y1)])) := by
  kernel_rfl
theorem kp12_3 (x0 x1) : keep [1, 3] [(1, .loc U26 .no x0), (3, .v U2 x1)] = [(1, .loc U26 .no x0), (3, .v U2 x1)] := by kernel_rfl
def g12_8 {R : Type} (x0 : V24) (x1 : Int) (k0 : V24 → Int → Bool → Option R) : Option R :=
k0 x0 x1 (decide (x1 < (x0.2.1.length : Int)))
theorem t12_8 {N cl} {R} (K : KE R) (x0 x1) : exec cl N c12_8 [(1, .loc U26 .no x0), (3, .v U2 x1)] K = (g12_8 x0 x1 (fun y0 y1 y2 => K .normal [(1, .loc U26 .no y0), (3, .v U2 y1), (17, .v .bool y2)])) := by
  kernel_rfl
theorem kp12_4 (x0 x1 x2) : keep [1, 3] [(1, .loc U26 .no x0), (3, .v U2 x1), (17, .v .bool x2)] = [(1, .loc U26 .no x0), (3, .v U2 x1)] := by kernel_rfl
theorem hb12_2 (x0 : V24) (x1 : Int) (x2 : Bool) : boolOf? (ent [(1, .loc U26 .no x0), (3, .v U2 x1), (17, .v .bool x2)] (.t 17)) = some x2 := by kernel_rfl
def g12_10 {R : Type} (S41 : V19 → Option (Int)) (x0 : V24) (x1 : Int) (k0 : V24 → Int → Int → Option R) : Option R :=
if 0 ≤ x1 ∧ x1 < (x0.2.1.length : Int) then
(S41 (x0.2.1.getD x1.toNat ((0 : Int), ((0 : Int), ([], ()))))).bind fun r603 =>
k0 x0 x1 r603
else none
theorem t12_10 {N cl} (S41) (h41 : (ctr41 S41).holds cl) {R} (K : KE R) (x0 x1) : exec cl N c12_10 [(1, .loc U26 .no x0), (3, .v U2 x1)] K = (g12_10 S41 x0 x1 (fun y0 y1 y2 => K .normal [(1, .loc U26 .no y0), (3, .v U2 y1), (4, .v U2 y2)])) := by
  rw [← put_eq h41]
  kernel_rfl
def g12_11 {R : Type} (x0 : V24) (x1 : Int) (x2 : Int) (k0 : V24 → Int → Int → Bool → Option R) : Option R :=
k0 x0 x1 x2 (x2 != (0 : Int))
theorem t12_11 {N cl} {R} (K : KE R) (x0 x1 x2) : exec cl N c12_11 [(1, .loc U26 .no x0), (3, .v U2 x1), (4, .v U2 x2)] K = (g12_11 x0 x1 x2 (fun y0 y1 y2 y3 => K .normal [(1, .loc U26 .no y0), (3, .v U2 y1), (4, .v U2 y2), (27, .v .bool y3)])) := by
  kernel_rfl
def g12_12 {R : Type} (x0 : V24) (x1 : Int) (x2 : Int) (x3 : Bool) (k0 : Int → Option R) : Option R :=
k0 x2
theorem t12_12 {N cl} {R} (K : KE R) (x0 x1 x2 x3) : exec cl N c12_12 [(1, .loc U26 .no x0), (3, .v U2 x1), (4, .v U2 x2), (27, .v .bool x3)] K = (g12_12 x0 x1 x2 x3 (fun y0 => K .normal [(2, .v U2 y0)])) := by
  kernel_rfl
theorem kp12_5 (x0) : keep [1, 2, 3] [(2, .v U2 x0)] = [(1, .dead), (2, .v U2 x0), (3, .dead)] := by kernel_rfl
theorem kp12_6 (x0 x1 x2 x3) : keep [1, 2, 3] [(1, .loc U26 .no x0), (3, .v U2 x1), (4, .v U2 x2), (27, .v .bool x3)] = [(1, .loc U26 .no x0), (2, .dead), (3, .v U2 x1)] := by kernel_rfl
theorem hb12_3 (x0 : V24) (x1 : Int) (x2 : Int) (x3 : Bool) : boolOf? (ent [(1, .loc U26 .no x0), (3, .v U2 x1), (4, .v U2 x2), (27, .v .bool x3)] (.t 27)) = some x3 := by kernel_rfl
theorem kp12_7 (x0) : keep [1, 2, 3] [(1, .dead), (2, .v U2 x0), (3, .dead)] = [(1, .dead), (2, .v U2 x0), (3, .dead)] := by kernel_rfl
theorem kp12_8 (x0 x1) : keep [1, 2, 3] [(1, .loc U26 .no x0), (2, .dead), (3, .v U2 x1)] = [(1, .loc U26 .no x0), (2, .dead), (3, .v U2 x1)] := by kernel_rfl
def g12_15 {R : Type} (x0 : V24) (x1 : Int) (k0 : V24 → Int → Option R) : Option R :=
k0 x0 (IntKind.i64.wrap (x1 + (1 : Int)))
theorem t12_15 {N cl} {R} (K : KE R) (x0 x1) : exec cl N c12_15 [(1, .loc U26 .no x0), (2, .dead), (3, .v U2 x1)] K = (g12_15 x0 x1 (fun y0 y1 => K .normal [(1, .loc U26 .no y0), (3, .v U2 y1)])) := by
  kernel_rfl
def g12_16 {R : Type} (S41 : V19 → Option (Int)) (x0 : V24) (x1 : Int) (k0 : Int → Option R) (k1 : V24 → Int → Option R) (k2 : V24 → Int → Option R) : Option R :=
(g12_8 x0 x1 (fun y0 y1 y2 => brB y2 ((fun y0 y1 => (g12_10 S41 y0 y1 (fun y0 y1 y2 => (g12_11 y0 y1 y2 (fun y0 y1 y2 y3 => brB y3 (g12_12 y0 y1 y2 y3 (fun y0 => ((fun y0 => (k0 y0)) y0))) (g12_15 y0 y1 k1)))))) y0 y1) (k2 y0 y1)))
theorem t12_16 {N cl} (S41) (h41 : (ctr41 S41).holds cl) {R} (K : KE R) (x0 x1) : exec cl N c12_16 [(1, .loc U26 .no x0), (3, .v U2 x1)] K = (g12_16 S41 x0 x1 (fun y0 => K .ret [(1, .dead), (2, .v U2 y0), (3, .dead)]) (fun y0 y1 => K .normal [(1, .loc U26 .no y0), (3, .v U2 y1)]) (fun y0 y1 => K (.exit 0) [(1, .loc U26 .no y0), (3, .v U2 y1)])) := by
  simp only [c12_16, exec_seq, seqK_normal, seqK_exit, seqK_ret, t12_8, c12_9, exec_out, exec_cond', hb12_2, Option.bind_some, brB_true, brB_false, exec_skip, exec_exit, kp12_4, c12_14, exec_block, t12_10 S41 h41, t12_11, c12_13, hb12_3, t12_12, exec_ret, kp12_5, kp12_6, blockK_normal, blockK_ret, blockK_eq, kp12_7, kp12_8, t12_15]
  rfl
def l12_17 {R : Type} (S41 : V19 → Option (Int)) (k0 : Int → Option R) (k1 : V24 → Int → Option R) : Nat → V24 → Int → Option R
  | 0, _, _ => none
  | m + 1, x0, x1 => (g12_16 S41 x0 x1 k0 (fun y0 y1 => l12_17 S41 k0 k1 m y0 y1) k1)
theorem lt12_17 {N cl} (S41) (h41 : (ctr41 S41).holds cl) {R} (K : KE R) : ∀ (m) (x0 x1), iter [1, 3] (fun env K => exec cl N c12_16 env K) K m [(1, .loc U26 .no x0), (3, .v U2 x1)] = l12_17 S41 (fun y0 => K .ret [(1, .dead), (2, .v U2 y0), (3, .dead)]) (fun y0 y1 => K (.exit 0) [(1, .loc U26 .no y0), (3, .v U2 y1)]) m x0 x1 := by
  intro m
  induction m with
  | zero => intros; rfl
  | succ m ih =>
    intro x0 x1
    simp only [iter_succ, t12_16 S41 h41, loopK_normal, loopK_exit, loopK_ret, kp12_3, ih]
    rfl
theorem kp12_9 (x0) : keep [2] [(1, .dead), (2, .v U2 x0), (3, .dead)] = [(2, .v U2 x0)] := by kernel_rfl
theorem kp12_10 (x0 x1) : keep [2] [(1, .loc U26 .no x0), (3, .v U2 x1)] = [(2, .dead)] := by kernel_rfl
def g12_17 {R : Type} (N : Nat) (S41 : V19 → Option (Int)) (x0 : V24) (x1 : Int) (k0 : Int → Option R) (k1 : Option R) : Option R :=
l12_17 S41 (fun y0 => k0 y0) (fun y0 y1 => k1) N x0 x1
theorem t12_17 {N cl} (S41) (h41 : (ctr41 S41).holds cl) {R} (K : KE R) (x0 x1) : exec cl N c12_17 [(1, .loc U26 .no x0), (3, .v U2 x1)] K = (g12_17 N S41 x0 x1 (fun y0 => K .ret [(2, .v U2 y0)]) (K (.exit 0) [(2, .dead)])) := by
  simp only [c12_17, exec_out, exec_loop, kp12_3, lt12_17 S41 h41, kp12_10, kp12_9]
  rfl
theorem kp12_11 (x0) : keep [2] [(2, .v U2 x0)] = [(2, .v U2 x0)] := by kernel_rfl
theorem kp12_12 : keep [2] [(2, .dead)] = [(2, .dead)] := by kernel_rfl
def g12_19 {R : Type} (k0 : Int → Option R) : Option R :=
k0 (0 : Int)
theorem t12_19 {N cl} {R} (K : KE R) : exec cl N c12_19 [(2, .dead)] K = (g12_19 (fun y0 => K .normal [(2, .v U2 y0)])) := by
  kernel_rfl
def g12_20 {R : Type} (N : Nat) (S40 : V1 → Option (Bool)) (S41 : V19 → Option (Int)) (x0 : V24) (k0 : Int → Option R) (k1 : Int → Option R) : Option R :=
(g12_0 x0 (fun y0 => (g12_1 S40 y0 (fun y0 y1 => brB y1 (g12_2 y0 y1 (fun y0 => ((fun y0 => (k0 y0)) y0))) ((fun y0 => (g12_4 y0 (fun y0 y1 => brB y1 (g12_5 y0 y1 (fun y0 => ((fun y0 => (k0 y0)) y0))) ((fun y0 => (g12_7 y0 (fun y0 y1 => (g12_17 N S41 y0 y1 (fun y0 => (k1 y0)) (g12_19 (fun y0 => (k1 y0))))))) y0)))) y0)))))
theorem t12_20 {N cl} (S40) (S41) (h40 : (ctr40 S40).holds cl) (h41 : (ctr41 S41).holds cl) {R} (K : KE R) (x0) : exec cl N c12_20 [(0, .v U26 x0)] K = (g12_20 N S40 S41 x0 (fun y0 => K .ret [(1, .dead), (2, .v U2 y0)]) (fun y0 => K .ret [(2, .v U2 y0)])) := by
  simp only [c12_20, exec_seq, seqK_normal, seqK_exit, seqK_ret, t12_0, t12_1 S40 h40, c12_3, exec_out, exec_cond', hb12_0, Option.bind_some, brB_true, brB_false, t12_2, exec_ret, exec_skip, kp12_0, kp12_1, t12_4, c12_6, hb12_1, t12_5, kp12_2, t12_7, c12_18, exec_block, t12_17 S41 h41, blockK_normal, blockK_ret, blockK_eq, kp12_11, kp12_12, t12_19]
  rfl
theorem rk12_0 (y0 : Int) : retK d12 .ret [(1, .dead), (2, .v U2 y0)] = some [.v U2 y0] := by kernel_rfl
theorem rk12_1 (y0 : Int) : retK d12 .ret [(2, .v U2 y0)] = some [.v U2 y0] := by kernel_rfl
def g12 {R : Type} (N : Nat) (S40 : V1 → Option (Bool)) (S41 : V19 → Option (Int)) (x0 : V24) (k : Int → Option R) : Option R :=
(g12_20 N S40 S41 x0 (fun y0 => k y0) (fun y0 => k y0))
theorem gen12 {N : Nat} {cl : Cal} (S40 : V1 → Option (Bool)) (S41 : V19 → Option (Int)) (h40 : (ctr40 S40).holds cl) (h41 : (ctr41 S41).holds cl) (x0 : V24) {R : Type} (k : List E → Option R) : exec cl N c12 (params 0 [.v U26 x0]) (fun e env => (retK d12 e env).bind k) = g12 N S40 S41 x0 (fun (r0 : Int) => k [.v U2 r0]) := by
  have e0 : params 0 [.v U26 x0] = [(0, .v U26 x0)] := by kernel_rfl
  simp only [c12, e0, t12_20 S40 S41 h40 h41, rk12_0, rk12_1, Option.bind_some]
  rfl
def ctr12 (S : V24 → Option (Int)) : Ctr := { A := V24 × Unit, B := Int, f := 12, enc := fun a => [.v U26 a.1], dec := (decC (decV U26) dec0), S := fun a => S a.1, ent := fun b => [.v U2 b], ok := (decV_cons (T := U26) (fun es b h => dec0_some h)) }
def S12 (N : Nat) (x0 : V24) : Option (Int) := g12 N (S40 N) (S41 N) x0 (fun (r0 : Int) => some (r0))
def g15_0 {R : Type} (x0 : V10) (x1 : V10) (k0 : V10 → V10 → Option R) : Option R :=
k0 x0 x1
theorem t15_0 {N cl} {R} (K : KE R) (x0 x1) : exec cl N c15_0 [(0, .v U17 x0), (1, .v U17 x1)] K = (g15_0 x0 x1 (fun y0 y1 => K .normal [(0, .v U17 y0), (1, .v U17 y1)])) := by
  kernel_rfl
def g15_1 {R : Type} (x0 : V10) (x1 : V10) (k0 : V10 → V10 → Bool → Option R) : Option R :=
k0 x0 x1 ((x0.length : Int) != (x1.length : Int))
theorem t15_1 {N cl} {R} (K : KE R) (x0 x1) : exec cl N c15_1 [(0, .v U17 x0), (1, .v U17 x1)] K = (g15_1 x0 x1 (fun y0 y1 y2 => K .normal [(0, .v U17 y0), (1, .v U17 y1), (10, .v .bool y2)])) := by
  kernel_rfl
def g15_2 {R : Type} (x0 : V10) (x1 : V10) (x2 : Bool) (k0 : Bool → Option R) : Option R :=
k0 false
theorem t15_2 {N cl} {R} (K : KE R) (x0 x1 x2) : exec cl N c15_2 [(0, .v U17 x0), (1, .v U17 x1), (10, .v .bool x2)] K = (g15_2 x0 x1 x2 (fun y0 => K .normal [(4, .v .bool y0)])) := by
  kernel_rfl
theorem kp15_0 (x0) : keep [0, 1, 4] [(4, .v .bool x0)] = [(0, .dead), (1, .dead), (4, .v .bool x0)] := by kernel_rfl
theorem kp15_1 (x0 x1 x2) : keep [0, 1, 4] [(0, .v U17 x0), (1, .v U17 x1), (10, .v .bool x2)] = [(0, .v U17 x0), (1, .v U17 x1), (4, .dead)] := by kernel_rfl
theorem hb15_0 (x0 : V10) (x1 : V10) (x2 : Bool) : boolOf? (ent [(0, .v U17 x0), (1, .v U17 x1), (10, .v .bool x2)] (.t 10)) = some x2 := by kernel_rfl
def g15_4 {R : Type} (x0 : V10) (x1 : V10) (k0 : V10 → V10 → Int → Option R) : Option R :=
k0 x0 x1 (0 : Int)
theorem t15_4 {N cl} {R} (K : KE R) (x0 x1) : exec cl N c15_4 [(0, .v U17 x0), (1, .v U17 x1), (4, .dead)] K = (g15_4 x0 x1 (fun y0 y1 y2 => K .normal [(0, .v U17 y0), (1, .v U17 y1), (5, .v U2 y2)])) := by
  kernel_rfl
theorem kp15_2 (x0 x1 x2) : keep [0, 1, 5] [(0, .v U17 x0), (1, .v U17 x1), (5, .v U2 x2)] = [(0, .v U17 x0), (1, .v U17 x1), (5, .v U2 x2)] := by kernel_rfl
def g15_5 {R : Type} (x0 : V10) (x1 : V10) (x2 : Int) (k0 : V10 → V10 → Int → Bool → Option R) : Option R :=
k0 x0 x1 x2 (decide (x2 < (x0.length : Int)))
theorem t15_5 {N cl} {R} (K : KE R) (x0 x1 x2) : exec cl N c15_5 [(0, .v U17 x0), (1, .v U17 x1), (5, .v U2 x2)] K = (g15_5 x0 x1 x2 (fun y0 y1 y2 y3 => K .normal [(0, .v U17 y0), (1, .v U17 y1), (5, .v U2 y2), (14, .v .bool y3)])) := by
  kernel_rfl
theorem kp15_3 (x0 x1 x2 x3) : keep [0, 1, 5] [(0, .v U17 x0), (1, .v U17 x1), (5, .v U2 x2), (14, .v .bool x3)] = [(0, .v U17 x0), (1, .v U17 x1), (5, .v U2 x2)] := by kernel_rfl
theorem hb15_1 (x0 : V10) (x1 : V10) (x2 : Int) (x3 : Bool) : boolOf? (ent [(0, .v U17 x0), (1, .v U17 x1), (5, .v U2 x2), (14, .v .bool x3)] (.t 14)) = some x3 := by kernel_rfl
def g15_7 {R : Type} (x0 : V10) (x1 : V10) (x2 : Int) (k0 : V10 → V10 → Int → Bool → Option R) : Option R :=
if 0 ≤ x2 ∧ x2 < (x0.length : Int) then
if 0 ≤ x2 ∧ x2 < (x1.length : Int) then
k0 x0 x1 x2 (!(((x0.getD x2.toNat ((0 : Int), ((0 : Int), ()))).1 == (x1.getD x2.toNat ((0 : Int), ((0 : Int), ()))).1) && (((x0.getD x2.toNat ((0 : Int), ((0 : Int), ()))).2.1 == (x1.getD x2.toNat ((0 : Int), ((0 : Int), ()))).2.1) && true)))
else none
else none
theorem t15_7 {N cl} {R} (K : KE R) (x0 x1 x2) : exec cl N c15_7 [(0, .v U17 x0), (1, .v U17 x1), (5, .v U2 x2)] K = (g15_7 x0 x1 x2 (fun y0 y1 y2 y3 => K .normal [(0, .v U17 y0), (1, .v U17 y1), (5, .v U2 y2), (25, .v .bool y3)])) := by
  kernel_rfl
def g15_8 {R : Type} (x0 : V10) (x1 : V10) (x2 : Int) (x3 : Bool) (k0 : Bool → Option R) : Option R :=
k0 false
theorem t15_8 {N cl} {R} (K : KE R) (x0 x1 x2 x3) : exec cl N c15_8 [(0, .v U17 x0), (1, .v U17 x1), (5, .v U2 x2), (25, .v .bool x3)] K = (g15_8 x0 x1 x2 x3 (fun y0 => K .normal [(4, .v .bool y0)])) := by
  kernel_rfl
theorem kp15_4 (x0) : keep [0, 1, 4, 5] [(4, .v .bool x0)] = [(0, .dead), (1, .dead), (4, .v .bool x0), (5, .dead)] := by kernel_rfl
theorem kp15_5 (x0 x1 x2 x3) : keep [0, 1, 4, 5] [(0, .v U17 x0), (1, .v U17 x1), (5, .v U2 x2), (25, .v .bool x3)] = [(0, .v U17 x0), (1, .v U17 x1), (4, .dead), (5, .v U2 x2)] := by kernel_rfl
theorem hb15_2 (x0 : V10) (x1 : V10) (x2 : Int) (x3 : Bool) : boolOf? (ent [(0, .v U17 x0), (1, .v U17 x1), (5, .v U2 x2), (25, .v .bool x3)] (.t 25)) = some x3 := by kernel_rfl
theorem kp15_6 (x0) : keep [0, 1, 4, 5] [(0, .dead), (1, .dead), (4, .v .bool x0), (5, .dead)] = [(0, .dead), (1, .dead), (4, .v .bool x0), (5, .dead)] := by kernel_rfl
theorem kp15_7 (x0 x1 x2) : keep [0, 1, 4, 5] [(0, .v U17 x0), (1, .v U17 x1), (4, .dead), (5, .v U2 x2)] = [(0, .v U17 x0), (1, .v U17 x1), (4, .dead), (5, .v U2 x2)] := by kernel_rfl
def g15_11 {R : Type} (x0 : V10) (x1 : V10) (x2 : Int) (k0 : V10 → V10 → Int → Option R) : Option R :=
k0 x0 x1 (IntKind.i64.wrap (x2 + (1 : Int)))
theorem t15_11 {N cl} {R} (K : KE R) (x0 x1 x2) : exec cl N c15_11 [(0, .v U17 x0), (1, .v U17 x1), (4, .dead), (5, .v U2 x2)] K = (g15_11 x0 x1 x2 (fun y0 y1 y2 => K .normal [(0, .v U17 y0), (1, .v U17 y1), (5, .v U2 y2)])) := by
  kernel_rfl
def g15_12 {R : Type} (x0 : V10) (x1 : V10) (x2 : Int) (k0 : Bool → Option R) (k1 : V10 → V10 → Int → Option R) (k2 : V10 → V10 → Int → Option R) : Option R :=
(g15_5 x0 x1 x2 (fun y0 y1 y2 y3 => brB y3 ((fun y0 y1 y2 => (g15_7 y0 y1 y2 (fun y0 y1 y2 y3 => brB y3 (g15_8 y0 y1 y2 y3 (fun y0 => ((fun y0 => (k0 y0)) y0))) (g15_11 y0 y1 y2 k1)))) y0 y1 y2) (k2 y0 y1 y2)))
theorem t15_12 {N cl} {R} (K : KE R) (x0 x1 x2) : exec cl N c15_12 [(0, .v U17 x0), (1, .v U17 x1), (5, .v U2 x2)] K = (g15_12 x0 x1 x2 (fun y0 => K .ret [(0, .dead), (1, .dead), (4, .v .bool y0), (5, .dead)]) (fun y0 y1 y2 => K .normal [(0, .v U17 y0), (1, .v U17 y1), (5, .v U2 y2)]) (fun y0 y1 y2 => K (.exit 0) [(0, .v U17 y0), (1, .v U17 y1), (5, .v U2 y2)])) := by
  simp only [c15_12, exec_seq, seqK_normal, seqK_exit, seqK_ret, t15_5, c15_6, exec_out, exec_cond', hb15_1, Option.bind_some, brB_true, brB_false, exec_skip, exec_exit, kp15_3, c15_10, exec_block, t15_7, c15_9, hb15_2, t15_8, exec_ret, kp15_4, kp15_5, blockK_normal, blockK_ret, blockK_eq, kp15_6, kp15_7, t15_11]
  rfl
def l15_13 {R : Type} (k0 : Bool → Option R) (k1 : V10 → V10 → Int → Option R) : Nat → V10 → V10 → Int → Option R
  | 0, _, _, _ => none
  | m + 1, x0, x1, x2 => (g15_12 x0 x1 x2 k0 (fun y0 y1 y2 => l15_13 k0 k1 m y0 y1 y2) k1)
theorem lt15_13 {N cl} {R} (K : KE R) : ∀ (m) (x0 x1 x2), iter [0, 1, 5] (fun env K => exec cl N c15_12 env K) K m [(0, .v U17 x0), (1, .v U17 x1), (5, .v U2 x2)] = l15_13 (fun y0 => K .ret [(0, .dead), (1, .dead), (4, .v .bool y0), (5, .dead)]) (fun y0 y1 y2 => K (.exit 0) [(0, .v U17 y0), (1, .v U17 y1), (5, .v U2 y2)]) m x0 x1 x2 := by
  intro m
  induction m with
  | zero => intros; rfl
  | succ m ih =>
    intro x0 x1 x2
    simp only [iter_succ, t15_12, loopK_normal, loopK_exit, loopK_ret, kp15_2, ih]
    rfl
theorem kp15_8 (x0) : keep [4] [(0, .dead), (1, .dead), (4, .v .bool x0), (5, .dead)] = [(4, .v .bool x0)] := by kernel_rfl
theorem kp15_9 (x0 x1 x2) : keep [4] [(0, .v U17 x0), (1, .v U17 x1), (5, .v U2 x2)] = [(4, .dead)] := by kernel_rfl
def g15_13 {R : Type} (N : Nat) (x0 : V10) (x1 : V10) (x2 : Int) (k0 : Bool → Option R) (k1 : Option R) : Option R :=
l15_13 (fun y0 => k0 y0) (fun y0 y1 y2 => k1) N x0 x1 x2
theorem t15_13 {N cl} {R} (K : KE R) (x0 x1 x2) : exec cl N c15_13 [(0, .v U17 x0), (1, .v U17 x1), (5, .v U2 x2)] K = (g15_13 N x0 x1 x2 (fun y0 => K .ret [(4, .v .bool y0)]) (K (.exit 0) [(4, .dead)])) := by
  simp only [c15_13, exec_out, exec_loop, kp15_2, lt15_13, kp15_8, kp15_9]
  rfl
theorem kp15_10 (x0) : keep [4] [(4, .v .bool x0)] = [(4, .v .bool x0)] := by kernel_rfl
theorem kp15_11 : keep [4] [(4, .dead)] = [(4, .dead)] := by kernel_rfl
def g15_15 {R : Type} (k0 : Bool → Option R) : Option R :=
k0 true
theorem t15_15 {N cl} {R} (K : KE R) : exec cl N c15_15 [(4, .dead)] K = (g15_15 (fun y0 => K .normal [(4, .v .bool y0)])) := by
  kernel_rfl
def g15_16 {R : Type} (N : Nat) (x0 : V10) (x1 : V10) (k0 : Bool → Option R) (k1 : Bool → Option R) : Option R :=
(g15_0 x0 x1 (fun y0 y1 => (g15_1 y0 y1 (fun y0 y1 y2 => brB y2 (g15_2 y0 y1 y2 (fun y0 => ((fun y0 => (k0 y0)) y0))) ((fun y0 y1 => (g15_4 y0 y1 (fun y0 y1 y2 => (g15_13 N y0 y1 y2 (fun y0 => (k1 y0)) (g15_15 (fun y0 => (k1 y0))))))) y0 y1)))))
theorem t15_16 {N cl} {R} (K : KE R) (x0 x1) : exec cl N c15_16 [(0, .v U17 x0), (1, .v U17 x1)] K = (g15_16 N x0 x1 (fun y0 => K .ret [(0, .dead), (1, .dead), (4, .v .bool y0)]) (fun y0 => K .ret [(4, .v .bool y0)])) := by
  simp only [c15_16, exec_seq, seqK_normal, seqK_exit, seqK_ret, t15_0, t15_1, c15_3, exec_out, exec_cond', hb15_0, Option.bind_some, brB_true, brB_false, t15_2, exec_ret, exec_skip, kp15_0, kp15_1, t15_4, c15_14, exec_block, t15_13, blockK_normal, blockK_ret, blockK_eq, kp15_10, kp15_11, t15_15]
  rfl
theorem rk15_0 (y0 : Bool) : retK d15 .ret [(0, .dead), (1, .dead), (4, .v .bool y0)] = some [.v .bool y0] := by kernel_rfl
theorem rk15_1 (y0 : Bool) : retK d15 .ret [(4, .v .bool y0)] = some [.v .bool y0] := by kernel_rfl
def g15 {R : Type} (N : Nat) (x0 : V10) (x1 : V10) (k : Bool → Option R) : Option R :=
(g15_16 N x0 x1 (fun y0 => k y0) (fun y0 => k y0))
theorem gen15 {N : Nat} {cl : Cal} (x0 : V10) (x1 : V10) {R : Type} (k : List E → Option R) : exec cl N c15 (params 0 [.v U17 x0, .v U17 x1]) (fun e env => (retK d15 e env).bind k) = g15 N x0 x1 (fun (r0 : Bool) => k [.v .bool r0]) := by
  have e0 : params 0 [.v U17 x0, .v U17 x1] = [(0, .v U17 x0), (1, .v U17 x1)] := by kernel_rfl
  simp only [c15, e0, t15_16, rk15_0, rk15_1, Option.bind_some]
  rfl
def ctr15 (S : V10 → V10 → Option (Bool)) : Ctr := { A := V10 × V10 × Unit, B := Bool, f := 15, enc := fun a => [.v U17 a.1, .v U17 a.2.1], dec := (decC (decV U17) (decC (decV U17) dec0)), S := fun a => S a.1 a.2.1, ent := fun b => [.v .bool b], ok := (decV_cons (T := U17) (decV_cons (T := U17) (fun es b h => dec0_some h))) }
def S15 (N : Nat) (x0 : V10) (x1 : V10) : Option (Bool) := g15 N x0 x1 (fun (r0 : Bool) => some (r0))
def g80_0 {R : Type} (x0 : V0) (x1 : Int) (k0 : V0 → Int → Option R) : Option R :=
k0 x0 x1
theorem t80_0 {N cl} {R} (K : KE R) (x0 x1) : exec cl N c80_0 [(0, .v U5 x0), (1, .v U2 x1)] K = (g80_0 x0 x1 (fun y0 y1 => K .normal [(0, .v U5 y0), (1, .v U2 y1)])) := by
  kernel_rfl
def g80_1 {R : Type} (x0 : V0) (x1 : Int) (k0 : V0 → Int → Int → Int → Option R) : Option R :=
k0 x0 x1 (x0.length : Int) (0 : Int)
theorem t80_1 {N cl} {R} (K : KE R) (x0 x1) : exec cl N c80_1 [(0, .v U5 x0), (1, .v U2 x1)] K = (g80_1 x0 x1 (fun y0 y1 y2 y3 => K .normal [(0, .v U5 y0), (1, .v U2 y1), (7, .v U2 y2), (8, .v U2 y3)])) := by
  kernel_rfl
theorem kp80_0 (x0 x1 x2 x3) : keep [0, 1, 7, 8] [(0, .v U5 x0), (1, .v U2 x1), (7, .v U2 x2), (8, .v U2 x3)] = [(0, .v U5 x0), (1, .v U2 x1), (7, .v U2 x2), (8, .v U2 x3)] := by kernel_rfl
def g80_2 {R : Type} (x0 : V0) (x1 : Int) (x2 : Int) (x3 : Int) (k0 : V0 → Int → Int → Int → Bool → Option R) : Option R :=
k0 x0 x1 x2 x3 (decide (x3 < x2))
theorem t80_2 {N cl} {R} (K : KE R) (x0 x1 x2 x3) : exec cl N c80_2 [(0, .v U5 x0), (1, .v U2 x1), (7, .v U2 x2), (8, .v U2 x3)] K = (g80_2 x0 x1 x2 x3 (fun y0 y1 y2 y3 y4 => K .normal [(0, .v U5 y0), (1, .v U2 y1), (7, .v U2 y2), (8, .v U2 y3), (9, .v .bool y4)])) := by
  kernel_rfl
theorem kp80_1 (x0 x1 x2 x3 x4) : keep [0, 1, 7, 8] [(0, .v U5 x0), (1, .v U2 x1), (7, .v U2 x2), (8, .v U2 x3), (9, .v .bool x4)] = [(0, .v U5 x0), (1, .v U2 x1), (7, .v U2 x2), (8, .v U2 x3)] := by kernel_rfl
theorem hb80_0 (x0 : V0) (x1 : Int) (x2 : Int) (x3 : Int) (x4 : Bool) : boolOf? (ent [(0, .v U5 x0), (1, .v U2 x1), (7, .v U2 x2), (8, .v U2 x3), (9, .v .bool x4)] (.t 9)) = some x4 := by kernel_rfl
def g80_4 {R : Type} (x0 : V0) (x1 : Int) (x2 : Int) (x3 : Int) (k0 : V0 → Int → Int → Int → Int → Option R) : Option R :=
k0 x0 x1 x3 x2 x3
theorem t80_4 {N cl} {R} (K : KE R) (x0 x1 x2 x3) : exec cl N c80_4 [(0, .v U5 x0), (1, .v U2 x1), (7, .v U2 x2), (8, .v U2 x3)] K = (g80_4 x0 x1 x2 x3 (fun y0 y1 y2 y3 y4 => K .normal [(0, .v U5 y0), (1, .v U2 y1), (5, .v U2 y2), (7, .v U2 y3), (8, .v U2 y4)])) := by
  kernel_rfl
def g80_5 {R : Type} (x0 : V0) (x1 : Int) (x2 : Int) (x3 : Int) (x4 : Int) (k0 : V0 → Int → Int → Int → Int → Bool → Option R) : Option R :=
if 0 ≤ x2 ∧ x2 < (x0.length : Int) then
k0 x0 x1 x2 x3 x4 (x1 == (x0.getD x2.toNat (0 : Int)))
else none
theorem t80_5 {N cl} {R} (K : KE R) (x0 x1 x2 x3 x4) : exec cl N c80_5 [(0, .v U5 x0), (1, .v U2 x1), (5, .v U2 x2), (7, .v U2 x3), (8, .v U2 x4)] K = (g80_5 x0 x1 x2 x3 x4 (fun y0 y1 y2 y3 y4 y5 => K .normal [(0, .v U5 y0), (1, .v U2 y1), (5, .v U2 y2), (7, .v U2 y3), (8, .v U2 y4), (16, .v .bool y5)])) := by
  kernel_rfl
def g80_6 {R : Type} (x0 : V0) (x1 : Int) (x2 : Int) (x3 : Int) (x4 : Int) (x5 : Bool) (k0 : Int → Option R) : Option R :=
k0 x2
theorem t80_6 {N cl} {R} (K : KE R) (x0 x1 x2 x3 x4 x5) : exec cl N c80_6 [(0, .v U5 x0), (1, .v U2 x1), (5, .v U2 x2), (7, .v U2 x3), (8, .v U2 x4), (16, .v .bool x5)] K = (g80_6 x0 x1 x2 x3 x4 x5 (fun y0 => K .normal [(4, .v U2 y0)])) := by
  kernel_rfl
theorem kp80_2 (x0) : keep [0, 1, 4, 7, 8] [(4, .v U2 x0)] = [(0, .dead), (1, .dead), (4, .v U2 x0), (7, .dead), (8, .dead)] := by kernel_rfl
theorem kp80_3 (x0 x1 x2 x3 x4 x5) : keep [0, 1, 4, 7, 8] [(0, .v U5 x0), (1, .v U2 x1), (5, .v U2 x2), (7, .v U2 x3), (8, .v U2 x4), (16, .v .bool x5)] = [(0, .v U5 x0), (1, .v U2 x1), (4, .dead), (7, .v U2 x3), (8, .v U2 x4)] := by kernel_rfl
theorem hb80_1 (x0 : V0) (x1 : Int) (x2 : Int) (x3 : Int) (x4 : Int) (x5 : Bool) : boolOf? (ent [(0, .v U5 x0), (1, .v U2 x1), (5, .v U2 x2), (7, .v U2 x3), (8, .v U2 x4), (16, .v .bool x5)] (.t 16)) = some x5 := by kernel_rfl
theorem kp80_4 (x0) : keep [0, 1, 4, 7, 8] [(0, .dead), (1, .dead), (4, .v U2 x0), (7, .dead), (8, .dead)] = [(0, .dead), (1, .dead), (4, .v U2 x0), (7, .dead), (8, .dead)] := by kernel_rfl
theorem kp80_5 (x0 x1 x2 x3) : keep [0, 1, 4, 7, 8] [(0, .v U5 x0), (1, .v U2 x1), (4, .dead), (7, .v U2 x2), (8, .v U2 x3)] = [(0, .v U5 x0), (1, .v U2 x1), (4, .dead), (7, .v U2 x2), (8, .v U2 x3)] := by kernel_rfl
def g80_9 {R : Type} (x0 : V0) (x1 : Int) (x2 : Int) (x3 : Int) (k0 : V0 → Int → Int → Int → Option R) : Option R :=
k0 x0 x1 x2 (IntKind.i64.wrap (x3 + (1 : Int)))
theorem t80_9 {N cl} {R} (K : KE R) (x0 x1 x2 x3) : exec cl N c80_9 [(0, .v U5 x0), (1, .v U2 x1), (4, .dead), (7, .v U2 x2), (8, .v U2 x3)] K = (g80_9 x0 x1 x2 x3 (fun y0 y1 y2 y3 => K .normal [(0, .v U5 y0), (1, .v U2 y1), (7, .v U2 y2), (8, .v U2 y3)])) := by
  kernel_rfl
def g80_10 {R : Type} (x0 : V0) (x1 : Int) (x2 : Int) (x3 : Int) (k0 : Int → Option R) (k1 : V0 → Int → Int → Int → Option R) (k2 : V0 → Int → Int → Int → Option R) : Option R :=
(g80_2 x0 x1 x2 x3 (fun y0 y1 y2 y3 y4 => brB y4 ((fun y0 y1 y2 y3 => (g80_4 y0 y1 y2 y3 (fun y0 y1 y2 y3 y4 => (g80_5 y0 y1 y2 y3 y4 (fun y0 y1 y2 y3 y4 y5 => brB y5 (g80_6 y0 y1 y2 y3 y4 y5 (fun y0 => ((fun y0 => (k0 y0)) y0))) (g80_9 y0 y1 y3 y4 k1)))))) y0 y1 y2 y3) (k2 y0 y1 y2 y3)))
theorem t80_10 {N cl} {R} (K : KE R) (x0 x1 x2 x3) : exec cl N c80_10 [(0, .v U5 x0), (1, .v U2 x1), (7, .v U2 x2), (8, .v U2 x3)] K = (g80_10 x0 x1 x2 x3 (fun y0 => K .ret [(0, .dead), (1, .dead), (4, .v U2 y0), (7, .dead), (8, .dead)]) (fun y0 y1 y2 y3 => K .normal [(0, .v U5 y0), (1, .v U2 y1), (7, .v U2 y2), (8, .v U2 y3)]) (fun y0 y1 y2 y3 => K (.exit 0) [(0, .v U5 y0), (1, .v U2 y1), (7, .v U2 y2), (8, .v U2 y3)])) := by
  simp only [c80_10, exec_seq, seqK_normal, seqK_exit, seqK_ret, t80_2, c80_3, exec_out, exec_cond', hb80_0, Option.bind_some, brB_true, brB_false, exec_skip, exec_exit, kp80_1, c80_8, exec_block, t80_4, t80_5, c80_7, hb80_1, t80_6, exec_ret, kp80_2, kp80_3, blockK_normal, blockK_ret, blockK_eq, kp80_4, kp80_5, t80_9]
  rfl
def l80_11 {R : Type} (k0 : Int → Option R) (k1 : V0 → Int → Int → Int → Option R) : Nat → V0 → Int → Int → Int → Option R
  | 0, _, _, _, _ => none
  | m + 1, x0, x1, x2, x3 => (g80_10 x0 x1 x2 x3 k0 (fun y0 y1 y2 y3 => l80_11 k0 k1 m y0 y1 y2 y3) k1)
theorem lt80_11 {N cl} {R} (K : KE R) : ∀ (m) (x0 x1 x2 x3), iter [0, 1, 7, 8] (fun env K => exec cl N c80_10 env K) K m [(0, .v U5 x0), (1, .v U2 x1), (7, .v U2 x2), (8, .v U2 x3)] = l80_11 (fun y0 => K .ret [(0, .dead), (1, .dead), (4, .v U2 y0), (7, .dead), (8, .dead)]) (fun y0 y1 y2 y3 => K (.exit 0) [(0, .v U5 y0), (1, .v U2 y1), (7, .v U2 y2), (8, .v U2 y3)]) m x0 x1 x2 x3 := by
  intro m
  induction m with
  | zero => intros; rfl
  | succ m ih =>
    intro x0 x1 x2 x3
    simp only [iter_succ, t80_10, loopK_normal, loopK_exit, loopK_ret, kp80_0, ih]
    rfl
theorem kp80_6 (x0) : keep [4] [(0, .dead), (1, .dead), (4, .v U2 x0), (7, .dead), (8, .dead)] = [(4, .v U2 x0)] := by kernel_rfl
theorem kp80_7 (x0 x1 x2 x3) : keep [4] [(0, .v U5 x0), (1, .v U2 x1), (7, .v U2 x2), (8, .v U2 x3)] = [(4, .dead)] := by kernel_rfl
def g80_11 {R : Type} (N : Nat) (x0 : V0) (x1 : Int) (x2 : Int) (x3 : Int) (k0 : Int → Option R) (k1 : Option R) : Option R :=
l80_11 (fun y0 => k0 y0) (fun y0 y1 y2 y3 => k1) N x0 x1 x2 x3
theorem t80_11 {N cl} {R} (K : KE R) (x0 x1 x2 x3) : exec cl N c80_11 [(0, .v U5 x0), (1, .v U2 x1), (7, .v U2 x2), (8, .v U2 x3)] K = (g80_11 N x0 x1 x2 x3 (fun y0 => K .ret [(4, .v U2 y0)]) (K (.exit 0) [(4, .dead)])) := by
  simp only [c80_11, exec_out, exec_loop, kp80_0, lt80_11, kp80_6, kp80_7]
  rfl
theorem kp80_8 (x0) : keep [4] [(4, .v U2 x0)] = [(4, .v U2 x0)] := by kernel_rfl
theorem kp80_9 : keep [4] [(4, .dead)] = [(4, .dead)] := by kernel_rfl
def g80_13 {R : Type} (k0 : Int → Option R) : Option R :=
k0 (-1 : Int)
theorem t80_13 {N cl} {R} (K : KE R) : exec cl N c80_13 [(4, .dead)] K = (g80_13 (fun y0 => K .normal [(4, .v U2 y0)])) := by
  kernel_rfl
def g80_14 {R : Type} (N : Nat) (x0 : V0) (x1 : Int) (k0 : Int → Option R) : Option R :=
(g80_0 x0 x1 (fun y0 y1 => (g80_1 y0 y1 (fun y0 y1 y2 y3 => (g80_11 N y0 y1 y2 y3 (fun y0 => (k0 y0)) (g80_13 (fun y0 => (k0 y0))))))))
theorem t80_14 {N cl} {R} (K : KE R) (x0 x1) : exec cl N c80_14 [(0, .v U5 x0), (1, .v U2 x1)] K = (g80_14 N x0 x1 (fun y0 => K .ret [(4, .v U2 y0)])) := by
  simp only [c80_14, exec_seq, seqK_normal, seqK_exit, seqK_ret, t80_0, t80_1, c80_12, exec_out, exec_block, t80_11, blockK_normal, blockK_ret, blockK_eq, kp80_8, kp80_9, t80_13, exec_ret]
  rfl
theorem rk80_0 (y0 : Int) : retK d80 .ret [(4, .v U2 y0)] = some [.v U2 y0] := by kernel_rfl
def g80 {R : Type} (N : Nat) (x0 : V0) (x1 : Int) (k : Int → Option R) : Option R :=
(g80_14 N x0 x1 (fun y0 => k y0))
theorem gen80 {N : Nat} {cl : Cal} (x0 : V0) (x1 : Int) {R : Type} (k : List E → Option R) : exec cl N c80 (params 0 [.v U5 x0, .v U2 x1]) (fun e env => (retK d80 e env).bind k) = g80 N x0 x1 (fun (r0 : Int) => k [.v U2 r0]) := by
  have e0 : params 0 [.v U5 x0, .v U2 x1] = [(0, .v U5 x0), (1, .v U2 x1)] := by kernel_rfl
  simp only [c80, e0, t80_14, rk80_0, Option.bind_some]
  rfl
def ctr80 (S : V0 → Int → Option (Int)) : Ctr := { A := V0 × Int × Unit, B := Int, f := 80, enc := fun a => [.v U5 a.1, .v U2 a.2.1], dec := (decC (decV U5) (decC (decV U2) dec0)), S := fun a => S a.1 a.2.1, ent := fun b => [.v U2 b], ok := (decV_cons (T := U5) (decV_cons (T := U2) (fun es b h => dec0_some h))) }
def S80 (N : Nat) (x0 : V0) (x1 : Int) : Option (Int) := g80 N x0 x1 (fun (r0 : Int) => some (r0))
def g63_0 {R : Type} (x0 : V0) (x1 : Int) (k0 : V0 → Int → Option R) : Option R :=
k0 x0 x1
theorem t63_0 {N cl} {R} (K : KE R) (x0 x1) : exec cl N c63_0 [(0, .v U5 x0), (1, .v U2 x1)] K = (g63_0 x0 x1 (fun y0 y1 => K .normal [(0, .v U5 y0), (1, .v U2 y1)])) := by
  kernel_rfl
def g63_1 {R : Type} (S80 : V0 → Int → Option (Int)) (x0 : V0) (x1 : Int) (k0 : Bool → Option R) : Option R :=
(S80 x0 x1).bind fun r636 =>
k0 (decide (r636 ≥ (0 : Int)))
theorem t63_1 {N cl} (S80) (h80 : (ctr80 S80).holds cl) {R} (K : KE R) (x0 x1) : exec cl N c63_1 [(0, .v U5 x0), (1, .v U2 x1)] K = (g63_1 S80 x0 x1 (fun y0 => K .normal [(4, .v .bool y0)])) := by
  rw [← put_eq h80]
  kernel_rfl
def g63_2 {R : Type} (S80 : V0 → Int → Option (Int)) (x0 : V0) (x1 : Int) (k0 : Bool → Option R) : Option R :=
(g63_0 x0 x1 (fun y0 y1 => (g63_1 S80 y0 y1 (fun y0 => (k0 y0)))))
theorem t63_2 {N cl} (S80) (h80 : (ctr80 S80).holds cl) {R} (K : KE R) (x0 x1) : exec cl N c63_2 [(0, .v U5 x0), (1, .v U2 x1)] K = (g63_2 S80 x0 x1 (fun y0 => K .ret [(4, .v .bool y0)])) := by
  simp only [c63_2, exec_seq, seqK_normal, seqK_exit, seqK_ret, t63_0, t63_1 S80 h80, exec_ret]
  rfl
theorem rk63_0 (y0 : Bool) : retK d63 .ret [(4, .v .bool y0)] = some [.v .bool y0] := by kernel_rfl
def g63 {R : Type} (S80 : V0 → Int → Option (Int)) (x0 : V0) (x1 : Int) (k : Bool → Option R) : Option R :=
(g63_2 S80 x0 x1 (fun y0 => k y0))
theorem gen63 {N : Nat} {cl : Cal} (S80 : V0 → Int → Option (Int)) (h80 : (ctr80 S80).holds cl) (x0 : V0) (x1 : Int) {R : Type} (k : List E → Option R) : exec cl N c63 (params 0 [.v U5 x0, .v U2 x1]) (fun e env => (retK d63 e env).bind k) = g63 S80 x0 x1 (fun (r0 : Bool) => k [.v .bool r0]) := by
  have e0 : params 0 [.v U5 x0, .v U2 x1] = [(0, .v U5 x0), (1, .v U2 x1)] := by kernel_rfl
  simp only [c63, e0, t63_2 S80 h80, rk63_0, Option.bind_some]
  rfl
def ctr63 (S : V0 → Int → Option (Bool)) : Ctr := { A := V0 × Int × Unit, B := Bool, f := 63, enc := fun a => [.v U5 a.1, .v U2 a.2.1], dec := (decC (decV U5) (decC (decV U2) dec0)), S := fun a => S a.1 a.2.1, ent := fun b => [.v .bool b], ok := (decV_cons (T := U5) (decV_cons (T := U2) (fun es b h => dec0_some h))) }
def S63 (N : Nat) (x0 : V0) (x1 : Int) : Option (Bool) := g63 (S80 N) x0 x1 (fun (r0 : Bool) => some (r0))
def g44_0 {R : Type} (x0 : V18) (x1 : V18) (x2 : Int) (k0 : V18 → V18 → Int → Option R) : Option R :=
k0 x0 x1 x2
theorem t44_0 {N cl} {R} (K : KE R) (x0 x1 x2) : exec cl N c44_0 [(0, .v U21 x0), (1, .v U21 x1), (2, .v U2 x2)] K = (g44_0 x0 x1 x2 (fun y0 y1 y2 => K .normal [(0, .v U21 y0), (1, .v U21 y1), (2, .v U2 y2)])) := by
  kernel_rfl
def g44_1 {R : Type} (S36 : V18 → V18 → Option (Int)) (x0 : V18) (x1 : V18) (x2 : Int) (k0 : V18 → V18 → Int → Int → Option R) : Option R :=
(S36 x0 x1).bind fun r656 =>
k0 x0 x1 x2 r656
theorem t44_1 {N cl} (S36) (h36 : (ctr36 S36).holds cl) {R} (K : KE R) (x0 x1 x2) : exec cl N c44_1 [(0, .v U21 x0), (1, .v U21 x1), (2, .v U2 x2)] K = (g44_1 S36 x0 x1 x2 (fun y0 y1 y2 y3 => K .normal [(0, .v U21 y0), (1, .v U21 y1), (2, .v U2 y2), (10, .v U2 y3)])) := by
  rw [← put_eq h36]
  kernel_rfl
def g44_2 {R : Type} (x0 : V18) (x1 : V18) (x2 : Int) (x3 : Int) (k0 : V18 → V18 → Int → Int → Bool → Option R) : Option R :=
k0 x0 x1 x2 x3 (x3 != (0 : Int))
theorem t44_2 {N cl} {R} (K : KE R) (x0 x1 x2 x3) : exec cl N c44_2 [(0, .v U21 x0), (1, .v U21 x1), (2, .v U2 x2), (10, .v U2 x3)] K = (g44_2 x0 x1 x2 x3 (fun y0 y1 y2 y3 y4 => K .normal [(0, .v U21 y0), (1, .v U21 y1), (2, .v U2 y2), (10, .v U2 y3), (21, .v .bool y4)])) := by
  kernel_rfl
def g44_3 {R : Type} (x0 : V18) (x1 : V18) (x2 : Int) (x3 : Int) (x4 : Bool) (k0 : V18 → V18 → V18 → Int → Option R) : Option R :=
k0 [] [] [] x3
theorem t44_3 {N cl} {R} (K : KE R) (x0 x1 x2 x3 x4) : exec cl N c44_3 [(0, .v U21 x0), (1, .v U21 x1), (2, .v U2 x2), (10, .v U2 x3), (21, .v .bool x4)] K = (g44_3 x0 x1 x2 x3 x4 (fun y0 y1 y2 y3 => K .normal [(6, .own true 55 U18 .no y0), (7, .own true 55 U18 .no y1), (8, .own true 55 U18 .no y2), (9, .v U2 y3)])) := by
  kernel_rfl
theorem kp44_0 (x0 x1 x2 x3) : keep [0, 1, 2, 6, 7, 8, 9] [(6, .own true 55 U18 .no x0), (7, .own true 55 U18 .no x1), (8, .own true 55 U18 .no x2), (9, .v U2 x3)] = [(0, .dead), (1, .dead), (2, .dead), (6, .own true 55 U18 .no x0), (7, .own true 55 U18 .no x1), (8, .own true 55 U18 .no x2), (9, .v U2 x3)] := by kernel_rfl
theorem kp44_1 (x0 x1 x2 x3 x4) : keep [0, 1, 2, 6, 7, 8, 9] [(0, .v U21 x0), (1, .v U21 x1), (2, .v U2 x2), (10, .v U2 x3), (21, .v .bool x4)] = [(0, .v U21 x0), (1, .v U21 x1), (2, .v U2 x2), (6, .dead), (7, .dead), (8, .dead), (9, .dead)] := by kernel_rfl
theorem hb44_0 (x0 : V18) (x1 : V18) (x2 : Int) (x3 : Int) (x4 : Bool) : boolOf? (ent [(0, .v U21 x0), (1, .v U21 x1), (2, .v U2 x2), (10, .v U2 x3), (21, .v .bool x4)] (.t 21)) = some x4 := by kernel_rfl
def g44_5 {R : Type} (x0 : V18) (x1 : V18) (x2 : Int) (k0 : V18 → V18 → Int → Bool → Option R) : Option R :=
brB (decide (x2 < (0 : Int))) (k0 x0 x1 x2 true) (k0 x0 x1 x2 (decide (x2 > (4 : Int))))
theorem t44_5 {N cl} {R} (K : KE R) (x0 x1 x2) : exec cl N c44_5 [(0, .v U21 x0), (1, .v U21 x1), (2, .v U2 x2), (6, .dead), (7, .dead), (8, .dead), (9, .dead)] K = (g44_5 x0 x1 x2 (fun y0 y1 y2 y3 => K .normal [(0, .v U21 y0), (1, .v U21 y1), (2, .v U2 y2), (28, .v .bool y3)])) := by
  kernel_rfl
def g44_6 {R : Type} (x0 : V18) (x1 : V18) (x2 : Int) (x3 : Bool) (k0 : V18 → V18 → V18 → Int → Option R) : Option R :=
k0 [] [] [] (6 : Int)
theorem t44_6 {N cl} {R} (K : KE R) (x0 x1 x2 x3) : exec cl N c44_6 [(0, .v U21 x0), (1, .v U21 x1), (2, .v U2 x2), (28, .v .bool x3)] K = (g44_6 x0 x1 x2 x3 (fun y0 y1 y2 y3 => K .normal [(6, .own true 55 U18 .no y0), (7, .own true 55 U18 .no y1), (8, .own true 55 U18 .no y2), (9, .v U2 y3)])) := by
  kernel_rfl
theorem kp44_2 (x0 x1 x2 x3) : keep [0, 1, 2, 6, 7, 8, 9] [(0, .v U21 x0), (1, .v U21 x1), (2, .v U2 x2), (28, .v .bool x3)] = [(0, .v U21 x0), (1, .v U21 x1), (2, .v U2 x2), (6, .dead), (7, .dead), (8, .dead), (9, .dead)] := by kernel_rfl
theorem hb44_1 (x0 : V18) (x1 : V18) (x2 : Int) (x3 : Bool) : boolOf? (ent [(0, .v U21 x0), (1, .v U21 x1), (2, .v U2 x2), (28, .v .bool x3)] (.t 28)) = some x3 := by kernel_rfl
def g44_8 {R : Type} (S37 : V18 → V18 → Option V3) (S63 : V0 → Int → Option (Bool)) (x0 : V18) (x1 : V18) (x2 : Int) (k0 : V18 → V18 → Int → Bool → Option R) : Option R :=
(S37 x0 x1).bind fun r660 =>
(S63 r660 x2).bind fun r661 =>
k0 x0 x1 x2 (!r661)
theorem t44_8 {N cl} (S37) (S63) (h37 : (ctr37 S37).holds cl) (h63 : (ctr63 S63).holds cl) {R} (K : KE R) (x0 x1 x2) : exec cl N c44_8 [(0, .v U21 x0), (1, .v U21 x1), (2, .v U2 x2), (6, .dead), (7, .dead), (8, .dead), (9, .dead)] K = (g44_8 S37 S63 x0 x1 x2 (fun y0 y1 y2 y3 => K .normal [(0, .v U21 y0), (1, .v U21 y1), (2, .v U2 y2), (34, .v .bool y3)])) := by
  rw [← put_eq h37]
  rw [← put_eq h63]
  kernel_rfl
def g44_9 {R : Type} (x0 : V18) (x1 : V18) (x2 : Int) (x3 : Bool) (k0 : V18 → V18 → V18 → Int → Option R) : Option R :=
k0 [] [] [] (8 : Int)
theorem t44_9 {N cl} {R} (K : KE R) (x0 x1 x2 x3) : exec cl N c44_9 [(0, .v U21 x0), (1, .v U21 x1), (2, .v U2 x2), (34, .v .bool x3)] K = (g44_9 x0 x1 x2 x3 (fun y0 y1 y2 y3 => K .normal [(6, .own true 55 U18 .no y0), (7, .own true 55 U18 .no y1), (8, .own true 55 U18 .no y2), (9, .v U2 y3)])) := by
  kernel_rfl
theorem kp44_3 (x0 x1 x2 x3) : keep [0, 1, 2, 6, 7, 8, 9] [(0, .v U21 x0), (1, .v U21 x1), (2, .v U2 x2), (34, .v .bool x3)] = [(0, .v U21 x0), (1, .v U21 x1), (2, .v U2 x2), (6, .dead), (7, .dead), (8, .dead), (9, .dead)] := by kernel_rfl
theorem hb44_2 (x0 : V18) (x1 : V18) (x2 : Int) (x3 : Bool) : boolOf? (ent [(0, .v U21 x0), (1, .v U21 x1), (2, .v U2 x2), (34, .v .bool x3)] (.t 34)) = some x3 := by kernel_rfl
def g44_11 {R : Type} (S23 : V18 → Option V20) (x0 : V18) (x1 : V18) (x2 : Int) (k0 : V18 → V18 → Int → V18 → V18 → Option R) : Option R :=
(S23 x0).bind fun r662 =>
(S23 x1).bind fun r663 =>
k0 x0 x1 x2 r662 r663
theorem t44_11 {N cl} (S23) (h23 : (ctr23 S23).holds cl) {R} (K : KE R) (x0 x1 x2) : exec cl N c44_11 [(0, .v U21 x0), (1, .v U21 x1), (2, .v U2 x2), (6, .dead), (7, .dead), (8, .dead), (9, .dead)] K = (g44_11 S23 x0 x1 x2 (fun y0 y1 y2 y3 y4 => K .normal [(0, .v U21 y0), (1, .v U21 y1), (2, .v U2 y2), (11, .own true 55 U18 .no y3), (12, .own true 55 U18 .no y4)])) := by
  rw [← put_eq h23]
  kernel_rfl
def g44_12 {R : Type} (x0 : V18) (x1 : V18) (x2 : Int) (x3 : V18) (x4 : V18) (k0 : V18 → V18 → Int → V18 → V18 → V18 → Option R) : Option R :=
k0 x0 x1 x2 x3 x4 []
theorem t44_12 {N cl} {R} (K : KE R) (x0 x1 x2 x3 x4) : exec cl N c44_12 [(0, .v U21 x0), (1, .v U21 x1), (2, .v U2 x2), (11, .own true 55 U18 .no x3), (12, .own true 55 U18 .no x4)] K = (g44_12 x0 x1 x2 x3 x4 (fun y0 y1 y2 y3 y4 y5 => K .normal [(0, .v U21 y0), (1, .v U21 y1), (2, .v U2 y2), (11, .own true 55 U18 .no y3), (12, .own true 55 U18 .no y4), (13, .own true 55 U18 .no y5)])) := by
  kernel_rfl
def g44_13 {R : Type} (x0 : V18) (x1 : V18) (x2 : Int) (x3 : V18) (x4 : V18) (x5 : V18) (k0 : V18 → V18 → V18 → V18 → V18 → Int → Option R) : Option R :=
k0 x0 x1 x3 x4 x5 x2
theorem t44_13 {N cl} {R} (K : KE R) (x0 x1 x2 x3 x4 x5) : exec cl N c44_13 [(0, .v U21 x0), (1, .v U21 x1), (2, .v U2 x2), (11, .own true 55 U18 .no x3), (12, .own true 55 U18 .no x4), (13, .own true 55 U18 .no x5)] K = (g44_13 x0 x1 x2 x3 x4 x5 (fun y0 y1 y2 y3 y4 y5 => K .normal [(0, .v U21 y0), (1, .v U21 y1), (11, .own true 55 U18 .no y2), (12, .own true 55 U18 .no y3), (13, .own true 55 U18 .no y4), (39, .v U2 y5)])) := by
  kernel_rfl
def g44_14 {R : Type} (x0 : V18) (x1 : V18) (x2 : V18) (x3 : V18) (x4 : V18) (x5 : Int) (k0 : V18 → V18 → V18 → V18 → V18 → Int → Bool → Option R) : Option R :=
k0 x0 x1 x2 x3 x4 x5 (x5 == (1 : Int))
theorem t44_14 {N cl} {R} (K : KE R) (x0 x1 x2 x3 x4 x5) : exec cl N c44_14 [(0, .v U21 x0), (1, .v U21 x1), (11, .own true 55 U18 .no x2), (12, .own true 55 U18 .no x3), (13, .own true 55 U18 .no x4), (39, .v U2 x5)] K = (g44_14 x0 x1 x2 x3 x4 x5 (fun y0 y1 y2 y3 y4 y5 y6 => K .normal [(0, .v U21 y0), (1, .v U21 y1), (11, .own true 55 U18 .no y2), (12, .own true 55 U18 .no y3), (13, .own true 55 U18 .no y4), (39, .v U2 y5), (40, .v .bool y6)])) := by
  kernel_rfl
def g44_15 {R : Type} (S14 : V18 → Option (Int)) (x0 : V18) (x1 : V18) (x2 : V18) (x3 : V18) (x4 : V18) (x5 : Int) (x6 : Bool) (k0 : V18 → V18 → V18 → Int → Option R) : Option R :=
(S14 x0).bind fun r665 =>
k0 x0 x2 x3 (IntKind.i64.wrap ((x0.length : Int) - r665))
theorem t44_15 {N cl} (S14) (h14 : (ctr14 S14).holds cl) {R} (K : KE R) (x0 x1 x2 x3 x4 x5 x6) : exec cl N c44_15 [(0, .v U21 x0), (1, .v U21 x1), (11, .own true 55 U18 .no x2), (12, .own true 55 U18 .no x3), (13, .own true 55 U18 .no x4), (39, .v U2 x5), (40, .v .bool x6)] K = (g44_15 S14 x0 x1 x2 x3 x4 x5 x6 (fun y0 y1 y2 y3 => K .normal [(0, .v U21 y0), (11, .own true 55 U18 .no y1), (12, .own true 55 U18 .no y2), (14, .v U2 y3)])) := by
  rw [← put_eq h14]
  kernel_rfl
def g44_16 {R : Type} (S23 : V18 → Option V20) (x0 : V18) (x1 : V18) (x2 : V18) (x3 : Int) (k0 : V18 → V18 → V18 → Option R) : Option R :=
if 0 ≤ (0 : Int) ∧ (0 : Int) ≤ x3 ∧ x3 ≤ x3 ∧ x3 ≤ (x1.length : Int) then
if 0 ≤ x3 ∧ x3 ≤ (x0.length : Int) ∧ (x0.length : Int) ≤ (x0.length : Int) ∧ (x0.length : Int) ≤ (x0.length : Int) then
(S23 ((x0.drop x3.toNat).take ((x0.length : Int).toNat - x3.toNat))).bind fun r669 =>
k0 ((x1.drop (0 : Int).toNat).take (x3.toNat - (0 : Int).toNat)) x2 r669
else none
else none
theorem t44_16 {N cl} (S23) (h23 : (ctr23 S23).holds cl) {R} (K : KE R) (x0 x1 x2 x3) : exec cl N c44_16 [(0, .v U21 x0), (11, .own true 55 U18 .no x1), (12, .own true 55 U18 .no x2), (14, .v U2 x3)] K = (g44_16 S23 x0 x1 x2 x3 (fun y0 y1 y2 => K .normal [(11, .v U21 y0), (12, .own true 55 U18 .no y1), (13, .own true 55 U18 .no y2)])) := by
  rw [← put_eq h23]
  kernel_rfl
theorem kp44_4 (x0 x1 x2) : keep [11, 12, 13] [(11, .v U21 x0), (12, .own true 55 U18 .no x1), (13, .own true 55 U18 .no x2)] = [(11, .v U21 x0), (12, .own true 55 U18 .no x1), (13, .own true 55 U18 .no x2)] := by kernel_rfl
def g44_17 {R : Type} (x0 : V18) (x1 : V18) (x2 : V18) (x3 : V18) (x4 : V18) (x5 : Int) (x6 : Bool) (k0 : V18 → V18 → V18 → V18 → Int → Bool → Option R) : Option R :=
k0 x1 x2 x3 x4 x5 (x5 == (2 : Int))
theorem t44_17 {N cl} {R} (K : KE R) (x0 x1 x2 x3 x4 x5 x6) : exec cl N c44_17 [(0, .v U21 x0), (1, .v U21 x1), (11, .own true 55 U18 .no x2), (12, .own true 55 U18 .no x3), (13, .own true 55 U18 .no x4), (39, .v U2 x5), (40, .v .bool x6)] K = (g44_17 x0 x1 x2 x3 x4 x5 x6 (fun y0 y1 y2 y3 y4 y5 => K .normal [(1, .v U21 y0), (11, .own true 55 U18 .no y1), (12, .own true 55 U18 .no y2), (13, .own true 55 U18 .no y3), (39, .v U2 y4), (55, .v .bool y5)])) := by
  kernel_rfl
def g44_18 {R : Type} (S42 : V18 → Option (Int)) (x0 : V18) (x1 : V18) (x2 : V18) (x3 : V18) (x4 : Int) (x5 : Bool) (k0 : V18 → V18 → Int → Option R) : Option R :=
(S42 x0).bind fun r671 =>
k0 x0 x1 (IntKind.i64.wrap (r671 + (1 : Int)))
theorem t44_18 {N cl} (S42) (h42 : (ctr42 S42).holds cl) {R} (K : KE R) (x0 x1 x2 x3 x4 x5) : exec cl N c44_18 [(1, .v U21 x0), (11, .own true 55 U18 .no x1), (12, .own true 55 U18 .no x2), (13, .own true 55 U18 .no x3), (39, .v U2 x4), (55, .v .bool x5)] K = (g44_18 S42 x0 x1 x2 x3 x4 x5 (fun y0 y1 y2 => K .normal [(1, .v U21 y0), (11, .own true 55 U18 .no y1), (15, .v U2 y2)])) := by
  rw [← put_eq h42]
  kernel_rfl
def g44_19 {R : Type} (S23 : V18 → Option V20) (x0 : V18) (x1 : V18) (x2 : Int) (k0 : V18 → V18 → V18 → Option R) : Option R :=
if 0 ≤ x2 ∧ x2 ≤ (x0.length : Int) ∧ (x0.length : Int) ≤ (x0.length : Int) ∧ (x0.length : Int) ≤ (x0.length : Int) then
(S23 ((x0.drop x2.toNat).take ((x0.length : Int).toNat - x2.toNat))).bind fun r674 =>
if 0 ≤ (0 : Int) ∧ (0 : Int) ≤ x2 ∧ x2 ≤ (x0.length : Int) ∧ (x0.length : Int) ≤ (x0.length : Int) then
(S23 ((x0.drop (0 : Int).toNat).take (x2.toNat - (0 : Int).toNat))).bind fun r676 =>
k0 x1 r674 r676
else none
else none
theorem t44_19 {N cl} (S23) (h23 : (ctr23 S23).holds cl) {R} (K : KE R) (x0 x1 x2) : exec cl N c44_19 [(1, .v U21 x0), (11, .own true 55 U18 .no x1), (15, .v U2 x2)] K = (g44_19 S23 x0 x1 x2 (fun y0 y1 y2 => K .normal [(11, .own true 55 U18 .no y0), (12, .own true 55 U18 .no y1), (13, .own true 55 U18 .no y2)])) := by
  rw [← put_eq h23]
  kernel_rfl
theorem kp44_5 (x0 x1 x2) : keep [11, 12, 13] [(11, .own true 55 U18 .no x0), (12, .own true 55 U18 .no x1), (13, .own true 55 U18 .no x2)] = [(11, .own true 55 U18 .no x0), (12, .own true 55 U18 .no x1), (13, .own true 55 U18 .no x2)] := by kernel_rfl
def g44_20 {R : Type} (x0 : V18) (x1 : V18) (x2 : V18) (x3 : V18) (x4 : Int) (x5 : Bool) (k0 : V18 → V18 → V18 → Bool → Option R) : Option R :=
k0 x1 x2 x3 (x4 == (4 : Int))
theorem t44_20 {N cl} {R} (K : KE R) (x0 x1 x2 x3 x4 x5) : exec cl N c44_20 [(1, .v U21 x0), (11, .own true 55 U18 .no x1), (12, .own true 55 U18 .no x2), (13, .own true 55 U18 .no x3), (39, .v U2 x4), (55, .v .bool x5)] K = (g44_20 x0 x1 x2 x3 x4 x5 (fun y0 y1 y2 y3 => K .normal [(11, .own true 55 U18 .no y0), (12, .own true 55 U18 .no y1), (13, .own true 55 U18 .no y2), (68, .v .bool y3)])) := by
  kernel_rfl
def g44_21 {R : Type} (x0 : V18) (x1 : V18) (x2 : V18) (x3 : Bool) (k0 : V18 → V18 → V18 → Nat → Option R) : Option R :=
let v678 : Int := (IntKind.i64.wrap ((x0.length : Int) - (1 : Int)))
if 0 ≤ v678 ∧ v678 < (x0.length : Int) then
k0 x0 x1 x2 v678.toNat
else none
theorem t44_21 {N cl} {R} (K : KE R) (x0 x1 x2 x3) : exec cl N c44_21 [(11, .own true 55 U18 .no x0), (12, .own true 55 U18 .no x1), (13, .own true 55 U18 .no x2), (68, .v .bool x3)] K = (g44_21 x0 x1 x2 x3 (fun y0 y1 y2 y3 => K .normal [(11, .own true 55 U18 .no y0), (12, .own true 55 U18 .no y1), (13, .own true 55 U18 .no y2), (16, .ptre 11 [] y3 [])])) := by
  kernel_rfl
def g44_22 {R : Type} (x0 : V18) (x1 : V18) (x2 : V18) (x3 : Nat) (k0 : V18 → V18 → V18 → Option R) : Option R :=
if x3 < x0.length then
if x3 < (x0.set x3 ((1 : Int), (x0.getD x3 ((0 : Int), ((0 : Int), ([], ())))).2)).length then
k0 ((x0.set x3 ((1 : Int), (x0.getD x3 ((0 : Int), ((0 : Int), ([], ())))).2)).set x3 (((x0.set x3 ((1 : Int), (x0.getD x3 ((0 : Int), ((0 : Int), ([], ())))).2)).getD x3 ((0 : Int), ((0 : Int), ([], ())))).1, ((1 : Int), ((x0.set x3 ((1 : Int), (x0.getD x3 ((0 : Int), ((0 : Int), ([], ())))).2)).getD x3 ((0 : Int), ((0 : Int), ([], ())))).2.2))) x1 x2
else none
else none
theorem t44_22 {N cl} {R} (K : KE R) (x0 x1 x2 x3) : exec cl N c44_22 [(11, .own true 55 U18 .no x0), (12, .own true 55 U18 .no x1), (13, .own true 55 U18 .no x2), (16, .ptre 11 [] x3 [])] K = (g44_22 x0 x1 x2 x3 (fun y0 y1 y2 => K .normal [(11, .own true 55 U18 .no y0), (12, .own true 55 U18 .no y1), (13, .own true 55 U18 .no y2)])) := by
  kernel_rfl
theorem kp44_6 (x0 x1 x2 x3) : keep [11, 12, 13] [(11, .own true 55 U18 .no x0), (12, .own true 55 U18 .no x1), (13, .own true 55 U18 .no x2), (68, .v .bool x3)] = [(11, .own true 55 U18 .no x0), (12, .own true 55 U18 .no x1), (13, .own true 55 U18 .no x2)] := by kernel_rfl
theorem hb44_3 (x0 : V18) (x1 : V18) (x2 : V18) (x3 : Bool) : boolOf? (ent [(11, .own true 55 U18 .no x0), (12, .own true 55 U18 .no x1), (13, .own true 55 U18 .no x2), (68, .v .bool x3)] (.t 68)) = some x3 := by kernel_rfl
theorem hb44_4 (x0 : V18) (x1 : V18) (x2 : V18) (x3 : V18) (x4 : Int) (x5 : Bool) : boolOf? (ent [(1, .v U21 x0), (11, .own true 55 U18 .no x1), (12, .own true 55 U18 .no x2), (13, .own true 55 U18 .no x3), (39, .v U2 x4), (55, .v .bool x5)] (.t 55)) = some x5 := by kernel_rfl
theorem hb44_5 (x0 : V18) (x1 : V18) (x2 : V18) (x3 : V18) (x4 : V18) (x5 : Int) (x6 : Bool) : boolOf? (ent [(0, .v U21 x0), (1, .v U21 x1), (11, .own true 55 U18 .no x2), (12, .own true 55 U18 .no x3), (13, .own true 55 U18 .no x4), (39, .v U2 x5), (40, .v .bool x6)] (.t 40)) = some x6 := by kernel_rfl
def g44_27 {R : Type} (S14 : V18 → Option (Int)) (S23 : V18 → Option V20) (S42 : V18 → Option (Int)) (x0 : V18) (x1 : V18) (x2 : Int) (x3 : V18) (x4 : V18) (x5 : V18) (k0 : V18 → V18 → V18 → Option R) (k1 : V18 → V18 → V18 → Option R) : Option R :=
(g44_13 x0 x1 x2 x3 x4 x5 (fun y0 y1 y2 y3 y4 y5 => (g44_14 y0 y1 y2 y3 y4 y5 (fun y0 y1 y2 y3 y4 y5 y6 => brB y6 (g44_15 S14 y0 y1 y2 y3 y4 y5 y6 (fun y0 y1 y2 y3 => (g44_16 S23 y0 y1 y2 y3 (fun y0 y1 y2 => (k0 y0 y1 y2))))) (g44_17 y0 y1 y2 y3 y4 y5 y6 (fun y0 y1 y2 y3 y4 y5 => brB y5 (g44_18 S42 y0 y1 y2 y3 y4 y5 (fun y0 y1 y2 => (g44_19 S23 y0 y1 y2 (fun y0 y1 y2 => (k1 y0 y1 y2))))) (g44_20 y0 y1 y2 y3 y4 y5 (fun y0 y1 y2 y3 => brB y3 (g44_21 y0 y1 y2 y3 (fun y0 y1 y2 y3 => (g44_22 y0 y1 y2 y3 (fun y0 y1 y2 => (k1 y0 y1 y2))))) (k1 y0 y1 y2)))))))))
theorem t44_27 {N cl} (S14) (S23) (S42) (h14 : (ctr14 S14).holds cl) (h23 : (ctr23 S23).holds cl) (h42 : (ctr42 S42).holds cl) {R} (K : KE R) (x0 x1 x2 x3 x4 x5) : exec cl N c44_27 [(0, .v U21 x0), (1, .v U21 x1), (2, .v U2 x2), (11, .own true 55 U18 .no x3), (12, .own true 55 U18 .no x4), (13, .own true 55 U18 .no x5)] K = (g44_27 S14 S23 S42 x0 x1 x2 x3 x4 x5 (fun y0 y1 y2 => K .normal [(11, .v U21 y0), (12, .own true 55 U18 .no y1), (13, .own true 55 U18 .no y2)]) (fun y0 y1 y2 => K .normal [(11, .own true 55 U18 .no y0), (12, .own true 55 U18 .no y1), (13, .own true 55 U18 .no y2)])) := by
  simp only [c44_27, exec_seq, seqK_normal, seqK_exit, seqK_ret, t44_13, c44_26, exec_out, exec_block, t44_14, c44_25, exec_cond', hb44_5, Option.bind_some, brB_true, brB_false, t44_15 S14 h14, t44_16 S23 h23, t44_17, c44_24, hb44_4, t44_18 S42 h42, t44_19 S23 h23, t44_20, c44_23, hb44_3, t44_21, t44_22, exec_skip, kp44_5, kp44_6, kp44_4, blockK_normal, blockK_ret, blockK_eq]
  rfl
def g44_28 {R : Type} (x0 : V18) (x1 : V18) (x2 : V18) (k0 : V18 → Int → V18 → V18 → V18 → Option R) : Option R :=
k0 x0 (0 : Int) x0 x1 x2
theorem t44_28 {N cl} {R} (K : KE R) (x0 x1 x2) : exec cl N c44_28 [(11, .v U21 x0), (12, .own true 55 U18 .no x1), (13, .own true 55 U18 .no x2)] K = (g44_28 x0 x1 x2 (fun y0 y1 y2 y3 y4 => K .normal [(6, .v U21 y0), (7, .ref 12 []), (8, .ref 13 []), (9, .v U2 y1), (11, .v U21 y2), (12, .own true 55 U18 .no y3), (13, .own true 55 U18 .no y4)])) := by
  kernel_rfl
def g44_28b {R : Type} (x0 : V18) (x1 : V18) (x2 : V18) (k0 : Int → V18 → V18 → V18 → Option R) : Option R :=
k0 (0 : Int) x0 x1 x2
theorem t44_28b {N cl} {R} (K : KE R) (x0 x1 x2) : exec cl N c44_28 [(11, .own true 55 U18 .no x0), (12, .own true 55 U18 .no x1), (13, .own true 55 U18 .no x2)] K = (g44_28b x0 x1 x2 (fun y0 y1 y2 y3 => K .normal [(6, .ref 11 []), (7, .ref 12 []), (8, .ref 13 []), (9, .v U2 y0), (11, .own true 55 U18 .no y1), (12, .own true 55 U18 .no y2), (13, .own true 55 U18 .no y3)])) := by
  kernel_rfl
def g44_29 {R : Type} (S14 : V18 → Option (Int)) (S23 : V18 → Option V20) (S36 : V18 → V18 → Option (Int)) (S37 : V18 → V18 → Option V3) (S42 : V18 → Option (Int)) (S63 : V0 → Int → Option (Bool)) (x0 : V18) (x1 : V18) (x2 : Int) (k0 : V18 → V18 → V18 → Int → Option R) (k1 : V18 → Int → V18 → V18 → V18 → Option R) (k2 : Int → V18 → V18 → V18 → Option R) : Option R :=
(g44_0 x0 x1 x2 (fun y0 y1 y2 => (g44_1 S36 y0 y1 y2 (fun y0 y1 y2 y3 => (g44_2 y0 y1 y2 y3 (fun y0 y1 y2 y3 y4 => brB y4 (g44_3 y0 y1 y2 y3 y4 (fun y0 y1 y2 y3 => ((fun y0 y1 y2 y3 => (k0 y0 y1 y2 y3)) y0 y1 y2 y3))) ((fun y0 y1 y2 => (g44_5 y0 y1 y2 (fun y0 y1 y2 y3 => brB y3 (g44_6 y0 y1 y2 y3 (fun y0 y1 y2 y3 => ((fun y0 y1 y2 y3 => (k0 y0 y1 y2 y3)) y0 y1 y2 y3))) ((fun y0 y1 y2 => (g44_8 S37 S63 y0 y1 y2 (fun y0 y1 y2 y3 => brB y3 (g44_9 y0 y1 y2 y3 (fun y0 y1 y2 y3 => ((fun y0 y1 y2 y3 => (k0 y0 y1 y2 y3)) y0 y1 y2 y3))) ((fun y0 y1 y2 => (g44_11 S23 y0 y1 y2 (fun y0 y1 y2 y3 y4 => (g44_12 y0 y1 y2 y3 y4 (fun y0 y1 y2 y3 y4 y5 => (g44_27 S14 S23 S42 y0 y1 y2 y3 y4 y5 (fun y0 y1 y2 => (g44_28 y0 y1 y2 (fun y0 y1 y2 y3 y4 => (k1 y0 y1 y2 y3 y4)))) (fun y0 y1 y2 => (g44_28b y0 y1 y2 (fun y0 y1 y2 y3 => (k2 y0 y1 y2 y3)))))))))) y0 y1 y2)))) y0 y1 y2)))) y0 y1 y2)))))))
theorem t44_29 {N cl} (S14) (S23) (S36) (S37) (S42) (S63) (h14 : (ctr14 S14).holds cl) (h23 : (ctr23 S23).holds cl) (h36 : (ctr36 S36).holds cl) (h37 : (ctr37 S37).holds cl) (h42 : (ctr42 S42).holds cl) (h63 : (ctr63 S63).holds cl) {R} (K : KE R) (x0 x1 x2) : exec cl N c44_29 [(0, .v U21 x0), (1, .v U21 x1), (2, .v U2 x2)] K = (g44_29 S14 S23 S36 S37 S42 S63 x0 x1 x2 (fun y0 y1 y2 y3 => K .ret [(0, .dead), (1, .dead), (2, .dead), (6, .own true 55 U18 .no y0), (7, .own true 55 U18 .no y1), (8, .own true 55 U18 .no y2), (9, .v U2 y3)]) (fun y0 y1 y2 y3 y4 => K .ret [(6, .v U21 y0), (7, .ref 12 []), (8, .ref 13 []), (9, .v U2 y1), (11, .v U21 y2), (12, .own true 55 U18 .no y3), (13, .own true 55 U18 .no y4)]) (fun y0 y1 y2 y3 => K .ret [(6, .ref 11 []), (7, .ref 12 []), (8, .ref 13 []), (9, .v U2 y0), (11, .own true 55 U18 .no y1), (12, .own true 55 U18 .no y2), (13, .own true 55 U18 .no y3)])) := by
  simp only [c44_29, exec_seq, seqK_normal, seqK_exit, seqK_ret, t44_0, t44_1 S36 h36, t44_2, c44_4, exec_out, exec_cond', hb44_0, Option.bind_some, brB_true, brB_false, t44_3, exec_ret, exec_skip, kp44_0, kp44_1, t44_5, c44_7, hb44_1, t44_6, kp44_2, t44_8 S37 S63 h37 h63, c44_10, hb44_2, t44_9, kp44_3, t44_11 S23 h23, t44_12, t44_27 S14 S23 S42 h14 h23 h42, t44_28, t44_28b]
  rfl
theorem rk44_0 (y0 : V18) (y1 : V18) (y2 : V18) (y3 : Int) : retK d44 .ret [(0, .dead), (1, .dead), (2, .dead), (6, .own true 55 U18 .no y0), (7, .own true 55 U18 .no y1), (8, .own true 55 U18 .no y2), (9, .v U2 y3)] = some [.v U21 y0, .own true 55 U18 .no y1, .own true 55 U18 .no y2, .v U2 y3] := by kernel_rfl
theorem rk44_1 (y0 : V18) (y1 : Int) (y2 : V18) (y3 : V18) (y4 : V18) : retK d44 .ret [(6, .v U21 y0), (7, .ref 12 []), (8, .ref 13 []), (9, .v U2 y1), (11, .v U21 y2), (12, .own true 55 U18 .no y3), (13, .own true 55 U18 .no y4)] = some [.v U21 y0, .own true 55 U18 .no y3, .own true 55 U18 .no y4, .v U2 y1] := by kernel_rfl
theorem rk44_2 (y0 : Int) (y1 : V18) (y2 : V18) (y3 : V18) : retK d44 .ret [(6, .ref 11 []), (7, .ref 12 []), (8, .ref 13 []), (9, .v U2 y0), (11, .own true 55 U18 .no y1), (12, .own true 55 U18 .no y2), (13, .own true 55 U18 .no y3)] = some [.v U21 y1, .own true 55 U18 .no y2, .own true 55 U18 .no y3, .v U2 y0] := by kernel_rfl
def g44 {R : Type} (S14 : V18 → Option (Int)) (S23 : V18 → Option V20) (S36 : V18 → V18 → Option (Int)) (S37 : V18 → V18 → Option V3) (S42 : V18 → Option (Int)) (S63 : V0 → Int → Option (Bool)) (x0 : V18) (x1 : V18) (x2 : Int) (k : V18 → V18 → V18 → Int → Option R) : Option R :=
(g44_29 S14 S23 S36 S37 S42 S63 x0 x1 x2 (fun y0 y1 y2 y3 => k y0 y1 y2 y3) (fun y0 y1 y2 y3 y4 => k y0 y3 y4 y1) (fun y0 y1 y2 y3 => k y1 y2 y3 y0))
theorem gen44 {N : Nat} {cl : Cal} (S14 : V18 → Option (Int)) (S23 : V18 → Option V20) (S36 : V18 → V18 → Option (Int)) (S37 : V18 → V18 → Option V3) (S42 : V18 → Option (Int)) (S63 : V0 → Int → Option (Bool)) (h14 : (ctr14 S14).holds cl) (h23 : (ctr23 S23).holds cl) (h36 : (ctr36 S36).holds cl) (h37 : (ctr37 S37).holds cl) (h42 : (ctr42 S42).holds cl) (h63 : (ctr63 S63).holds cl) (x0 : V18) (x1 : V18) (x2 : Int) {R : Type} (k : List E → Option R) : exec cl N c44 (params 0 [.v U21 x0, .v U21 x1, .v U2 x2]) (fun e env => (retK d44 e env).bind k) = g44 S14 S23 S36 S37 S42 S63 x0 x1 x2 (fun (r0 : V18) (r1 : V18) (r2 : V18) (r3 : Int) => k [.v U21 r0, .own true 55 U18 .no r1, .own true 55 U18 .no r2, .v U2 r3]) := by
  have e0 : params 0 [.v U21 x0, .v U21 x1, .v U2 x2] = [(0, .v U21 x0), (1, .v U21 x1), (2, .v U2 x2)] := by kernel_rfl
  simp only [c44, e0, t44_29 S14 S23 S36 S37 S42 S63 h14 h23 h36 h37 h42 h63, rk44_0, rk44_1, rk44_2, Option.bind_some]
  rfl
def ctr44 (S : V18 → V18 → Int → Option V26) : Ctr := { A := V18 × V18 × Int × Unit, B := V18 × V18 × V18 × Int, f := 44, enc := fun a => [.v U21 a.1, .v U21 a.2.1, .v U2 a.2.2.1], dec := (decC (decV U21) (decC (decV U21) (decC (decV U2) dec0))), S := fun a => S a.1 a.2.1 a.2.2.1, ent := fun b => [.v U21 b.1, .own true 55 U18 .no b.2.1, .own true 55 U18 .no b.2.2.1, .v U2 b.2.2.2], ok := (decV_cons (T := U21) (decV_cons (T := U21) (decV_cons (T := U2) (fun es b h => dec0_some h)))) }
def S44 (N : Nat) (x0 : V18) (x1 : V18) (x2 : Int) : Option V26 := g44 (S14 N) (S23 N) (S36 N) (S37 N) (S42 N) (S63 N) x0 x1 x2 (fun (r0 : V18) (r1 : V18) (r2 : V18) (r3 : Int) => some (r0, r1, r2, r3))
def g16_0 {R : Type} (x0 : V18) (x1 : V18) (x2 : Int) (k0 : V18 → V18 → Int → Option R) : Option R :=
k0 x0 x1 x2
theorem t16_0 {N cl} {R} (K : KE R) (x0 x1 x2) : exec cl N c16_0 [(0, .v U21 x0), (1, .v U21 x1), (2, .v U2 x2)] K = (g16_0 x0 x1 x2 (fun y0 y1 y2 => K .normal [(0, .v U21 y0), (1, .v U21 y1), (2, .v U2 y2)])) := by
  kernel_rfl
def g16_1 {R : Type} (S44 : V18 → V18 → Int → Option V26) (x0 : V18) (x1 : V18) (x2 : Int) (k0 : V18 → V18 → Int → Option R) : Option R :=
(S44 x0 x1 x2).bind fun r680 =>
k0 r680.1 r680.2.1 r680.2.2.2
theorem t16_1 {N cl} (S44) (h44 : (ctr44 S44).holds cl) {R} (K : KE R) (x0 x1 x2) : exec cl N c16_1 [(0, .v U21 x0), (1, .v U21 x1), (2, .v U2 x2)] K = (g16_1 S44 x0 x1 x2 (fun y0 y1 y2 => K .normal [(9, .v U21 y0), (10, .own true 55 U18 .no y1), (12, .v U2 y2)])) := by
  rw [← put_eq h44]
  kernel_rfl
def g16_2 {R : Type} (x0 : V18) (x1 : V18) (x2 : Int) (k0 : V18 → Int → V18 → Option R) : Option R :=
k0 x0 x2 x1
theorem t16_2 {N cl} {R} (K : KE R) (x0 x1 x2) : exec cl N c16_2 [(9, .v U21 x0), (10, .own true 55 U18 .no x1), (12, .v U2 x2)] K = (g16_2 x0 x1 x2 (fun y0 y1 y2 => K .normal [(6, .v U21 y0), (7, .ref 10 []), (8, .v U2 y1), (10, .own true 55 U18 .no y2)])) := by
  kernel_rfl
def g16_3 {R : Type} (S44 : V18 → V18 → Int → Option V26) (x0 : V18) (x1 : V18) (x2 : Int) (k0 : V18 → Int → V18 → Option R) : Option R :=
(g16_0 x0 x1 x2 (fun y0 y1 y2 => (g16_1 S44 y0 y1 y2 (fun y0 y1 y2 => (g16_2 y0 y1 y2 (fun y0 y1 y2 => (k0 y0 y1 y2)))))))
theorem t16_3 {N cl} (S44) (h44 : (ctr44 S44).holds cl) {R} (K : KE R) (x0 x1 x2) : exec cl N c16_3 [(0, .v U21 x0), (1, .v U21 x1), (2, .v U2 x2)] K = (g16_3 S44 x0 x1 x2 (fun y0 y1 y2 => K .ret [(6, .v U21 y0), (7, .ref 10 []), (8, .v U2 y1), (10, .own true 55 U18 .no y2)])) := by
  simp only [c16_3, exec_seq, seqK_normal, seqK_exit, seqK_ret, t16_0, t16_1 S44 h44, t16_2, exec_ret]
  rfl
theorem rk16_0 (y0 : V18) (y1 : Int) (y2 : V18) : retK d16 .ret [(6, .v U21 y0), (7, .ref 10 []), (8, .v U2 y1), (10, .own true 55 U18 .no y2)] = some [.v U21 y0, .own true 55 U18 .no y2, .v U2 y1] := by kernel_rfl
def g16 {R : Type} (S44 : V18 → V18 → Int → Option V26) (x0 : V18) (x1 : V18) (x2 : Int) (k : V18 → V18 → Int → Option R) : Option R :=
(g16_3 S44 x0 x1 x2 (fun y0 y1 y2 => k y0 y2 y1))
theorem gen16 {N : Nat} {cl : Cal} (S44 : V18 → V18 → Int → Option V26) (h44 : (ctr44 S44).holds cl) (x0 : V18) (x1 : V18) (x2 : Int) {R : Type} (k : List E → Option R) : exec cl N c16 (params 0 [.v U21 x0, .v U21 x1, .v U2 x2]) (fun e env => (retK d16 e env).bind k) = g16 S44 x0 x1 x2 (fun (r0 : V18) (r1 : V18) (r2 : Int) => k [.v U21 r0, .own true 55 U18 .no r1, .v U2 r2]) := by
  have e0 : params 0 [.v U21 x0, .v U21 x1, .v U2 x2] = [(0, .v U21 x0), (1, .v U21 x1), (2, .v U2 x2)] := by kernel_rfl
  simp only [c16, e0, t16_3 S44 h44, rk16_0, Option.bind_some]
  rfl
def ctr16 (S : V18 → V18 → Int → Option V25) : Ctr := { A := V18 × V18 × Int × Unit, B := V18 × V18 × Int, f := 16, enc := fun a => [.v U21 a.1, .v U21 a.2.1, .v U2 a.2.2.1], dec := (decC (decV U21) (decC (decV U21) (decC (decV U2) dec0))), S := fun a => S a.1 a.2.1 a.2.2.1, ent := fun b => [.v U21 b.1, .own true 55 U18 .no b.2.1, .v U2 b.2.2], ok := (decV_cons (T := U21) (decV_cons (T := U21) (decV_cons (T := U2) (fun es b h => dec0_some h)))) }
def S16 (N : Nat) (x0 : V18) (x1 : V18) (x2 : Int) : Option V25 := g16 (S44 N) x0 x1 x2 (fun (r0 : V18) (r1 : V18) (r2 : Int) => some (r0, r1, r2))
def g3_0 {R : Type} (x0 : V24) (x1 : V0) (x2 : V0) (k0 : V0 → V0 → V24 → Option R) : Option R :=
k0 x1 x2 x0
theorem t3_0 {N cl} {R} (K : KE R) (x0 x1 x2) : exec cl N c3_0 [(0, .v U26 x0), (1, .v U4 x1), (2, .v U4 x2)] K = (g3_0 x0 x1 x2 (fun y0 y1 y2 => K .normal [(1, .v U4 y0), (2, .v U4 y1), (3, .loc U26 .no y2)])) := by
  kernel_rfl
def g3_1 {R : Type} (S8 : Option (Bool)) (S9 : V24 → Option (Bool)) (x0 : V0) (x1 : V0) (x2 : V24) (k0 : V0 → V0 → V24 → Bool → Option R) : Option R :=
(S8).bind fun r692 =>
brB (!r692) (k0 x0 x1 x2 true) ((S9 x2).bind fun r693 =>
brB (!r693) (k0 x0 x1 x2 true) (brB (decide ((x0.length : Int) > (60 : Int))) (k0 x0 x1 x2 true) (k0 x0 x1 x2 (decide ((x1.length : Int) > (60 : Int))))))
theorem t3_1 {N cl} (S8) (S9) (h8 : (ctr8 S8).holds cl) (h9 : (ctr9 S9).holds cl) {R} (K : KE R) (x0 x1 x2) : exec cl N c3_1 [(1, .v U4 x0), (2, .v U4 x1), (3, .loc U26 .no x2)] K = (g3_1 S8 S9 x0 x1 x2 (fun y0 y1 y2 y3 => K .normal [(1, .v U4 y0), (2, .v U4 y1), (3, .loc U26 .no y2), (33, .v .bool y3)])) := by
  rw [← put_eq h8]
  rw [← put_eq h9]
  kernel_rfl
def g3_2 {R : Type} (S8 : Option (Bool)) (x0 : V0) (x1 : V0) (x2 : V24) (x3 : Bool) (k0 : Bool → Option R) : Option R :=
(S8).bind fun r696 =>
k0 r696
theorem t3_2 {N cl} (S8) (h8 : (ctr8 S8).holds cl) {R} (K : KE R) (x0 x1 x2 x3) : exec cl N c3_2 [(1, .v U4 x0), (2, .v U4 x1), (3, .loc U26 .no x2), (33, .v .bool x3)] K = (g3_2 S8 x0 x1 x2 x3 (fun y0 => K .normal [(6, .v .bool y0)])) := by
  rw [← put_eq h8]
  kernel_rfl
theorem kp3_0 (x0) : keep [1, 2, 3, 6] [(6, .v .bool x0)] = [(1, .dead), (2, .dead), (3, .dead), (6, .v .bool x0)] := by kernel_rfl
theorem kp3_1 (x0 x1 x2 x3) : keep [1, 2, 3, 6] [(1, .v U4 x0), (2, .v U4 x1), (3, .loc U26 .no x2), (33, .v .bool x3)] = [(1, .v U4 x0), (2, .v U4 x1), (3, .loc U26 .no x2), (6, .dead)] := by kernel_rfl
theorem hb3_0 (x0 : V0) (x1 : V0) (x2 : V24) (x3 : Bool) : boolOf? (ent [(1, .v U4 x0), (2, .v U4 x1), (3, .loc U26 .no x2), (33, .v .bool x3)] (.t 33)) = some x3 := by kernel_rfl
def g3_4 {R : Type} (S10 : V0 → Option V20) (x0 : V0) (x1 : V0) (x2 : V24) (k0 : V24 → V18 → V18 → Option R) : Option R :=
(S10 x0).bind fun r697 =>
(S10 x1).bind fun r698 =>
k0 x2 r697 r698
theorem t3_4 {N cl} (S10) (h10 : (ctr10 S10).holds cl) {R} (K : KE R) (x0 x1 x2) : exec cl N c3_4 [(1, .v U4 x0), (2, .v U4 x1), (3, .loc U26 .no x2), (6, .dead)] K = (g3_4 S10 x0 x1 x2 (fun y0 y1 y2 => K .normal [(3, .loc U26 .no y0), (7, .own true 55 U18 .no y1), (8, .own true 55 U18 .no y2)])) := by
  rw [← put_eq h10]
  kernel_rfl
def g3_5 {R : Type} (S11 : V24 → V1 → V1 → V18 → V18 → Option V14) (x0 : V24) (x1 : V18) (x2 : V18) (k0 : V24 → V18 → V18 → V10 → Int → Option R) : Option R :=
(S11 x0 ([105, 108, 108, 101] : List UInt8) ([101, 115, 116] : List UInt8) x1 x2).bind fun r699 =>
k0 x0 x1 x2 r699.1 r699.2
theorem t3_5 {N cl} (S11) (h11 : (ctr11 S11).holds cl) {R} (K : KE R) (x0 x1 x2) : exec cl N c3_5 [(3, .loc U26 .no x0), (7, .own true 55 U18 .no x1), (8, .own true 55 U18 .no x2)] K = (g3_5 S11 x0 x1 x2 (fun y0 y1 y2 y3 y4 => K .normal [(3, .loc U26 .no y0), (7, .own true 55 U18 .no y1), (8, .own true 55 U18 .no y2), (9, .own true 39 U16 .no y3), (10, .v U2 y4)])) := by
  rw [← put_eq h11]
  kernel_rfl
def g3_6 {R : Type} (x0 : V24) (x1 : V18) (x2 : V18) (x3 : V10) (x4 : Int) (k0 : V24 → V18 → V18 → V10 → Int → Bool → Option R) : Option R :=
k0 x0 x1 x2 x3 x4 (x4 != (0 : Int))
theorem t3_6 {N cl} {R} (K : KE R) (x0 x1 x2 x3 x4) : exec cl N c3_6 [(3, .loc U26 .no x0), (7, .own true 55 U18 .no x1), (8, .own true 55 U18 .no x2), (9, .own true 39 U16 .no x3), (10, .v U2 x4)] K = (g3_6 x0 x1 x2 x3 x4 (fun y0 y1 y2 y3 y4 y5 => K .normal [(3, .loc U26 .no y0), (7, .own true 55 U18 .no y1), (8, .own true 55 U18 .no y2), (9, .own true 39 U16 .no y3), (10, .v U2 y4), (47, .v .bool y5)])) := by
  kernel_rfl
def g3_7 {R : Type} (S12 : V24 → Option (Int)) (x0 : V24) (x1 : V18) (x2 : V18) (x3 : V10) (x4 : Int) (x5 : Bool) (k0 : Bool → Option R) : Option R :=
(S12 x0).bind fun r701 =>
brB (x4 == r701) (k0 ((x3.length : Int) == (0 : Int))) (k0 false)
theorem t3_7 {N cl} (S12) (h12 : (ctr12 S12).holds cl) {R} (K : KE R) (x0 x1 x2 x3 x4 x5) : exec cl N c3_7 [(3, .loc U26 .no x0), (7, .own true 55 U18 .no x1), (8, .own true 55 U18 .no x2), (9, .own true 39 U16 .no x3), (10, .v U2 x4), (47, .v .bool x5)] K = (g3_7 S12 x0 x1 x2 x3 x4 x5 (fun y0 => K .normal [(6, .v .bool y0)])) := by
  rw [← put_eq h12]
  kernel_rfl
theorem kp3_2 (x0) : keep [6, 7, 8, 9] [(6, .v .bool x0)] = [(6, .v .bool x0), (7, .dead), (8, .dead), (9, .dead)] := by kernel_rfl
theorem kp3_3 (x0 x1 x2 x3 x4 x5) : keep [6, 7, 8, 9] [(3, .loc U26 .no x0), (7, .own true 55 U18 .no x1), (8, .own true 55 U18 .no x2), (9, .own true 39 U16 .no x3), (10, .v U2 x4), (47, .v .bool x5)] = [(6, .dead), (7, .own true 55 U18 .no x1), (8, .own true 55 U18 .no x2), (9, .own true 39 U16 .no x3)] := by kernel_rfl
theorem hb3_1 (x0 : V24) (x1 : V18) (x2 : V18) (x3 : V10) (x4 : Int) (x5 : Bool) : boolOf? (ent [(3, .loc U26 .no x0), (7, .own true 55 U18 .no x1), (8, .own true 55 U18 .no x2), (9, .own true 39 U16 .no x3), (10, .v U2 x4), (47, .v .bool x5)] (.t 47)) = some x5 := by kernel_rfl
def g3_9 {R : Type} (S13 : V18 → Option (Bool)) (S14 : V18 → Option (Int)) (x0 : V18) (x1 : V18) (x2 : V10) (k0 : V18 → V18 → V10 → Bool → Option R) : Option R :=
(S13 x1).bind fun r703 =>
brB (!r703) (k0 x0 x1 x2 true) ((S14 x0).bind fun r704 =>
k0 x0 x1 x2 (r704 == (0 : Int)))
theorem t3_9 {N cl} (S13) (S14) (h13 : (ctr13 S13).holds cl) (h14 : (ctr14 S14).holds cl) {R} (K : KE R) (x0 x1 x2) : exec cl N c3_9 [(6, .dead), (7, .own true 55 U18 .no x0), (8, .own true 55 U18 .no x1), (9, .own true 39 U16 .no x2)] K = (g3_9 S13 S14 x0 x1 x2 (fun y0 y1 y2 y3 => K .normal [(7, .own true 55 U18 .no y0), (8, .own true 55 U18 .no y1), (9, .own true 39 U16 .no y2), (11, .v .bool y3)])) := by
  rw [← put_eq h13]
  rw [← put_eq h14]
  kernel_rfl
def g3_10 {R : Type} (x0 : V18) (x1 : V18) (x2 : V10) (x3 : Bool) (k0 : V18 → V18 → V10 → Bool → Option R) : Option R :=
k0 x0 x1 x2 x3
theorem t3_10 {N cl} {R} (K : KE R) (x0 x1 x2 x3) : exec cl N c3_10 [(7, .own true 55 U18 .no x0), (8, .own true 55 U18 .no x1), (9, .own true 39 U16 .no x2), (11, .v .bool x3)] K = (g3_10 x0 x1 x2 x3 (fun y0 y1 y2 y3 => K .normal [(7, .own true 55 U18 .no y0), (8, .own true 55 U18 .no y1), (9, .own true 39 U16 .no y2), (65, .v .bool y3)])) := by
  kernel_rfl
def g3_11 {R : Type} (S15 : V10 → V10 → Option (Bool)) (x0 : V18) (x1 : V18) (x2 : V10) (x3 : Bool) (k0 : Bool → Option R) : Option R :=
(S15 x2 [((0 : Int), (0 : Int), ())]).bind fun r707 =>
k0 r707
theorem t3_11 {N cl} (S15) (h15 : (ctr15 S15).holds cl) {R} (K : KE R) (x0 x1 x2 x3) : exec cl N c3_11 [(7, .own true 55 U18 .no x0), (8, .own true 55 U18 .no x1), (9, .own true 39 U16 .no x2), (65, .v .bool x3)] K = (g3_11 S15 x0 x1 x2 x3 (fun y0 => K .normal [(6, .v .bool y0)])) := by
  rw [← put_eq h15]
  kernel_rfl
theorem kp3_4 (x0 x1 x2 x3) : keep [6, 7, 8, 9] [(7, .own true 55 U18 .no x0), (8, .own true 55 U18 .no x1), (9, .own true 39 U16 .no x2), (65, .v .bool x3)] = [(6, .dead), (7, .own true 55 U18 .no x0), (8, .own true 55 U18 .no x1), (9, .own true 39 U16 .no x2)] := by kernel_rfl
theorem hb3_2 (x0 : V18) (x1 : V18) (x2 : V10) (x3 : Bool) : boolOf? (ent [(7, .own true 55 U18 .no x0), (8, .own true 55 U18 .no x1), (9, .own true 39 U16 .no x2), (65, .v .bool x3)] (.t 65)) = some x3 := by kernel_rfl
def g3_13 {R : Type} (x0 : V18) (x1 : V18) (x2 : V10) (k0 : V18 → V18 → V10 → Int → Int → Option R) : Option R :=
k0 x0 x1 x2 (x2.length : Int) (0 : Int)
theorem t3_13 {N cl} {R} (K : KE R) (x0 x1 x2) : exec cl N c3_13 [(6, .dead), (7, .own true 55 U18 .no x0), (8, .own true 55 U18 .no x1), (9, .own true 39 U16 .no x2)] K = (g3_13 x0 x1 x2 (fun y0 y1 y2 y3 y4 => K .normal [(7, .own true 55 U18 .no y0), (8, .own true 55 U18 .no y1), (9, .own true 39 U16 .no y2), (70, .ref 9 []), (71, .v U2 y3), (72, .v U2 y4)])) := by
  kernel_rfl
theorem kp3_5 (x0 x1 x2 x3 x4) : keep [7, 8, 9, 70, 71, 72] [(7, .own true 55 U18 .no x0), (8, .own true 55 U18 .no x1), (9, .own true 39 U16 .no x2), (70, .ref 9 []), (71, .v U2 x3), (72, .v U2 x4)] = [(7, .own true 55 U18 .no x0), (8, .own true 55 U18 .no x1), (9, .own true 39 U16 .no x2), (70, .ref 9 []), (71, .v U2 x3), (72, .v U2 x4)] := by kernel_rfl
def g3_14 {R : Type} (x0 : V18) (x1 : V18) (x2 : V10) (x3 : Int) (x4 : Int) (k0 : V18 → V18 → V10 → Int → Int → Bool → Option R) : Option R :=
k0 x0 x1 x2 x3 x4 (decide (x4 < x3))
theorem t3_14 {N cl} {R} (K : KE R) (x0 x1 x2 x3 x4) : exec cl N c3_14 [(7, .own true 55 U18 .no x0), (8, .own true 55 U18 .no x1), (9, .own true 39 U16 .no x2), (70, .ref 9 []), (71, .v U2 x3), (72, .v U2 x4)] K = (g3_14 x0 x1 x2 x3 x4 (fun y0 y1 y2 y3 y4 y5 => K .normal [(7, .own true 55 U18 .no y0), (8, .own true 55 U18 .no y1), (9, .own true 39 U16 .no y2), (70, .ref 9 []), (71, .v U2 y3), (72, .v U2 y4), (73, .v .bool y5)])) := by
  kernel_rfl
theorem kp3_6 (x0 x1 x2 x3 x4 x5) : keep [7, 8, 9, 70, 71, 72] [(7, .own true 55 U18 .no x0), (8, .own true 55 U18 .no x1), (9, .own true 39 U16 .no x2), (70, .ref 9 []), (71, .v U2 x3), (72, .v U2 x4), (73, .v .bool x5)] = [(7, .own true 55 U18 .no x0), (8, .own true 55 U18 .no x1), (9, .own true 39 U16 .no x2), (70, .ref 9 []), (71, .v U2 x3), (72, .v U2 x4)] := by kernel_rfl
theorem hb3_3 (x0 : V18) (x1 : V18) (x2 : V10) (x3 : Int) (x4 : Int) (x5 : Bool) : boolOf? (ent [(7, .own true 55 U18 .no x0), (8, .own true 55 U18 .no x1), (9, .own true 39 U16 .no x2), (70, .ref 9 []), (71, .v U2 x3), (72, .v U2 x4), (73, .v .bool x5)] (.t 73)) = some x5 := by kernel_rfl
def g3_16 {R : Type} (x0 : V18) (x1 : V18) (x2 : V10) (x3 : Int) (x4 : Int) (k0 : V18 → V18 → V10 → Int → V7 → Int → Int → Option R) : Option R :=
if 0 ≤ x4 ∧ x4 < (x2.length : Int) then
if x4.toNat < x2.length then
k0 x0 x1 x2 x4 (x2.getD x4.toNat ((0 : Int), ((0 : Int), ()))) x3 x4
else none
else none
theorem t3_16 {N cl} {R} (K : KE R) (x0 x1 x2 x3 x4) : exec cl N c3_16 [(7, .own true 55 U18 .no x0), (8, .own true 55 U18 .no x1), (9, .own true 39 U16 .no x2), (70, .ref 9 []), (71, .v U2 x3), (72, .v U2 x4)] K = (g3_16 x0 x1 x2 x3 x4 (fun y0 y1 y2 y3 y4 y5 y6 => K .normal [(7, .own true 55 U18 .no y0), (8, .own true 55 U18 .no y1), (9, .own true 39 U16 .no y2), (12, .v U2 y3), (13, .loc U16 .no y4), (70, .ref 9 []), (71, .v U2 y5), (72, .v U2 y6)])) := by
  kernel_rfl
def g3_17 {R : Type} (S16 : V18 → V18 → Int → Option V25) (x0 : V18) (x1 : V18) (x2 : V10) (x3 : Int) (x4 : V7) (x5 : Int) (x6 : Int) (k0 : V18 → V18 → V10 → Int → V7 → Int → Int → Int → Option R) : Option R :=
(S16 x0 x1 x4.1).bind fun r710 =>
k0 x0 x1 x2 x3 x4 r710.2.2 x5 x6
theorem t3_17 {N cl} (S16) (h16 : (ctr16 S16).holds cl) {R} (K : KE R) (x0 x1 x2 x3 x4 x5 x6) : exec cl N c3_17 [(7, .own true 55 U18 .no x0), (8, .own true 55 U18 .no x1), (9, .own true 39 U16 .no x2), (12, .v U2 x3), (13, .loc U16 .no x4), (70, .ref 9 []), (71, .v U2 x5), (72, .v U2 x6)] K = (g3_17 S16 x0 x1 x2 x3 x4 x5 x6 (fun y0 y1 y2 y3 y4 y5 y6 y7 => K .normal [(7, .own false 55 U18 .no y0), (8, .own false 55 U18 .no y1), (9, .own true 39 U16 .no y2), (12, .v U2 y3), (13, .loc U16 .no y4), (16, .v U2 y5), (70, .ref 9 []), (71, .v U2 y6), (72, .v U2 y7)])) := by
  rw [← put_eq h16]
  kernel_rfl
def g3_18 {R : Type} (x0 : V18) (x1 : V18) (x2 : V10) (x3 : Int) (x4 : V7) (x5 : Int) (x6 : Int) (x7 : Int) (k0 : V18 → V18 → V10 → Int → Int → Bool → Option R) : Option R :=
brB (x5 != (0 : Int)) (k0 x0 x1 x2 x6 x7 true) (brB (x4.1 == (0 : Int)) (k0 x0 x1 x2 x6 x7 true) (brB (decide (x3 > (0 : Int))) (let v714 : Int := (IntKind.i64.wrap (x3 - (1 : Int)))
if 0 ≤ v714 ∧ v714 < (x2.length : Int) then
if v714.toNat < x2.length then
k0 x0 x1 x2 x6 x7 (decide (x4.1 ≤ ((x2.getD v714.toNat ((0 : Int), ((0 : Int), ()))).1)))
else none
else none) (k0 x0 x1 x2 x6 x7 false)))
theorem t3_18 {N cl} {R} (K : KE R) (x0 x1 x2 x3 x4 x5 x6 x7) : exec cl N c3_18 [(7, .own false 55 U18 .no x0), (8, .own false 55 U18 .no x1), (9, .own true 39 U16 .no x2), (12, .v U2 x3), (13, .loc U16 .no x4), (16, .v U2 x5), (70, .ref 9 []), (71, .v U2 x6), (72, .v U2 x7)] K = (g3_18 x0 x1 x2 x3 x4 x5 x6 x7 (fun y0 y1 y2 y3 y4 y5 => K .normal [(7, .own false 55 U18 .no y0), (8, .own false 55 U18 .no y1), (9, .own true 39 U16 .no y2), (70, .ref 9 []), (71, .v U2 y3), (72, .v U2 y4), (107, .v .bool y5)])) := by
  kernel_rfl
def g3_19 {R : Type} (x0 : V18) (x1 : V18) (x2 : V10) (x3 : Int) (x4 : Int) (x5 : Bool) (k0 : Bool → Option R) : Option R :=
k0 false
theorem t3_19 {N cl} {R} (K : KE R) (x0 x1 x2 x3 x4 x5) : exec cl N c3_19 [(7, .own false 55 U18 .no x0), (8, .own false 55 U18 .no x1), (9, .own true 39 U16 .no x2), (70, .ref 9 []), (71, .v U2 x3), (72, .v U2 x4), (107, .v .bool x5)] K = (g3_19 x0 x1 x2 x3 x4 x5 (fun y0 => K .normal [(6, .v .bool y0)])) := by
  kernel_rfl
theorem kp3_7 (x0) : keep [6, 7, 8, 9, 70, 71, 72] [(6, .v .bool x0)] = [(6, .v .bool x0), (7, .dead), (8, .dead), (9, .dead), (70, .dead), (71, .dead), (72, .dead)] := by kernel_rfl
theorem kp3_8 (x0 x1 x2 x3 x4 x5) : keep [6, 7, 8, 9, 70, 71, 72] [(7, .own false 55 U18 .no x0), (8, .own false 55 U18 .no x1), (9, .own true 39 U16 .no x2), (70, .ref 9 []), (71, .v U2 x3), (72, .v U2 x4), (107, .v .bool x5)] = [(6, .dead), (7, .own false 55 U18 .no x0), (8, .own false 55 U18 .no x1), (9, .own true 39 U16 .no x2), (70, .ref 9 []), (71, .v U2 x3), (72, .v U2 x4)] := by kernel_rfl
theorem hb3_4 (x0 : V18) (x1 : V18) (x2 : V10) (x3 : Int) (x4 : Int) (x5 : Bool) : boolOf? (ent [(7, .own false 55 U18 .no x0), (8, .own false 55 U18 .no x1), (9, .own true 39 U16 .no x2), (70, .ref 9 []), (71, .v U2 x3), (72, .v U2 x4), (107, .v .bool x5)] (.t 107)) = some x5 := by kernel_rfl
theorem kp3_9 (x0) : keep [6, 7, 8, 9, 70, 71, 72] [(6, .v .bool x0), (7, .dead), (8, .dead), (9, .dead), (70, .dead), (71, .dead), (72, .dead)] = [(6, .v .bool x0), (7, .dead), (8, .dead), (9, .dead), (70, .dead), (71, .dead), (72, .dead)] := by kernel_rfl
theorem kp3_10 (x0 x1 x2 x3 x4) : keep [6, 7, 8, 9, 70, 71, 72] [(6, .dead), (7, .own false 55 U18 .no x0), (8, .own false 55 U18 .no x1), (9, .own true 39 U16 .no x2), (70, .ref 9 []), (71, .v U2 x3), (72, .v U2 x4)] = [(6, .dead), (7, .own false 55 U18 .no x0), (8, .own false 55 U18 .no x1), (9, .own true 39 U16 .no x2), (70, .ref 9 []), (71, .v U2 x3), (72, .v U2 x4)] := by kernel_rfl
def g3_22 {R : Type} (x0 : V18) (x1 : V18) (x2 : V10) (x3 : Int) (x4 : Int) (k0 : V18 → V18 → V10 → Int → Int → Option R) : Option R :=
k0 x0 x1 x2 x3 (IntKind.i64.wrap (x4 + (1 : Int)))
theorem t3_22 {N cl} {R} (K : KE R) (x0 x1 x2 x3 x4) : exec cl N c3_22 [(6, .dead), (7, .own false 55 U18 .no x0), (8, .own false 55 U18 .no x1), (9, .own true 39 U16 .no x2), (70, .ref 9 []), (71, .v U2 x3), (72, .v U2 x4)] K = (g3_22 x0 x1 x2 x3 x4 (fun y0 y1 y2 y3 y4 => K .normal [(7, .own false 55 U18 .no y0), (8, .own false 55 U18 .no y1), (9, .own true 39 U16 .no y2), (70, .ref 9 []), (71, .v U2 y3), (72, .v U2 y4)])) := by
  kernel_rfl
def g3_23 {R : Type} (S16 : V18 → V18 → Int → Option V25) (x0 : V18) (x1 : V18) (x2 : V10) (x3 : Int) (x4 : Int) (k0 : Bool → Option R) (k1 : V18 → V18 → V10 → Int → Int → Option R) (k2 : V18 → V18 → V10 → Int → Int → Option R) : Option R :=
(g3_14 x0 x1 x2 x3 x4 (fun y0 y1 y2 y3 y4 y5 => brB y5 ((fun y0 y1 y2 y3 y4 => (g3_16 y0 y1 y2 y3 y4 (fun y0 y1 y2 y3 y4 y5 y6 => (g3_17 S16 y0 y1 y2 y3 y4 y5 y6 (fun y0 y1 y2 y3 y4 y5 y6 y7 => (g3_18 y0 y1 y2 y3 y4 y5 y6 y7 (fun y0 y1 y2 y3 y4 y5 => brB y5 (g3_19 y0 y1 y2 y3 y4 y5 (fun y0 => ((fun y0 => (k0 y0)) y0))) (g3_22 y0 y1 y2 y3 y4 k1)))))))) y0 y1 y2 y3 y4) (k2 y0 y1 y2 y3 y4)))
theorem t3_23 {N cl} (S16) (h16 : (ctr16 S16).holds cl) {R} (K : KE R) (x0 x1 x2 x3 x4) : exec cl N c3_23 [(7, .own true 55 U18 .no x0), (8, .own true 55 U18 .no x1), (9, .own true 39 U16 .no x2), (70, .ref 9 []), (71, .v U2 x3), (72, .v U2 x4)] K = (g3_23 S16 x0 x1 x2 x3 x4 (fun y0 => K .ret [(6, .v .bool y0), (7, .dead), (8, .dead), (9, .dead), (70, .dead), (71, .dead), (72, .dead)]) (fun y0 y1 y2 y3 y4 => K .normal [(7, .own false 55 U18 .no y0), (8, .own false 55 U18 .no y1), (9, .own true 39 U16 .no y2), (70, .ref 9 []), (71, .v U2 y3), (72, .v U2 y4)]) (fun y0 y1 y2 y3 y4 => K (.exit 0) [(7, .own true 55 U18 .no y0), (8, .own true 55 U18 .no y1), (9, .own true 39 U16 .no y2), (70, .ref 9 []), (71, .v U2 y3), (72, .v U2 y4)])) := by
  simp only [c3_23, exec_seq, seqK_normal, seqK_exit, seqK_ret, t3_14, c3_15, exec_out, exec_cond', hb3_3, Option.bind_some, brB_true, brB_false, exec_skip, exec_exit, kp3_6, c3_21, exec_block, t3_16, t3_17 S16 h16, t3_18, c3_20, hb3_4, t3_19, exec_ret, kp3_7, kp3_8, blockK_normal, blockK_ret, blockK_eq, kp3_10, kp3_9, t3_22]
  rfl
theorem kp3_11 (x0 x1 x2 x3 x4) : keep [7, 8, 9, 70, 71, 72] [(7, .own false 55 U18 .no x0), (8, .own false 55 U18 .no x1), (9, .own true 39 U16 .no x2), (70, .ref 9 []), (71, .v U2 x3), (72, .v U2 x4)] = [(7, .own false 55 U18 .no x0), (8, .own false 55 U18 .no x1), (9, .own true 39 U16 .no x2), (70, .ref 9 []), (71, .v U2 x3), (72, .v U2 x4)] := by kernel_rfl
def g3_14b {R : Type} (x0 : V18) (x1 : V18) (x2 : V10) (x3 : Int) (x4 : Int) (k0 : V18 → V18 → V10 → Int → Int → Bool → Option R) : Option R :=
k0 x0 x1 x2 x3 x4 (decide (x4 < x3))
theorem t3_14b {N cl} {R} (K : KE R) (x0 x1 x2 x3 x4) : exec cl N c3_14 [(7, .own false 55 U18 .no x0), (8, .own false 55 U18 .no x1), (9, .own true 39 U16 .no x2), (70, .ref 9 []), (71, .v U2 x3), (72, .v U2 x4)] K = (g3_14b x0 x1 x2 x3 x4 (fun y0 y1 y2 y3 y4 y5 => K .normal [(7, .own false 55 U18 .no y0), (8, .own false 55 U18 .no y1), (9, .own true 39 U16 .no y2), (70, .ref 9 []), (71, .v U2 y3), (72, .v U2 y4), (73, .v .bool y5)])) := by
  kernel_rfl
theorem kp3_12 (x0 x1 x2 x3 x4 x5) : keep [7, 8, 9, 70, 71, 72] [(7, .own false 55 U18 .no x0), (8, .own false 55 U18 .no x1), (9, .own true 39 U16 .no x2), (70, .ref 9 []), (71, .v U2 x3), (72, .v U2 x4), (73, .v .bool x5)] = [(7, .own false 55 U18 .no x0), (8, .own false 55 U18 .no x1), (9, .own true 39 U16 .no x2), (70, .ref 9 []), (71, .v U2 x3), (72, .v U2 x4)] := by kernel_rfl
theorem hb3_5 (x0 : V18) (x1 : V18) (x2 : V10) (x3 : Int) (x4 : Int) (x5 : Bool) : boolOf? (ent [(7, .own false 55 U18 .no x0), (8, .own false 55 U18 .no x1), (9, .own true 39 U16 .no x2), (70, .ref 9 []), (71, .v U2 x3), (72, .v U2 x4), (73, .v .bool x5)] (.t 73)) = some x5 := by kernel_rfl
def g3_16b {R : Type} (x0 : V18) (x1 : V18) (x2 : V10) (x3 : Int) (x4 : Int) (k0 : V18 → V18 → V10 → Int → V7 → Int → Int → Option R) : Option R :=
if 0 ≤ x4 ∧ x4 < (x2.length : Int) then
if x4.toNat < x2.length then
k0 x0 x1 x2 x4 (x2.getD x4.toNat ((0 : Int), ((0 : Int), ()))) x3 x4
else none
else none
theorem t3_16b {N cl} {R} (K : KE R) (x0 x1 x2 x3 x4) : exec cl N c3_16 [(7, .own false 55 U18 .no x0), (8, .own false 55 U18 .no x1), (9, .own true 39 U16 .no x2), (70, .ref 9 []), (71, .v U2 x3), (72, .v U2 x4)] K = (g3_16b x0 x1 x2 x3 x4 (fun y0 y1 y2 y3 y4 y5 y6 => K .normal [(7, .own false 55 U18 .no y0), (8, .own false 55 U18 .no y1), (9, .own true 39 U16 .no y2), (12, .v U2 y3), (13, .loc U16 .no y4), (70, .ref 9 []), (71, .v U2 y5), (72, .v U2 y6)])) := by
  kernel_rfl
def g3_17b {R : Type} (S16 : V18 → V18 → Int → Option V25) (x0 : V18) (x1 : V18) (x2 : V10) (x3 : Int) (x4 : V7) (x5 : Int) (x6 : Int) (k0 : V18 → V18 → V10 → Int → V7 → Int → Int → Int → Option R) : Option R :=
(S16 x0 x1 x4.1).bind fun r720 =>
k0 x0 x1 x2 x3 x4 r720.2.2 x5 x6
theorem t3_17b {N cl} (S16) (h16 : (ctr16 S16).holds cl) {R} (K : KE R) (x0 x1 x2 x3 x4 x5 x6) : exec cl N c3_17 [(7, .own false 55 U18 .no x0), (8, .own false 55 U18 .no x1), (9, .own true 39 U16 .no x2), (12, .v U2 x3), (13, .loc U16 .no x4), (70, .ref 9 []), (71, .v U2 x5), (72, .v U2 x6)] K = (g3_17b S16 x0 x1 x2 x3 x4 x5 x6 (fun y0 y1 y2 y3 y4 y5 y6 y7 => K .normal [(7, .own false 55 U18 .no y0), (8, .own false 55 U18 .no y1), (9, .own true 39 U16 .no y2), (12, .v U2 y3), (13, .loc U16 .no y4), (16, .v U2 y5), (70, .ref 9 []), (71, .v U2 y6), (72, .v U2 y7)])) := by
  rw [← put_eq h16]
  kernel_rfl
def g3_23b {R : Type} (S16 : V18 → V18 → Int → Option V25) (x0 : V18) (x1 : V18) (x2 : V10) (x3 : Int) (x4 : Int) (k0 : Bool → Option R) (k1 : V18 → V18 → V10 → Int → Int → Option R) (k2 : V18 → V18 → V10 → Int → Int → Option R) : Option R :=
(g3_14b x0 x1 x2 x3 x4 (fun y0 y1 y2 y3 y4 y5 => brB y5 ((fun y0 y1 y2 y3 y4 => (g3_16b y0 y1 y2 y3 y4 (fun y0 y1 y2 y3 y4 y5 y6 => (g3_17b S16 y0 y1 y2 y3 y4 y5 y6 (fun y0 y1 y2 y3 y4 y5 y6 y7 => (g3_18 y0 y1 y2 y3 y4 y5 y6 y7 (fun y0 y1 y2 y3 y4 y5 => brB y5 (g3_19 y0 y1 y2 y3 y4 y5 (fun y0 => ((fun y0 => (k0 y0)) y0))) (g3_22 y0 y1 y2 y3 y4 k1)))))))) y0 y1 y2 y3 y4) (k2 y0 y1 y2 y3 y4)))
theorem t3_23b {N cl} (S16) (h16 : (ctr16 S16).holds cl) {R} (K : KE R) (x0 x1 x2 x3 x4) : exec cl N c3_23 [(7, .own false 55 U18 .no x0), (8, .own false 55 U18 .no x1), (9, .own true 39 U16 .no x2), (70, .ref 9 []), (71, .v U2 x3), (72, .v U2 x4)] K = (g3_23b S16 x0 x1 x2 x3 x4 (fun y0 => K .ret [(6, .v .bool y0), (7, .dead), (8, .dead), (9, .dead), (70, .dead), (71, .dead), (72, .dead)]) (fun y0 y1 y2 y3 y4 => K .normal [(7, .own false 55 U18 .no y0), (8, .own false 55 U18 .no y1), (9, .own true 39 U16 .no y2), (70, .ref 9 []), (71, .v U2 y3), (72, .v U2 y4)]) (fun y0 y1 y2 y3 y4 => K (.exit 0) [(7, .own false 55 U18 .no y0), (8, .own false 55 U18 .no y1), (9, .own true 39 U16 .no y2), (70, .ref 9 []), (71, .v U2 y3), (72, .v U2 y4)])) := by
  simp only [c3_23, exec_seq, seqK_normal, seqK_exit, seqK_ret, t3_14b, c3_15, exec_out, exec_cond', hb3_5, Option.bind_some, brB_true, brB_false, exec_skip, exec_exit, kp3_12, c3_21, exec_block, t3_16b, t3_17b S16 h16, t3_18, c3_20, hb3_4, t3_19, exec_ret, kp3_7, kp3_8, blockK_normal, blockK_ret, blockK_eq, kp3_10, kp3_9, t3_22]
  rfl
def l3_24b {R : Type} (S16 : V18 → V18 → Int → Option V25) (k0 : Bool → Option R) (k1 : V18 → V18 → V10 → Int → Int → Option R) : Nat → V18 → V18 → V10 → Int → Int → Option R
  | 0, _, _, _, _, _ => none
  | m + 1, x0, x1, x2, x3, x4 => (g3_23b S16 x0 x1 x2 x3 x4 k0 (fun y0 y1 y2 y3 y4 => l3_24b S16 k0 k1 m y0 y1 y2 y3 y4) k1)
theorem lt3_24b {N cl} (S16) (h16 : (ctr16 S16).holds cl) {R} (K : KE R) : ∀ (m) (x0 x1 x2 x3 x4), iter [7, 8, 9, 70, 71, 72] (fun env K => exec cl N c3_23 env K) K m [(7, .own false 55 U18 .no x0), (8, .own false 55 U18 .no x1), (9, .own true 39 U16 .no x2), (70, .ref 9 []), (71, .v U2 x3), (72, .v U2 x4)] = l3_24b S16 (fun y0 => K .ret [(6, .v .bool y0), (7, .dead), (8, .dead), (9, .dead), (70, .dead), (71, .dead), (72, .dead)]) (fun y0 y1 y2 y3 y4 => K (.exit 0) [(7, .own false 55 U18 .no y0), (8, .own false 55 U18 .no y1), (9, .own true 39 U16 .no y2), (70, .ref 9 []), (71, .v U2 y3), (72, .v U2 y4)]) m x0 x1 x2 x3 x4 := by
  intro m
  induction m with
  | zero => intros; rfl
  | succ m ih =>
    intro x0 x1 x2 x3 x4
    simp only [iter_succ, t3_23b S16 h16, loopK_normal, loopK_exit, loopK_ret, kp3_11, ih]
    rfl
def l3_24 {R : Type} (S16 : V18 → V18 → Int → Option V25) (k0 : Bool → Option R) (k1 : V18 → V18 → V10 → Int → Int → Option R) (k2 : V18 → V18 → V10 → Int → Int → Option R) : Nat → V18 → V18 → V10 → Int → Int → Option R
  | 0, _, _, _, _, _ => none
  | m + 1, x0, x1, x2, x3, x4 => (g3_23 S16 x0 x1 x2 x3 x4 k0 (fun y0 y1 y2 y3 y4 => l3_24b S16 k0 k2 m y0 y1 y2 y3 y4) k1)
theorem lt3_24 {N cl} (S16) (h16 : (ctr16 S16).holds cl) {R} (K : KE R) : ∀ (m) (x0 x1 x2 x3 x4), iter [7, 8, 9, 70, 71, 72] (fun env K => exec cl N c3_23 env K) K m [(7, .own true 55 U18 .no x0), (8, .own true 55 U18 .no x1), (9, .own true 39 U16 .no x2), (70, .ref 9 []), (71, .v U2 x3), (72, .v U2 x4)] = l3_24 S16 (fun y0 => K .ret [(6, .v .bool y0), (7, .dead), (8, .dead), (9, .dead), (70, .dead), (71, .dead), (72, .dead)]) (fun y0 y1 y2 y3 y4 => K (.exit 0) [(7, .own true 55 U18 .no y0), (8, .own true 55 U18 .no y1), (9, .own true 39 U16 .no y2), (70, .ref 9 []), (71, .v U2 y3), (72, .v U2 y4)]) (fun y0 y1 y2 y3 y4 => K (.exit 0) [(7, .own false 55 U18 .no y0), (8, .own false 55 U18 .no y1), (9, .own true 39 U16 .no y2), (70, .ref 9 []), (71, .v U2 y3), (72, .v U2 y4)]) m x0 x1 x2 x3 x4 := by
  intro m
  induction m with
  | zero => intros; rfl
  | succ m ih =>
    intro x0 x1 x2 x3 x4
    simp only [iter_succ, t3_23 S16 h16, loopK_normal, loopK_exit, loopK_ret, kp3_11, lt3_24b S16 h16]
    rfl
theorem kp3_13 (x0) : keep [6] [(6, .v .bool x0), (7, .dead), (8, .dead), (9, .dead), (70, .dead), (71, .dead), (72, .dead)] = [(6, .v .bool x0)] := by kernel_rfl
theorem kp3_14 (x0 x1 x2 x3 x4) : keep [6] [(7, .own true 55 U18 .no x0), (8, .own true 55 U18 .no x1), (9, .own true 39 U16 .no x2), (70, .ref 9 []), (71, .v U2 x3), (72, .v U2 x4)] = [(6, .dead)] := by kernel_rfl
theorem kp3_15 (x0 x1 x2 x3 x4) : keep [6] [(7, .own false 55 U18 .no x0), (8, .own false 55 U18 .no x1), (9, .own true 39 U16 .no x2), (70, .ref 9 []), (71, .v U2 x3), (72, .v U2 x4)] = [(6, .dead)] := by kernel_rfl
def g3_24 {R : Type} (N : Nat) (S16 : V18 → V18 → Int → Option V25) (x0 : V18) (x1 : V18) (x2 : V10) (x3 : Int) (x4 : Int) (k0 : Bool → Option R) (k1 : Option R) : Option R :=
l3_24 S16 (fun y0 => k0 y0) (fun y0 y1 y2 y3 y4 => k1) (fun y0 y1 y2 y3 y4 => k1) N x0 x1 x2 x3 x4
theorem t3_24 {N cl} (S16) (h16 : (ctr16 S16).holds cl) {R} (K : KE R) (x0 x1 x2 x3 x4) : exec cl N c3_24 [(7, .own true 55 U18 .no x0), (8, .own true 55 U18 .no x1), (9, .own true 39 U16 .no x2), (70, .ref 9 []), (71, .v U2 x3), (72, .v U2 x4)] K = (g3_24 N S16 x0 x1 x2 x3 x4 (fun y0 => K .ret [(6, .v .bool y0)]) (K (.exit 0) [(6, .dead)])) := by
  simp only [c3_24, exec_out, exec_loop, kp3_5, lt3_24 S16 h16, kp3_13, kp3_14, kp3_15]
  rfl
theorem kp3_16 (x0) : keep [6] [(6, .v .bool x0)] = [(6, .v .bool x0)] := by kernel_rfl
theorem kp3_17 : keep [6] [(6, .dead)] = [(6, .dead)] := by kernel_rfl
def g3_26 {R : Type} (k0 : Bool → Option R) : Option R :=
k0 true
theorem t3_26 {N cl} {R} (K : KE R) : exec cl N c3_26 [(6, .dead)] K = (g3_26 (fun y0 => K .normal [(6, .v .bool y0)])) := by
  kernel_rfl
def g3_27 {R : Type} (N : Nat) (S8 : Option (Bool)) (S9 : V24 → Option (Bool)) (S10 : V0 → Option V20) (S11 : V24 → V1 → V1 → V18 → V18 → Option V14) (S12 : V24 → Option (Int)) (S13 : V18 → Option (Bool)) (S14 : V18 → Option (Int)) (S15 : V10 → V10 → Option (Bool)) (S16 : V18 → V18 → Int → Option V25) (x0 : V24) (x1 : V0) (x2 : V0) (k0 : Bool → Option R) (k1 : Bool → Option R) (k2 : Bool → Option R) : Option R :=
(g3_0 x0 x1 x2 (fun y0 y1 y2 => (g3_1 S8 S9 y0 y1 y2 (fun y0 y1 y2 y3 => brB y3 (g3_2 S8 y0 y1 y2 y3 (fun y0 => ((fun y0 => (k0 y0)) y0))) ((fun y0 y1 y2 => (g3_4 S10 y0 y1 y2 (fun y0 y1 y2 => (g3_5 S11 y0 y1 y2 (fun y0 y1 y2 y3 y4 => (g3_6 y0 y1 y2 y3 y4 (fun y0 y1 y2 y3 y4 y5 => brB y5 (g3_7 S12 y0 y1 y2 y3 y4 y5 (fun y0 => ((fun y0 => (k1 y0)) y0))) ((fun y0 y1 y2 => (g3_9 S13 S14 y0 y1 y2 (fun y0 y1 y2 y3 => (g3_10 y0 y1 y2 y3 (fun y0 y1 y2 y3 => brB y3 (g3_11 S15 y0 y1 y2 y3 (fun y0 => ((fun y0 => (k1 y0)) y0))) ((fun y0 y1 y2 => (g3_13 y0 y1 y2 (fun y0 y1 y2 y3 y4 => (g3_24 N S16 y0 y1 y2 y3 y4 (fun y0 => (k2 y0)) (g3_26 (fun y0 => (k2 y0))))))) y0 y1 y2)))))) y1 y2 y3)))))))) y0 y1 y2)))))
theorem t3_27 {N cl} (S8) (S9) (S10) (S11) (S12) (S13) (S14) (S15) (S16) (h8 : (ctr8 S8).holds cl) (h9 : (ctr9 S9).holds cl) (h10 : (ctr10 S10).holds cl) (h11 : (ctr11 S11).holds cl) (h12 : (ctr12 S12).holds cl) (h13 : (ctr13 S13).holds cl) (h14 : (ctr14 S14).holds cl) (h15 : (ctr15 S15).holds cl) (h16 : (ctr16 S16).holds cl) {R} (K : KE R) (x0 x1 x2) : exec cl N c3_27 [(0, .v U26 x0), (1, .v U4 x1), (2, .v U4 x2)] K = (g3_27 N S8 S9 S10 S11 S12 S13 S14 S15 S16 x0 x1 x2 (fun y0 => K .ret [(1, .dead), (2, .dead), (3, .dead), (6, .v .bool y0)]) (fun y0 => K .ret [(6, .v .bool y0), (7, .dead), (8, .dead), (9, .dead)]) (fun y0 => K .ret [(6, .v .bool y0)])) := by
  simp only [c3_27, exec_seq, seqK_normal, seqK_exit, seqK_ret, t3_0, t3_1 S8 S9 h8 h9, c3_3, exec_out, exec_cond', hb3_0, Option.bind_some, brB_true, brB_false, t3_2 S8 h8, exec_ret, exec_skip, kp3_0, kp3_1, t3_4 S10 h10, t3_5 S11 h11, t3_6, c3_8, hb3_1, t3_7 S12 h12, kp3_2, kp3_3, t3_9 S13 S14 h13 h14, t3_10, c3_12, hb3_2, t3_11 S15 h15, kp3_4, t3_13, c3_25, exec_block, t3_24 S16 h16, blockK_normal, blockK_ret, blockK_eq, kp3_16, kp3_17, t3_26]
  rfl
theorem rk3_0 (y0 : Bool) : retK d3 .ret [(1, .dead), (2, .dead), (3, .dead), (6, .v .bool y0)] = some [.v .bool y0] := by kernel_rfl
theorem rk3_1 (y0 : Bool) : retK d3 .ret [(6, .v .bool y0), (7, .dead), (8, .dead), (9, .dead)] = some [.v .bool y0] := by kernel_rfl
theorem rk3_2 (y0 : Bool) : retK d3 .ret [(6, .v .bool y0)] = some [.v .bool y0] := by kernel_rfl
def g3 {R : Type} (N : Nat) (S8 : Option (Bool)) (S9 : V24 → Option (Bool)) (S10 : V0 → Option V20) (S11 : V24 → V1 → V1 → V18 → V18 → Option V14) (S12 : V24 → Option (Int)) (S13 : V18 → Option (Bool)) (S14 : V18 → Option (Int)) (S15 : V10 → V10 → Option (Bool)) (S16 : V18 → V18 → Int → Option V25) (x0 : V24) (x1 : V0) (x2 : V0) (k : Bool → Option R) : Option R :=
(g3_27 N S8 S9 S10 S11 S12 S13 S14 S15 S16 x0 x1 x2 (fun y0 => k y0) (fun y0 => k y0) (fun y0 => k y0))
theorem gen3 {N : Nat} {cl : Cal} (S8 : Option (Bool)) (S9 : V24 → Option (Bool)) (S10 : V0 → Option V20) (S11 : V24 → V1 → V1 → V18 → V18 → Option V14) (S12 : V24 → Option (Int)) (S13 : V18 → Option (Bool)) (S14 : V18 → Option (Int)) (S15 : V10 → V10 → Option (Bool)) (S16 : V18 → V18 → Int → Option V25) (h8 : (ctr8 S8).holds cl) (h9 : (ctr9 S9).holds cl) (h10 : (ctr10 S10).holds cl) (h11 : (ctr11 S11).holds cl) (h12 : (ctr12 S12).holds cl) (h13 : (ctr13 S13).holds cl) (h14 : (ctr14 S14).holds cl) (h15 : (ctr15 S15).holds cl) (h16 : (ctr16 S16).holds cl) (x0 : V24) (x1 : V0) (x2 : V0) {R : Type} (k : List E → Option R) : exec cl N c3 (params 0 [.v U26 x0, .v U4 x1, .v U4 x2]) (fun e env => (retK d3 e env).bind k) = g3 N S8 S9 S10 S11 S12 S13 S14 S15 S16 x0 x1 x2 (fun (r0 : Bool) => k [.v .bool r0]) := by
  have e0 : params 0 [.v U26 x0, .v U4 x1, .v U4 x2] = [(0, .v U26 x0), (1, .v U4 x1), (2, .v U4 x2)] := by kernel_rfl
  simp only [c3, e0, t3_27 S8 S9 S10 S11 S12 S13 S14 S15 S16 h8 h9 h10 h11 h12 h13 h14 h15 h16, rk3_0, rk3_1, rk3_2, Option.bind_some]
  rfl
def ctr3 (S : V24 → V0 → V0 → Option (Bool)) : Ctr := { A := V24 × V0 × V0 × Unit, B := Bool, f := 3, enc := fun a => [.v U26 a.1, .v U4 a.2.1, .v U4 a.2.2.1], dec := (decC (decV U26) (decC (decV U4) (decC (decV U4) dec0))), S := fun a => S a.1 a.2.1 a.2.2.1, ent := fun b => [.v .bool b], ok := (decV_cons (T := U26) (decV_cons (T := U4) (decV_cons (T := U4) (fun es b h => dec0_some h)))) }
def S3 (N : Nat) (x0 : V24) (x1 : V0) (x2 : V0) : Option (Bool) := g3 N (S8 N) (S9 N) (S10 N) (S11 N) (S12 N) (S13 N) (S14 N) (S15 N) (S16 N) x0 x1 x2 (fun (r0 : Bool) => some (r0))
end Go.Fw.L19
