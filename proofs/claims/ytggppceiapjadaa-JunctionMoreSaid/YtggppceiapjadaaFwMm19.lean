/- Printed by an own program for this claim: the machine's code of functions, or their typed forms with their equations; no conditions. -/
import Derived.Test.YtggppceiapjadaaFwMm19a
import Derived.Test.YtggppceiapjadaaFwB1
set_option linter.unusedVariables false
set_option linter.unusedSimpArgs false
namespace Go.Fw.L19
open Go Go.Fw
set_option maxRecDepth 100000
set_option linter.unusedVariables false
set_option linter.unusedSimpArgs false
variable {N : Nat} {cl : Cal} {R : Type} {K : KE R}
def g90_0 (x0 : V17) (k0 : V17 → Option R) : Option R :=
k0 x0
theorem t90_0 (x0) : exec cl N c90_0 [(0, .v U18 x0)] K = (g90_0 x0 (fun y0 => K .normal [(1, .loc U18 .no y0)])) := by
  kernel_rfl
def g90_1 (x0 : V17) (k0 : V17 → Int → Option R) : Option R :=
k0 x0 x0.1
theorem t90_1 (x0) : exec cl N c90_1 [(1, .loc U18 .no x0)] K = (g90_1 x0 (fun y0 y1 => K .normal [(1, .loc U18 .no y0), (4, .v U2 y1)])) := by
  kernel_rfl
def g90_2 (x0 : V17) (x1 : Int) (k0 : V17 → Int → Bool → Option R) : Option R :=
k0 x0 x1 (x1 == (1 : Int))
theorem t90_2 (x0 x1) : exec cl N c90_2 [(1, .loc U18 .no x0), (4, .v U2 x1)] K = (g90_2 x0 x1 (fun y0 y1 y2 => K .normal (e129 y0 y1 y2))) := by
  kernel_rfl
def g90_3 (x0 : V17) (x1 : Int) (x2 : Bool) (k0 : Bool → Option R) : Option R :=
brB (decide (x0.2.1 ≥ (1 : Int))) (k0 (decide (x0.2.1 ≤ (3 : Int)))) (k0 false)
theorem t90_3 (x0 x1 x2) : exec cl N c90_3 (e129 x0 x1 x2) K = (g90_3 x0 x1 x2 (fun y0 => K .normal [(2, .v .bool y0)])) := by
  kernel_rfl
theorem kp90_0 (x0) : keep [1, 2] [(2, .v .bool x0)] = (e130 x0) := by kernel_rfl
def g90_4 (x0 : V17) (x1 : Int) (x2 : Bool) (k0 : V17 → Bool → Option R) : Option R :=
k0 x0 (x1 == (2 : Int))
theorem t90_4 (x0 x1 x2) : exec cl N c90_4 (e129 x0 x1 x2) K = (g90_4 x0 x1 x2 (fun y0 y1 => K .normal (e131 y0 y1))) := by
  kernel_rfl
def g90_5 (x0 : V17) (x1 : Bool) (k0 : Bool → Option R) : Option R :=
k0 (x0.2.1 == (2 : Int))
theorem t90_5 (x0 x1) : exec cl N c90_5 (e131 x0 x1) K = (g90_5 x0 x1 (fun y0 => K .normal [(2, .v .bool y0)])) := by
  kernel_rfl
theorem kp90_1 (x0 x1) : keep [1, 2] (e131 x0 x1) = (e132 x0) := by kernel_rfl
theorem hb90_0 (x0 x1) : boolOf? (ent (e131 x0 x1) (.t 15)) = some x1 := by kernel_rfl
theorem kp90_2 (x0) : keep [1, 2] (e130 x0) = (e130 x0) := by kernel_rfl
theorem kp90_3 (x0) : keep [1, 2] (e132 x0) = (e132 x0) := by kernel_rfl
theorem hb90_1 (x0 x1 x2) : boolOf? (ent (e129 x0 x1 x2) (.t 5)) = some x2 := by kernel_rfl
def g90_9 (x0 : V17) (k0 : Bool → Option R) : Option R :=
k0 (x0.2.1 == (0 : Int))
theorem t90_9 (x0) : exec cl N c90_9 (e132 x0) K = (g90_9 x0 (fun y0 => K .normal [(2, .v .bool y0)])) := by
  kernel_rfl
def g90_10 (x0 : V17) (k0 : Bool → Option R) (k1 : Bool → Option R) : Option R :=
(g90_0 x0 (fun y0 => (g90_1 y0 (fun y0 y1 => (g90_2 y0 y1 (fun y0 y1 y2 => brB y2 (g90_3 y0 y1 y2 (fun y0 => ((fun y0 => (k0 y0)) y0))) (g90_4 y0 y1 y2 (fun y0 y1 => brB y1 (g90_5 y0 y1 (fun y0 => ((fun y0 => (k0 y0)) y0))) ((fun y0 => ((fun y0 => ((fun y0 => (g90_9 y0 (fun y0 => (k1 y0)))) y0)) y0)) y0)))))))))
theorem t90_10 (x0) : exec cl N c90_10 [(0, .v U18 x0)] K = (g90_10 x0 (fun y0 => K .ret (e130 y0)) (fun y0 => K .ret [(2, .v .bool y0)])) := by
  simp only [c90_10, exec_seq, seqK_normal, seqK_exit, seqK_ret, t90_0, t90_1, c90_8, exec_out, exec_block, t90_2, c90_7, exec_cond', hb90_1, Option.bind_some, brB_true, brB_false, t90_3, exec_ret, t90_4, c90_6, hb90_0, t90_5, exec_skip, kp90_0, kp90_1, kp90_2, kp90_3, blockK_normal, blockK_ret, blockK_eq, t90_9]
  rfl
theorem rk90_0 (y0) : retK d90 .ret (e130 y0) = some [.v .bool y0] := by kernel_rfl
theorem rk90_1 (y0) : retK d90 .ret [(2, .v .bool y0)] = some [.v .bool y0] := by kernel_rfl
def g90 (x0 : V17) (k : Bool → Option R) : Option R :=
(g90_10 x0 (fun y0 => k y0) (fun y0 => k y0))
theorem gen90 {N : Nat} {cl : Cal} (x0 : V17) {R : Type} (k : List E → Option R) : exec cl N c90 (params 0 [.v U18 x0]) (fun e env => (retK d90 e env).bind k) = g90 x0 (fun (r0 : Bool) => k [.v .bool r0]) := by
  have e0 : params 0 [.v U18 x0] = [(0, .v U18 x0)] := by kernel_rfl
  simp only [c90, e0, t90_10, rk90_0, rk90_1, Option.bind_some]
  rfl
def ctr90 (S : V17 → Option (Bool)) : Ctr := { A := V17 × Unit, B := Bool, f := 90, enc := fun a => [.v U18 a.1], dec := (decC (decV U18) dec0), S := fun a => S a.1, ent := fun b => [.v .bool b], ok := (decV_cons (T := U18) (fun es b h => dec0_some h)) }
def S90 (N : Nat) (x0 : V17) : Option (Bool) := g90 x0 (fun (r0 : Bool) => some (r0))
def g93_0 (x0 : Int) (k0 : Int → Option R) : Option R :=
k0 x0
theorem t93_0 (x0) : exec cl N c93_0 [(0, .v U3 x0)] K = (g93_0 x0 (fun y0 => K .normal [(0, .v U3 y0)])) := by
  kernel_rfl
def g93_1 (x0 : Int) (k0 : Bool → Option R) : Option R :=
brB (decide (x0 ≥ (97 : Int))) (brB (decide (x0 ≤ (122 : Int))) (k0 true) (brB (decide (x0 ≥ (48 : Int))) (brB (decide (x0 ≤ (57 : Int))) (k0 true) (brB (x0 == (95 : Int)) (k0 true) (brB (x0 == (94 : Int)) (k0 true) (k0 (x0 == (39 : Int)))))) (brB (x0 == (95 : Int)) (k0 true) (brB (x0 == (94 : Int)) (k0 true) (k0 (x0 == (39 : Int))))))) (brB (decide (x0 ≥ (48 : Int))) (brB (decide (x0 ≤ (57 : Int))) (k0 true) (brB (x0 == (95 : Int)) (k0 true) (brB (x0 == (94 : Int)) (k0 true) (k0 (x0 == (39 : Int)))))) (brB (x0 == (95 : Int)) (k0 true) (brB (x0 == (94 : Int)) (k0 true) (k0 (x0 == (39 : Int))))))
theorem t93_1 (x0) : exec cl N c93_1 [(0, .v U3 x0)] K = (g93_1 x0 (fun y0 => K .normal [(2, .v .bool y0)])) := by
  kernel_rfl
def g93_2 (x0 : Int) (k0 : Bool → Option R) : Option R :=
(g93_0 x0 (fun y0 => (g93_1 y0 (fun y0 => (k0 y0)))))
theorem t93_2 (x0) : exec cl N c93_2 [(0, .v U3 x0)] K = (g93_2 x0 (fun y0 => K .ret [(2, .v .bool y0)])) := by
  simp only [c93_2, exec_seq, seqK_normal, seqK_exit, seqK_ret, t93_0, t93_1, exec_ret]
  rfl
theorem rk93_0 (y0) : retK d93 .ret [(2, .v .bool y0)] = some [.v .bool y0] := by kernel_rfl
def g93 (x0 : Int) (k : Bool → Option R) : Option R :=
(g93_2 x0 (fun y0 => k y0))
theorem gen93 {N : Nat} {cl : Cal} (x0 : Int) {R : Type} (k : List E → Option R) : exec cl N c93 (params 0 [.v U3 x0]) (fun e env => (retK d93 e env).bind k) = g93 x0 (fun (r0 : Bool) => k [.v .bool r0]) := by
  have e0 : params 0 [.v U3 x0] = [(0, .v U3 x0)] := by kernel_rfl
  simp only [c93, e0, t93_2, rk93_0, Option.bind_some]
  rfl
def ctr93 (S : Int → Option (Bool)) : Ctr := { A := Int × Unit, B := Bool, f := 93, enc := fun a => [.v U3 a.1], dec := (decC (decV U3) dec0), S := fun a => S a.1, ent := fun b => [.v .bool b], ok := (decV_cons (T := U3) (fun es b h => dec0_some h)) }
def S93 (N : Nat) (x0 : Int) : Option (Bool) := g93 x0 (fun (r0 : Bool) => some (r0))
def g92_0 (x0 : Int) (k0 : Int → Option R) : Option R :=
k0 x0
theorem t92_0 (x0) : exec cl N c92_0 [(0, .v U3 x0)] K = (g92_0 x0 (fun y0 => K .normal [(0, .v U3 y0)])) := by
  kernel_rfl
def g92_1 (S93 : Int → Option (Bool)) (x0 : Int) (k0 : Bool → Option R) : Option R :=
(S93 x0).bind fun r483 =>
k0 (!r483)
theorem t92_1 (S93) (h93 : (ctr93 S93).holds cl) (x0) : exec cl N c92_1 [(0, .v U3 x0)] K = (g92_1 S93 x0 (fun y0 => K .normal [(2, .v .bool y0)])) := by
  rw [← put_eq h93]
  kernel_rfl
def g92_2 (S93 : Int → Option (Bool)) (x0 : Int) (k0 : Bool → Option R) : Option R :=
(g92_0 x0 (fun y0 => (g92_1 S93 y0 (fun y0 => (k0 y0)))))
theorem t92_2 (S93) (h93 : (ctr93 S93).holds cl) (x0) : exec cl N c92_2 [(0, .v U3 x0)] K = (g92_2 S93 x0 (fun y0 => K .ret [(2, .v .bool y0)])) := by
  simp only [c92_2, exec_seq, seqK_normal, seqK_exit, seqK_ret, t92_0, t92_1 S93 h93, exec_ret]
  rfl
theorem rk92_0 (y0) : retK d92 .ret [(2, .v .bool y0)] = some [.v .bool y0] := by kernel_rfl
def g92 (S93 : Int → Option (Bool)) (x0 : Int) (k : Bool → Option R) : Option R :=
(g92_2 S93 x0 (fun y0 => k y0))
theorem gen92 {N : Nat} {cl : Cal} (S93 : Int → Option (Bool)) (h93 : (ctr93 S93).holds cl) (x0 : Int) {R : Type} (k : List E → Option R) : exec cl N c92 (params 0 [.v U3 x0]) (fun e env => (retK d92 e env).bind k) = g92 S93 x0 (fun (r0 : Bool) => k [.v .bool r0]) := by
  have e0 : params 0 [.v U3 x0] = [(0, .v U3 x0)] := by kernel_rfl
  simp only [c92, e0, t92_2 S93 h93, rk92_0, Option.bind_some]
  rfl
def ctr92 (S : Int → Option (Bool)) : Ctr := { A := Int × Unit, B := Bool, f := 92, enc := fun a => [.v U3 a.1], dec := (decC (decV U3) dec0), S := fun a => S a.1, ent := fun b => [.v .bool b], ok := (decV_cons (T := U3) (fun es b h => dec0_some h)) }
def S92 (N : Nat) (x0 : Int) : Option (Bool) := g92 (S93 N) x0 (fun (r0 : Bool) => some (r0))
def g108_0 (x0 : V1) (x1 : V13) (x2 : Bool) (k0 : V1 → V13 → Bool → Option R) : Option R :=
k0 x0 x1 x2
theorem t108_0 (x0 x1 x2) : exec cl N c108_0 (e133 x0 x1 x2) K = (g108_0 x0 x1 x2 (fun y0 y1 y2 => K .normal (e133 y0 y1 y2))) := by
  kernel_rfl
def g108_1 (x0 : V1) (x1 : V13) (x2 : Bool) (k0 : V13 → Bool → V1 → Nat → Option R) : Option R :=
k0 x1 x2 x0 (0 : Nat)
theorem t108_1 (x0 x1 x2) : exec cl N c108_1 (e133 x0 x1 x2) K = (g108_1 x0 x1 x2 (fun y0 y1 y2 y3 => K .normal (e134 y0 y1 y2 y3))) := by
  kernel_rfl
theorem kp108_0 (x0 x1 x2 x3) : keep [1, 2, 10] (e134 x0 x1 x2 x3) = (e134 x0 x1 x2 x3) := by kernel_rfl
def g108_2 (x0 : V13) (x1 : Bool) (x2 : V1) (x3 : Nat) (k0 : V13 → Bool → V1 → Nat → Bool → Int → Int → Bool → Option R) (k1 : V13 → Bool → V1 → Nat → Bool → Bool → Option R) : Option R :=
brB (decide (x3 < x2.length)) (k0 x0 x1 x2 (x3 + (Utf8.decode ⟨⟨x2⟩⟩ x3).2) true ((x3 : Nat) : Int) (((Utf8.decode ⟨⟨x2⟩⟩ x3).1 : Nat) : Int) true) (k1 x0 x1 x2 x3 false false)
theorem t108_2 (x0 x1 x2 x3) : exec cl N c108_2 (e134 x0 x1 x2 x3) K = (g108_2 x0 x1 x2 x3 (fun y0 y1 y2 y3 y4 y5 y6 y7 => K .normal (e135 y0 y1 y2 y3 y4 y5 y6 y7)) (fun y0 y1 y2 y3 y4 y5 => K .normal (e136 y0 y1 y2 y3 y4 y5))) := by
  kernel_rfl
theorem kp108_1 (x0 x1 x2 x3 x4 x5 x6 x7) : keep [1, 2, 10, 11] (e135 x0 x1 x2 x3 x4 x5 x6 x7) = (e137 x0 x1 x2 x3 x4 x5 x6) := by kernel_rfl
theorem hb108_0 (x0 x1 x2 x3 x4 x5 x6 x7) : boolOf? (ent (e135 x0 x1 x2 x3 x4 x5 x6 x7) (.t 12)) = some x7 := by kernel_rfl
def g108_4 (x0 : V13) (x1 : Bool) (x2 : V1) (x3 : Nat) (x4 : Bool) (x5 x6 : Int) (k0 : V13 → Bool → Int → Int → V1 → Nat → Option R) : Option R :=
k0 x0 x1 x5 x6 x2 x3
theorem t108_4 (x0 x1 x2 x3 x4 x5 x6) : exec cl N c108_4 (e137 x0 x1 x2 x3 x4 x5 x6) K = (g108_4 x0 x1 x2 x3 x4 x5 x6 (fun y0 y1 y2 y3 y4 y5 => K .normal [(1, .v U12 y0), (2, .v .bool y1), (7, .v U2 y2), (8, .v U3 y3), (10, .it y4 y5)])) := by
  kernel_rfl
def g108_5 (x0 : V13) (x1 : Bool) (x2 x3 : Int) (x4 : V1) (x5 : Nat) (k0 : V13 → Bool → Int → V1 → Nat → Bool → Option R) : Option R :=
(x0 (x3, ())).bind fun r489 =>
k0 x0 x1 x2 x4 x5 (r489 == x1)
theorem t108_5 (x0 x1 x2 x3 x4 x5) : exec cl N c108_5 [(1, .v U12 x0), (2, .v .bool x1), (7, .v U2 x2), (8, .v U3 x3), (10, .it x4 x5)] K = (g108_5 x0 x1 x2 x3 x4 x5 (fun y0 y1 y2 y3 y4 y5 => K .normal (e138 y0 y1 y2 y3 y4 y5))) := by
  kernel_rfl
def g108_6 (x0 : V13) (x1 : Bool) (x2 : Int) (x3 : V1) (x4 : Nat) (x5 : Bool) (k0 : Int → Option R) : Option R :=
k0 x2
theorem t108_6 (x0 x1 x2 x3 x4 x5) : exec cl N c108_6 (e138 x0 x1 x2 x3 x4 x5) K = (g108_6 x0 x1 x2 x3 x4 x5 (fun y0 => K .normal [(6, .v U2 y0)])) := by
  kernel_rfl
theorem kp108_2 (x0) : keep [1, 2, 6, 10] [(6, .v U2 x0)] = (e139 x0) := by kernel_rfl
theorem kp108_3 (x0 x1 x2 x3 x4 x5) : keep [1, 2, 6, 10] (e138 x0 x1 x2 x3 x4 x5) = (e140 x0 x1 x3 x4) := by kernel_rfl
theorem hb108_1 (x0 x1 x2 x3 x4 x5) : boolOf? (ent (e138 x0 x1 x2 x3 x4 x5) (.t 19)) = some x5 := by kernel_rfl
theorem kp108_4 (x0) : keep [1, 2, 6, 10] (e139 x0) = (e139 x0) := by kernel_rfl
theorem kp108_5 (x0 x1 x2 x3) : keep [1, 2, 6, 10] (e140 x0 x1 x2 x3) = (e140 x0 x1 x2 x3) := by kernel_rfl
theorem kp108_6 (x0 x1 x2 x3 x4 x5) : keep [1, 2, 10, 11] (e136 x0 x1 x2 x3 x4 x5) = (e141 x0 x1 x2 x3 x4) := by kernel_rfl
theorem hb108_2 (x0 x1 x2 x3 x4 x5) : boolOf? (ent (e136 x0 x1 x2 x3 x4 x5) (.t 12)) = some x5 := by kernel_rfl
def g108_4b (x0 : V13) (x1 : Bool) (x2 : V1) (x3 : Nat) (x4 : Bool) : Option R :=
none /- extract 1 of 1 -/
theorem t108_4b (x0 x1 x2 x3 x4) : exec cl N c108_4 (e141 x0 x1 x2 x3 x4) K = (g108_4b x0 x1 x2 x3 x4) := by
  kernel_rfl
def g108_9 (x0 : V13) (x1 : Bool) (x2 : V1) (x3 : Nat) (k0 : Int → Option R) (k1 : V13 → Bool → V1 → Nat → Option R) (k2 : V13 → Bool → V1 → Nat → Bool → Int → Int → Option R) (k3 : V13 → Bool → V1 → Nat → Bool → Option R) : Option R :=
(g108_2 x0 x1 x2 x3 (fun y0 y1 y2 y3 y4 y5 y6 y7 => brB y7 ((fun y0 y1 y2 y3 y4 y5 y6 => (g108_4 y0 y1 y2 y3 y4 y5 y6 (fun y0 y1 y2 y3 y4 y5 => (g108_5 y0 y1 y2 y3 y4 y5 (fun y0 y1 y2 y3 y4 y5 => brB y5 (g108_6 y0 y1 y2 y3 y4 y5 (fun y0 => ((fun y0 => (k0 y0)) y0))) (k1 y0 y1 y3 y4)))))) y0 y1 y2 y3 y4 y5 y6) (k2 y0 y1 y2 y3 y4 y5 y6)) (fun y0 y1 y2 y3 y4 y5 => brB y5 (g108_4b y0 y1 y2 y3 y4) (k3 y0 y1 y2 y3 y4)))
theorem t108_9 (x0 x1 x2 x3) : exec cl N c108_9 (e134 x0 x1 x2 x3) K = (g108_9 x0 x1 x2 x3 (fun y0 => K .ret (e139 y0)) (fun y0 y1 y2 y3 => K .normal (e140 y0 y1 y2 y3)) (fun y0 y1 y2 y3 y4 y5 y6 => K (.exit 0) (e137 y0 y1 y2 y3 y4 y5 y6)) (fun y0 y1 y2 y3 y4 => K (.exit 0) (e141 y0 y1 y2 y3 y4))) := by
  simp only [c108_9, exec_seq, seqK_normal, seqK_exit, seqK_ret, t108_2, c108_3, exec_out, exec_cond', hb108_0, Option.bind_some, brB_true, brB_false, exec_skip, exec_exit, kp108_1, c108_8, exec_block, t108_4, t108_5, c108_7, hb108_1, t108_6, exec_ret, kp108_2, kp108_3, blockK_normal, blockK_ret, blockK_eq, kp108_4, kp108_5, hb108_2, kp108_6, t108_4b]
  rfl
theorem kp108_7 (x0 x1 x2 x3) : keep [1, 2, 10] (e140 x0 x1 x2 x3) = (e134 x0 x1 x2 x3) := by kernel_rfl
def l108_10 {R : Type} (k0 : Int → Option R) (k1 : V13 → Bool → V1 → Nat → Bool → Int → Int → Option R) (k2 : V13 → Bool → V1 → Nat → Bool → Option R) : Nat → V13 → Bool → V1 → Nat → Option R
  | 0, _, _, _, _ => none
  | m + 1, x0, x1, x2, x3 => (g108_9 x0 x1 x2 x3 k0 (fun y0 y1 y2 y3 => l108_10 k0 k1 k2 m y0 y1 y2 y3) k1 k2)
theorem lt108_10 : ∀ (m) (x0 x1 x2 x3), iter [1, 2, 10] (fun env K => exec cl N c108_9 env K) K m (e134 x0 x1 x2 x3) = l108_10 (fun y0 => K .ret (e139 y0)) (fun y0 y1 y2 y3 y4 y5 y6 => K (.exit 0) (e137 y0 y1 y2 y3 y4 y5 y6)) (fun y0 y1 y2 y3 y4 => K (.exit 0) (e141 y0 y1 y2 y3 y4)) m x0 x1 x2 x3 := by
  intro m
  induction m with
  | zero => intros; rfl
  | succ m ih =>
    intro x0 x1 x2 x3
    simp only [iter_succ, t108_9, loopK_normal, loopK_exit, loopK_ret, kp108_7, ih]
    rfl
theorem kp108_8 (x0) : keep [6] (e139 x0) = [(6, .v U2 x0)] := by kernel_rfl
theorem kp108_9 (x0 x1 x2 x3 x4 x5 x6) : keep [6] (e137 x0 x1 x2 x3 x4 x5 x6) = [(6, .dead)] := by kernel_rfl
theorem kp108_10 (x0 x1 x2 x3 x4) : keep [6] (e141 x0 x1 x2 x3 x4) = [(6, .dead)] := by kernel_rfl
def g108_10 (N : Nat) (x0 : V13) (x1 : Bool) (x2 : V1) (x3 : Nat) (k0 : Int → Option R) (k1 : Option R) : Option R :=
l108_10 (fun y0 => k0 y0) (fun y0 y1 y2 y3 y4 y5 y6 => k1) (fun y0 y1 y2 y3 y4 => k1) N x0 x1 x2 x3
theorem t108_10 (x0 x1 x2 x3) : exec cl N c108_10 (e134 x0 x1 x2 x3) K = (g108_10 N x0 x1 x2 x3 (fun y0 => K .ret [(6, .v U2 y0)]) (K (.exit 0) [(6, .dead)])) := by
  simp only [c108_10, exec_out, exec_loop, kp108_0, lt108_10, kp108_10, kp108_8, kp108_9]
  rfl
theorem kp108_11 (x0) : keep [6] [(6, .v U2 x0)] = [(6, .v U2 x0)] := by kernel_rfl
theorem kp108_12 : keep [6] [(6, .dead)] = [(6, .dead)] := by kernel_rfl
def g108_12 (k0 : Int → Option R) : Option R :=
k0 (-1 : Int)
theorem t108_12 : exec cl N c108_12 [(6, .dead)] K = (g108_12 (fun y0 => K .normal [(6, .v U2 y0)])) := by
  kernel_rfl
def g108_13 (N : Nat) (x0 : V1) (x1 : V13) (x2 : Bool) (k0 : Int → Option R) : Option R :=
(g108_0 x0 x1 x2 (fun y0 y1 y2 => (g108_1 y0 y1 y2 (fun y0 y1 y2 y3 => (g108_10 N y0 y1 y2 y3 (fun y0 => (k0 y0)) (g108_12 (fun y0 => (k0 y0))))))))
theorem t108_13 (x0 x1 x2) : exec cl N c108_13 (e133 x0 x1 x2) K = (g108_13 N x0 x1 x2 (fun y0 => K .ret [(6, .v U2 y0)])) := by
  simp only [c108_13, exec_seq, seqK_normal, seqK_exit, seqK_ret, t108_0, t108_1, c108_11, exec_out, exec_block, t108_10, blockK_normal, blockK_ret, blockK_eq, kp108_11, kp108_12, t108_12, exec_ret]
  rfl
theorem rk108_0 (y0) : retK d108 .ret [(6, .v U2 y0)] = some [.v U2 y0] := by kernel_rfl
def g108 (N : Nat) (x0 : V1) (x1 : V13) (x2 : Bool) (k : Int → Option R) : Option R :=
(g108_13 N x0 x1 x2 (fun y0 => k y0))
theorem gen108 {N : Nat} {cl : Cal} (x0 : V1) (x1 : V13) (x2 : Bool) {R : Type} (k : List E → Option R) : exec cl N c108 (params 0 [.v .str x0, .v U12 x1, .v .bool x2]) (fun e env => (retK d108 e env).bind k) = g108 N x0 x1 x2 (fun (r0 : Int) => k [.v U2 r0]) := by
  have e0 : params 0 [.v .str x0, .v U12 x1, .v .bool x2] = (e133 x0 x1 x2) := by kernel_rfl
  simp only [c108, e0, t108_13, rk108_0, Option.bind_some]
  rfl
def ctr108 (S : V1 → V13 → Bool → Option (Int)) : Ctr := { A := V1 × V13 × Bool × Unit, B := Int, f := 108, enc := fun a => [.v .str a.1, .v U12 a.2.1, .v .bool a.2.2.1], dec := (decC (decV .str) (decC (decV U12) (decC (decV .bool) dec0))), S := fun a => S a.1 a.2.1 a.2.2.1, ent := fun b => [.v U2 b], ok := (decV_cons (T := .str) (decV_cons (T := U12) (decV_cons (T := .bool) (fun es b h => dec0_some h)))) }
def S108 (N : Nat) (x0 : V1) (x1 : V13) (x2 : Bool) : Option (Int) := g108 N x0 x1 x2 (fun (r0 : Int) => some (r0))
def g101_0 (x0 : V1) (x1 : V13) (k0 : V1 → V13 → Option R) : Option R :=
k0 x0 x1
theorem t101_0 (x0 x1) : exec cl N c101_0 (e142 x0 x1) K = (g101_0 x0 x1 (fun y0 y1 => K .normal (e142 y0 y1))) := by
  kernel_rfl
def g101_1 (S108 : V1 → V13 → Bool → Option (Int)) (x0 : V1) (x1 : V13) (k0 : Int → Option R) : Option R :=
(S108 x0 x1 true).bind fun r491 =>
k0 r491
theorem t101_1 (S108) (h108 : (ctr108 S108).holds cl) (x0 x1) : exec cl N c101_1 (e142 x0 x1) K = (g101_1 S108 x0 x1 (fun y0 => K .normal [(4, .v U2 y0)])) := by
  rw [← put_eq h108]
  kernel_rfl
def g101_2 (S108 : V1 → V13 → Bool → Option (Int)) (x0 : V1) (x1 : V13) (k0 : Int → Option R) : Option R :=
(g101_0 x0 x1 (fun y0 y1 => (g101_1 S108 y0 y1 (fun y0 => (k0 y0)))))
theorem t101_2 (S108) (h108 : (ctr108 S108).holds cl) (x0 x1) : exec cl N c101_2 (e142 x0 x1) K = (g101_2 S108 x0 x1 (fun y0 => K .ret [(4, .v U2 y0)])) := by
  simp only [c101_2, exec_seq, seqK_normal, seqK_exit, seqK_ret, t101_0, t101_1 S108 h108, exec_ret]
  rfl
theorem rk101_0 (y0) : retK d101 .ret [(4, .v U2 y0)] = some [.v U2 y0] := by kernel_rfl
def g101 (S108 : V1 → V13 → Bool → Option (Int)) (x0 : V1) (x1 : V13) (k : Int → Option R) : Option R :=
(g101_2 S108 x0 x1 (fun y0 => k y0))
theorem gen101 {N : Nat} {cl : Cal} (S108 : V1 → V13 → Bool → Option (Int)) (h108 : (ctr108 S108).holds cl) (x0 : V1) (x1 : V13) {R : Type} (k : List E → Option R) : exec cl N c101 (params 0 [.v .str x0, .v U12 x1]) (fun e env => (retK d101 e env).bind k) = g101 S108 x0 x1 (fun (r0 : Int) => k [.v U2 r0]) := by
  have e0 : params 0 [.v .str x0, .v U12 x1] = (e142 x0 x1) := by kernel_rfl
  simp only [c101, e0, t101_2 S108 h108, rk101_0, Option.bind_some]
  rfl
def ctr101 (S : V1 → V13 → Option (Int)) : Ctr := { A := V1 × V13 × Unit, B := Int, f := 101, enc := fun a => [.v .str a.1, .v U12 a.2.1], dec := (decC (decV .str) (decC (decV U12) dec0)), S := fun a => S a.1 a.2.1, ent := fun b => [.v U2 b], ok := (decV_cons (T := .str) (decV_cons (T := U12) (fun es b h => dec0_some h))) }
def S101 (N : Nat) (x0 : V1) (x1 : V13) : Option (Int) := g101 (S108 N) x0 x1 (fun (r0 : Int) => some (r0))
def g91_0 (x0 : V1) (x1 : V13) (k0 : V1 → V13 → Option R) : Option R :=
k0 x0 x1
theorem t91_0 (x0 x1) : exec cl N c91_0 (e142 x0 x1) K = (g91_0 x0 x1 (fun y0 y1 => K .normal (e142 y0 y1))) := by
  kernel_rfl
def g91_1 (S101 : V1 → V13 → Option (Int)) (x0 : V1) (x1 : V13) (k0 : Bool → Option R) : Option R :=
(S101 x0 x1).bind fun r494 =>
k0 (decide (r494 ≥ (0 : Int)))
theorem t91_1 (S101) (h101 : (ctr101 S101).holds cl) (x0 x1) : exec cl N c91_1 (e142 x0 x1) K = (g91_1 S101 x0 x1 (fun y0 => K .normal [(4, .v .bool y0)])) := by
  rw [← put_eq h101]
  kernel_rfl
def g91_2 (S101 : V1 → V13 → Option (Int)) (x0 : V1) (x1 : V13) (k0 : Bool → Option R) : Option R :=
(g91_0 x0 x1 (fun y0 y1 => (g91_1 S101 y0 y1 (fun y0 => (k0 y0)))))
theorem t91_2 (S101) (h101 : (ctr101 S101).holds cl) (x0 x1) : exec cl N c91_2 (e142 x0 x1) K = (g91_2 S101 x0 x1 (fun y0 => K .ret [(4, .v .bool y0)])) := by
  simp only [c91_2, exec_seq, seqK_normal, seqK_exit, seqK_ret, t91_0, t91_1 S101 h101, exec_ret]
  rfl
theorem rk91_0 (y0) : retK d91 .ret [(4, .v .bool y0)] = some [.v .bool y0] := by kernel_rfl
def g91 (S101 : V1 → V13 → Option (Int)) (x0 : V1) (x1 : V13) (k : Bool → Option R) : Option R :=
(g91_2 S101 x0 x1 (fun y0 => k y0))
theorem gen91 {N : Nat} {cl : Cal} (S101 : V1 → V13 → Option (Int)) (h101 : (ctr101 S101).holds cl) (x0 : V1) (x1 : V13) {R : Type} (k : List E → Option R) : exec cl N c91 (params 0 [.v .str x0, .v U12 x1]) (fun e env => (retK d91 e env).bind k) = g91 S101 x0 x1 (fun (r0 : Bool) => k [.v .bool r0]) := by
  have e0 : params 0 [.v .str x0, .v U12 x1] = (e142 x0 x1) := by kernel_rfl
  simp only [c91, e0, t91_2 S101 h101, rk91_0, Option.bind_some]
  rfl
def ctr91 (S : V1 → V13 → Option (Bool)) : Ctr := { A := V1 × V13 × Unit, B := Bool, f := 91, enc := fun a => [.v .str a.1, .v U12 a.2.1], dec := (decC (decV .str) (decC (decV U12) dec0)), S := fun a => S a.1 a.2.1, ent := fun b => [.v .bool b], ok := (decV_cons (T := .str) (decV_cons (T := U12) (fun es b h => dec0_some h))) }
def S91 (N : Nat) (x0 : V1) (x1 : V13) : Option (Bool) := g91 (S101 N) x0 x1 (fun (r0 : Bool) => some (r0))
def g75_0 (x0 : V17) (k0 : V17 → Option R) : Option R :=
k0 x0
theorem t75_0 (x0) : exec cl N c75_0 [(0, .v U18 x0)] K = (g75_0 x0 (fun y0 => K .normal [(1, .loc U18 .no y0)])) := by
  kernel_rfl
def g75_1 (x0 : V17) (k0 : V17 → Bool → Option R) : Option R :=
brB (decide (x0.1 < (1 : Int))) (k0 x0 true) (k0 x0 (decide (x0.1 > (9 : Int))))
theorem t75_1 (x0) : exec cl N c75_1 [(1, .loc U18 .no x0)] K = (g75_1 x0 (fun y0 y1 => K .normal (e143 y0 y1))) := by
  kernel_rfl
def g75_2 (x0 : V17) (x1 : Bool) (k0 : Int → Option R) : Option R :=
k0 (1 : Int)
theorem t75_2 (x0 x1) : exec cl N c75_2 (e143 x0 x1) K = (g75_2 x0 x1 (fun y0 => K .normal [(2, .v U2 y0)])) := by
  kernel_rfl
theorem kp75_0 (x0) : keep [2] [(2, .v U2 x0)] = [(2, .v U2 x0)] := by kernel_rfl
def g75_3 (S90 : V17 → Option (Bool)) (x0 : V17) (x1 : Bool) (k0 : V17 → Bool → Option R) : Option R :=
(S90 x0).bind fun r499 =>
k0 x0 (!r499)
theorem t75_3 (S90) (h90 : (ctr90 S90).holds cl) (x0 x1) : exec cl N c75_3 (e143 x0 x1) K = (g75_3 S90 x0 x1 (fun y0 y1 => K .normal (e144 y0 y1))) := by
  rw [← put_eq h90]
  kernel_rfl
def g75_4 (x0 : V17) (x1 : Bool) (k0 : Int → Option R) : Option R :=
k0 (6 : Int)
theorem t75_4 (x0 x1) : exec cl N c75_4 (e144 x0 x1) K = (g75_4 x0 x1 (fun y0 => K .normal [(2, .v U2 y0)])) := by
  kernel_rfl
def g75_5 (x0 : V17) (x1 : Bool) (k0 : V17 → Bool → Option R) : Option R :=
k0 x0 (x0.2.2.1 == ([] : List UInt8))
theorem t75_5 (x0 x1) : exec cl N c75_5 (e144 x0 x1) K = (g75_5 x0 x1 (fun y0 y1 => K .normal (e145 y0 y1))) := by
  kernel_rfl
def g75_6 (x0 : V17) (x1 : Bool) (k0 : Int → Option R) : Option R :=
k0 (7 : Int)
theorem t75_6 (x0 x1) : exec cl N c75_6 (e145 x0 x1) K = (g75_6 x0 x1 (fun y0 => K .normal [(2, .v U2 y0)])) := by
  kernel_rfl
def g75_7 (x0 : V17) (x1 : Bool) (k0 : V17 → Bool → Option R) : Option R :=
k0 x0 (decide ((x0.2.2.1.length : Int) > (8 : Int)))
theorem t75_7 (x0 x1) : exec cl N c75_7 (e145 x0 x1) K = (g75_7 x0 x1 (fun y0 y1 => K .normal (e146 y0 y1))) := by
  kernel_rfl
def g75_8 (x0 : V17) (x1 : Bool) (k0 : Int → Option R) : Option R :=
k0 (3 : Int)
theorem t75_8 (x0 x1) : exec cl N c75_8 (e146 x0 x1) K = (g75_8 x0 x1 (fun y0 => K .normal [(2, .v U2 y0)])) := by
  kernel_rfl
def g75_9 (S91 : V1 → V13 → Option (Bool)) (S92 : Int → Option (Bool)) (x0 : V17) (x1 : Bool) (k0 : Bool → Option R) : Option R :=
(S91 x0.2.2.1 (fun (x502 : V2) => ((S92 x502.1).bind fun b503 => some [.v .bool b503]).bind (unE .bool))).bind fun r504 =>
k0 r504
theorem t75_9 (S91) (S92) (h91 : (ctr91 S91).holds cl) (h92 : (ctr92 S92).holds cl) (x0 x1) : exec cl N c75_9 (e146 x0 x1) K = (g75_9 S91 S92 x0 x1 (fun y0 => K .normal [(25, .v .bool y0)])) := by
  rw [← put_eq h91]
  rw [← put_eq h92]
  kernel_rfl
def g75_10 (x0 : Bool) (k0 : Int → Option R) : Option R :=
k0 (2 : Int)
theorem t75_10 (x0) : exec cl N c75_10 [(25, .v .bool x0)] K = (g75_10 x0 (fun y0 => K .normal [(2, .v U2 y0)])) := by
  kernel_rfl
theorem kp75_1 (x0) : keep [2] [(25, .v .bool x0)] = [(2, .dead)] := by kernel_rfl
theorem hb75_0 (x0) : boolOf? (ent [(25, .v .bool x0)] (.t 25)) = some x0 := by kernel_rfl
theorem kp75_2 : keep [2] [(2, .dead)] = [(2, .dead)] := by kernel_rfl
theorem hb75_1 (x0 x1) : boolOf? (ent (e146 x0 x1) (.t 20)) = some x1 := by kernel_rfl
theorem hb75_2 (x0 x1) : boolOf? (ent (e145 x0 x1) (.t 16)) = some x1 := by kernel_rfl
theorem hb75_3 (x0 x1) : boolOf? (ent (e144 x0 x1) (.t 12)) = some x1 := by kernel_rfl
theorem hb75_4 (x0 x1) : boolOf? (ent (e143 x0 x1) (.t 3)) = some x1 := by kernel_rfl
def g75_17 (k0 : Int → Option R) : Option R :=
k0 (0 : Int)
theorem t75_17 : exec cl N c75_17 [(2, .dead)] K = (g75_17 (fun y0 => K .normal [(2, .v U2 y0)])) := by
  kernel_rfl
def g75_18 (S90 : V17 → Option (Bool)) (S91 : V1 → V13 → Option (Bool)) (S92 : Int → Option (Bool)) (x0 : V17) (k0 : Int → Option R) : Option R :=
(g75_0 x0 (fun y0 => (g75_1 y0 (fun y0 y1 => brB y1 (g75_2 y0 y1 (fun y0 => ((fun y0 => (k0 y0)) y0))) (g75_3 S90 y0 y1 (fun y0 y1 => brB y1 (g75_4 y0 y1 (fun y0 => ((fun y0 => (k0 y0)) y0))) (g75_5 y0 y1 (fun y0 y1 => brB y1 (g75_6 y0 y1 (fun y0 => ((fun y0 => (k0 y0)) y0))) (g75_7 y0 y1 (fun y0 y1 => brB y1 (g75_8 y0 y1 (fun y0 => ((fun y0 => (k0 y0)) y0))) (g75_9 S91 S92 y0 y1 (fun y0 => brB y0 (g75_10 y0 (fun y0 => ((fun y0 => (k0 y0)) y0))) (g75_17 (fun y0 => (k0 y0)))))))))))))))
theorem t75_18 (S90) (S91) (S92) (h90 : (ctr90 S90).holds cl) (h91 : (ctr91 S91).holds cl) (h92 : (ctr92 S92).holds cl) (x0) : exec cl N c75_18 [(0, .v U18 x0)] K = (g75_18 S90 S91 S92 x0 (fun y0 => K .ret [(2, .v U2 y0)])) := by
  simp only [c75_18, exec_seq, seqK_normal, seqK_exit, seqK_ret, t75_0, c75_16, exec_out, exec_block, t75_1, c75_15, exec_cond', hb75_4, Option.bind_some, brB_true, brB_false, t75_2, exec_ret, t75_3 S90 h90, c75_14, hb75_3, t75_4, t75_5, c75_13, hb75_2, t75_6, t75_7, c75_12, hb75_1, t75_8, t75_9 S91 S92 h91 h92, c75_11, hb75_0, t75_10, exec_skip, kp75_0, kp75_1, kp75_2, blockK_normal, blockK_ret, blockK_eq, t75_17]
  rfl
theorem rk75_0 (y0) : retK d75 .ret [(2, .v U2 y0)] = some [.v U2 y0] := by kernel_rfl
def g75 (S90 : V17 → Option (Bool)) (S91 : V1 → V13 → Option (Bool)) (S92 : Int → Option (Bool)) (x0 : V17) (k : Int → Option R) : Option R :=
(g75_18 S90 S91 S92 x0 (fun y0 => k y0))
theorem gen75 {N : Nat} {cl : Cal} (S90 : V17 → Option (Bool)) (S91 : V1 → V13 → Option (Bool)) (S92 : Int → Option (Bool)) (h90 : (ctr90 S90).holds cl) (h91 : (ctr91 S91).holds cl) (h92 : (ctr92 S92).holds cl) (x0 : V17) {R : Type} (k : List E → Option R) : exec cl N c75 (params 0 [.v U18 x0]) (fun e env => (retK d75 e env).bind k) = g75 S90 S91 S92 x0 (fun (r0 : Int) => k [.v U2 r0]) := by
  have e0 : params 0 [.v U18 x0] = [(0, .v U18 x0)] := by kernel_rfl
  simp only [c75, e0, t75_18 S90 S91 S92 h90 h91 h92, rk75_0, Option.bind_some]
  rfl
def ctr75 (S : V17 → Option (Int)) : Ctr := { A := V17 × Unit, B := Int, f := 75, enc := fun a => [.v U18 a.1], dec := (decC (decV U18) dec0), S := fun a => S a.1, ent := fun b => [.v U2 b], ok := (decV_cons (T := U18) (fun es b h => dec0_some h)) }
def S75 (N : Nat) (x0 : V17) : Option (Int) := g75 (S90 N) (S91 N) (S92 N) x0 (fun (r0 : Int) => some (r0))
def g55_0 (x0 : V19) (k0 : V19 → Option R) : Option R :=
k0 x0
theorem t55_0 (x0) : exec cl N c55_0 [(0, .v U22 x0)] K = (g55_0 x0 (fun y0 => K .normal [(0, .v U22 y0)])) := by
  kernel_rfl
def g55_1 (x0 : V19) (k0 : V19 → Bool → Option R) : Option R :=
k0 x0 (decide ((x0.length : Int) > (200 : Int)))
theorem t55_1 (x0) : exec cl N c55_1 [(0, .v U22 x0)] K = (g55_1 x0 (fun y0 y1 => K .normal (e147 y0 y1))) := by
  kernel_rfl
def g55_2 (x0 : V19) (x1 : Bool) (k0 : Int → Option R) : Option R :=
k0 (3 : Int)
theorem t55_2 (x0 x1) : exec cl N c55_2 (e147 x0 x1) K = (g55_2 x0 x1 (fun y0 => K .normal [(2, .v U2 y0)])) := by
  kernel_rfl
theorem kp55_0 (x0) : keep [0, 2] [(2, .v U2 x0)] = (e11 x0) := by kernel_rfl
theorem kp55_1 (x0 x1) : keep [0, 2] (e147 x0 x1) = [(0, .v U22 x0), (2, .dead)] := by kernel_rfl
theorem hb55_0 (x0 x1) : boolOf? (ent (e147 x0 x1) (.t 8)) = some x1 := by kernel_rfl
def g55_4 (x0 : V19) (k0 : V19 → Int → Int → Option R) : Option R :=
k0 x0 (x0.length : Int) (0 : Int)
theorem t55_4 (x0) : exec cl N c55_4 [(0, .v U22 x0), (2, .dead)] K = (g55_4 x0 (fun y0 y1 y2 => K .normal (e148 y0 y1 y2))) := by
  kernel_rfl
theorem kp55_2 (x0 x1 x2) : keep [9, 10, 11] (e148 x0 x1 x2) = (e148 x0 x1 x2) := by kernel_rfl
def g55_5 (x0 : V19) (x1 x2 : Int) (k0 : V19 → Int → Int → Bool → Option R) : Option R :=
k0 x0 x1 x2 (decide (x2 < x1))
theorem t55_5 (x0 x1 x2) : exec cl N c55_5 (e148 x0 x1 x2) K = (g55_5 x0 x1 x2 (fun y0 y1 y2 y3 => K .normal (e149 y0 y1 y2 y3))) := by
  kernel_rfl
theorem kp55_3 (x0 x1 x2 x3) : keep [9, 10, 11] (e149 x0 x1 x2 x3) = (e148 x0 x1 x2) := by kernel_rfl
theorem hb55_1 (x0 x1 x2 x3) : boolOf? (ent (e149 x0 x1 x2 x3) (.t 12)) = some x3 := by kernel_rfl
def g55_7 (x0 : V19) (x1 x2 : Int) (k0 : V17 → V19 → Int → Int → Option R) : Option R :=
if 0 ≤ x2 ∧ x2 < (x0.length : Int) then
k0 (x0.getD x2.toNat ((0 : Int), ((0 : Int), ([], ())))) x0 x1 x2
else none
theorem t55_7 (x0 x1 x2) : exec cl N c55_7 (e148 x0 x1 x2) K = (g55_7 x0 x1 x2 (fun y0 y1 y2 y3 => K .normal [(4, .loc U18 .no y0), (9, .v U22 y1), (10, .v U2 y2), (11, .v U2 y3)])) := by
  kernel_rfl
def g55_8 (S75 : V17 → Option (Int)) (x0 : V17) (x1 : V19) (x2 x3 : Int) (k0 : Int → V19 → Int → Int → Option R) : Option R :=
(S75 x0).bind fun r510 =>
k0 r510 x1 x2 x3
theorem t55_8 (S75) (h75 : (ctr75 S75).holds cl) (x0 x1 x2 x3) : exec cl N c55_8 [(4, .loc U18 .no x0), (9, .v U22 x1), (10, .v U2 x2), (11, .v U2 x3)] K = (g55_8 S75 x0 x1 x2 x3 (fun y0 y1 y2 y3 => K .normal [(5, .v U2 y0), (9, .v U22 y1), (10, .v U2 y2), (11, .v U2 y3)])) := by
  rw [← put_eq h75]
  kernel_rfl
def g55_9 (x0 : Int) (x1 : V19) (x2 x3 : Int) (k0 : Int → V19 → Int → Int → Bool → Option R) : Option R :=
k0 x0 x1 x2 x3 (x0 != (0 : Int))
theorem t55_9 (x0 x1 x2 x3) : exec cl N c55_9 [(5, .v U2 x0), (9, .v U22 x1), (10, .v U2 x2), (11, .v U2 x3)] K = (g55_9 x0 x1 x2 x3 (fun y0 y1 y2 y3 y4 => K .normal (e150 y0 y1 y2 y3 y4))) := by
  kernel_rfl
def g55_10 (x0 : Int) (x1 : V19) (x2 x3 : Int) (x4 : Bool) (k0 : Int → Option R) : Option R :=
k0 x0
theorem t55_10 (x0 x1 x2 x3 x4) : exec cl N c55_10 (e150 x0 x1 x2 x3 x4) K = (g55_10 x0 x1 x2 x3 x4 (fun y0 => K .normal [(2, .v U2 y0)])) := by
  kernel_rfl
theorem kp55_4 (x0) : keep [2, 9, 10, 11] [(2, .v U2 x0)] = (e151 x0) := by kernel_rfl
theorem kp55_5 (x0 x1 x2 x3 x4) : keep [2, 9, 10, 11] (e150 x0 x1 x2 x3 x4) = (e152 x1 x2 x3) := by kernel_rfl
theorem hb55_2 (x0 x1 x2 x3 x4) : boolOf? (ent (e150 x0 x1 x2 x3 x4) (.t 18)) = some x4 := by kernel_rfl
theorem kp55_6 (x0) : keep [2, 9, 10, 11] (e151 x0) = (e151 x0) := by kernel_rfl
theorem kp55_7 (x0 x1 x2) : keep [2, 9, 10, 11] (e152 x0 x1 x2) = (e152 x0 x1 x2) := by kernel_rfl
def g55_13 (x0 : V19) (x1 x2 : Int) (k0 : V19 → Int → Int → Option R) : Option R :=
k0 x0 x1 (IntKind.i64.wrap (x2 + (1 : Int)))
theorem t55_13 (x0 x1 x2) : exec cl N c55_13 (e152 x0 x1 x2) K = (g55_13 x0 x1 x2 (fun y0 y1 y2 => K .normal (e148 y0 y1 y2))) := by
  kernel_rfl
def g55_14 (S75 : V17 → Option (Int)) (x0 : V19) (x1 x2 : Int) (k0 : Int → Option R) (k1 : V19 → Int → Int → Option R) (k2 : V19 → Int → Int → Option R) : Option R :=
(g55_5 x0 x1 x2 (fun y0 y1 y2 y3 => brB y3 ((fun y0 y1 y2 => (g55_7 y0 y1 y2 (fun y0 y1 y2 y3 => (g55_8 S75 y0 y1 y2 y3 (fun y0 y1 y2 y3 => (g55_9 y0 y1 y2 y3 (fun y0 y1 y2 y3 y4 => brB y4 (g55_10 y0 y1 y2 y3 y4 (fun y0 => ((fun y0 => (k0 y0)) y0))) (g55_13 y1 y2 y3 k1)))))))) y0 y1 y2) (k2 y0 y1 y2)))
theorem t55_14 (S75) (h75 : (ctr75 S75).holds cl) (x0 x1 x2) : exec cl N c55_14 (e148 x0 x1 x2) K = (g55_14 S75 x0 x1 x2 (fun y0 => K .ret (e151 y0)) (fun y0 y1 y2 => K .normal (e148 y0 y1 y2)) (fun y0 y1 y2 => K (.exit 0) (e148 y0 y1 y2))) := by
  simp only [c55_14, exec_seq, seqK_normal, seqK_exit, seqK_ret, t55_5, c55_6, exec_out, exec_cond', hb55_1, Option.bind_some, brB_true, brB_false, exec_skip, exec_exit, kp55_3, c55_12, exec_block, t55_7, t55_8 S75 h75, t55_9, c55_11, hb55_2, t55_10, exec_ret, kp55_4, kp55_5, blockK_normal, blockK_ret, blockK_eq, kp55_6, kp55_7, t55_13]
  rfl
def l55_15 {R : Type} (S75 : V17 → Option (Int)) (k0 : Int → Option R) (k1 : V19 → Int → Int → Option R) : Nat → V19 → Int → Int → Option R
  | 0, _, _, _ => none
  | m + 1, x0, x1, x2 => (g55_14 S75 x0 x1 x2 k0 (fun y0 y1 y2 => l55_15 S75 k0 k1 m y0 y1 y2) k1)
theorem lt55_15 (S75) (h75 : (ctr75 S75).holds cl) : ∀ (m) (x0 x1 x2), iter [9, 10, 11] (fun env K => exec cl N c55_14 env K) K m (e148 x0 x1 x2) = l55_15 S75 (fun y0 => K .ret (e151 y0)) (fun y0 y1 y2 => K (.exit 0) (e148 y0 y1 y2)) m x0 x1 x2 := by
  intro m
  induction m with
  | zero => intros; rfl
  | succ m ih =>
    intro x0 x1 x2
    simp only [iter_succ, t55_14 S75 h75, loopK_normal, loopK_exit, loopK_ret, kp55_2, ih]
    rfl
theorem kp55_8 (x0) : keep [2] (e151 x0) = [(2, .v U2 x0)] := by kernel_rfl
theorem kp55_9 (x0 x1 x2) : keep [2] (e148 x0 x1 x2) = [(2, .dead)] := by kernel_rfl
def g55_15 (N : Nat) (S75 : V17 → Option (Int)) (x0 : V19) (x1 x2 : Int) (k0 : Int → Option R) (k1 : Option R) : Option R :=
l55_15 S75 (fun y0 => k0 y0) (fun y0 y1 y2 => k1) N x0 x1 x2
theorem t55_15 (S75) (h75 : (ctr75 S75).holds cl) (x0 x1 x2) : exec cl N c55_15 (e148 x0 x1 x2) K = (g55_15 N S75 x0 x1 x2 (fun y0 => K .ret [(2, .v U2 y0)]) (K (.exit 0) [(2, .dead)])) := by
  simp only [c55_15, exec_out, exec_loop, kp55_2, lt55_15 S75 h75, kp55_8, kp55_9]
  rfl
theorem kp55_10 (x0) : keep [2] [(2, .v U2 x0)] = [(2, .v U2 x0)] := by kernel_rfl
theorem kp55_11 : keep [2] [(2, .dead)] = [(2, .dead)] := by kernel_rfl
def g55_17 (k0 : Int → Option R) : Option R :=
k0 (0 : Int)
theorem t55_17 : exec cl N c55_17 [(2, .dead)] K = (g55_17 (fun y0 => K .normal [(2, .v U2 y0)])) := by
  kernel_rfl
def g55_18 (N : Nat) (S75 : V17 → Option (Int)) (x0 : V19) (k0 : Int → Option R) (k1 : Int → Option R) : Option R :=
(g55_0 x0 (fun y0 => (g55_1 y0 (fun y0 y1 => brB y1 (g55_2 y0 y1 (fun y0 => ((fun y0 => (k0 y0)) y0))) ((fun y0 => (g55_4 y0 (fun y0 y1 y2 => (g55_15 N S75 y0 y1 y2 (fun y0 => (k1 y0)) (g55_17 (fun y0 => (k1 y0))))))) y0)))))
theorem t55_18 (S75) (h75 : (ctr75 S75).holds cl) (x0) : exec cl N c55_18 [(0, .v U22 x0)] K = (g55_18 N S75 x0 (fun y0 => K .ret (e11 y0)) (fun y0 => K .ret [(2, .v U2 y0)])) := by
  simp only [c55_18, exec_seq, seqK_normal, seqK_exit, seqK_ret, t55_0, t55_1, c55_3, exec_out, exec_cond', hb55_0, Option.bind_some, brB_true, brB_false, t55_2, exec_ret, exec_skip, kp55_0, kp55_1, t55_4, c55_16, exec_block, t55_15 S75 h75, blockK_normal, blockK_ret, blockK_eq, kp55_10, kp55_11, t55_17]
  rfl
theorem rk55_0 (y0) : retK d55 .ret (e11 y0) = some [.v U2 y0] := by kernel_rfl
theorem rk55_1 (y0) : retK d55 .ret [(2, .v U2 y0)] = some [.v U2 y0] := by kernel_rfl
def g55 (N : Nat) (S75 : V17 → Option (Int)) (x0 : V19) (k : Int → Option R) : Option R :=
(g55_18 N S75 x0 (fun y0 => k y0) (fun y0 => k y0))
theorem gen55 {N : Nat} {cl : Cal} (S75 : V17 → Option (Int)) (h75 : (ctr75 S75).holds cl) (x0 : V19) {R : Type} (k : List E → Option R) : exec cl N c55 (params 0 [.v U22 x0]) (fun e env => (retK d55 e env).bind k) = g55 N S75 x0 (fun (r0 : Int) => k [.v U2 r0]) := by
  have e0 : params 0 [.v U22 x0] = [(0, .v U22 x0)] := by kernel_rfl
  simp only [c55, e0, t55_18 S75 h75, rk55_0, rk55_1, Option.bind_some]
  rfl
def ctr55 (S : V19 → Option (Int)) : Ctr := { A := V19 × Unit, B := Int, f := 55, enc := fun a => [.v U22 a.1], dec := (decC (decV U22) dec0), S := fun a => S a.1, ent := fun b => [.v U2 b], ok := (decV_cons (T := U22) (fun es b h => dec0_some h)) }
def S55 (N : Nat) (x0 : V19) : Option (Int) := g55 N (S75 N) x0 (fun (r0 : Int) => some (r0))
def g36_0 (x0 x1 : V19) (k0 : V19 → V19 → Option R) : Option R :=
k0 x0 x1
theorem t36_0 (x0 x1) : exec cl N c36_0 (e153 x0 x1) K = (g36_0 x0 x1 (fun y0 y1 => K .normal (e153 y0 y1))) := by
  kernel_rfl
def g36_1 (S55 : V19 → Option (Int)) (x0 x1 : V19) (k0 : V19 → Int → Option R) : Option R :=
(S55 x0).bind fun r516 =>
k0 x1 r516
theorem t36_1 (S55) (h55 : (ctr55 S55).holds cl) (x0 x1) : exec cl N c36_1 (e153 x0 x1) K = (g36_1 S55 x0 x1 (fun y0 y1 => K .normal [(1, .v U22 y0), (5, .v U2 y1)])) := by
  rw [← put_eq h55]
  kernel_rfl
def g36_2 (x0 : V19) (x1 : Int) (k0 : V19 → Int → Bool → Option R) : Option R :=
k0 x0 x1 (x1 != (0 : Int))
theorem t36_2 (x0 x1) : exec cl N c36_2 [(1, .v U22 x0), (5, .v U2 x1)] K = (g36_2 x0 x1 (fun y0 y1 y2 => K .normal (e154 y0 y1 y2))) := by
  kernel_rfl
def g36_3 (x0 : V19) (x1 : Int) (x2 : Bool) (k0 : Int → Option R) : Option R :=
k0 x1
theorem t36_3 (x0 x1 x2) : exec cl N c36_3 (e154 x0 x1 x2) K = (g36_3 x0 x1 x2 (fun y0 => K .normal [(4, .v U2 y0)])) := by
  kernel_rfl
theorem kp36_0 (x0) : keep [1, 4] [(4, .v U2 x0)] = (e155 x0) := by kernel_rfl
theorem kp36_1 (x0 x1 x2) : keep [1, 4] (e154 x0 x1 x2) = [(1, .v U22 x0), (4, .dead)] := by kernel_rfl
theorem hb36_0 (x0 x1 x2) : boolOf? (ent (e154 x0 x1 x2) (.t 9)) = some x2 := by kernel_rfl
def g36_5 (S55 : V19 → Option (Int)) (x0 : V19) (k0 : Int → Option R) : Option R :=
(S55 x0).bind fun r518 =>
k0 r518
theorem t36_5 (S55) (h55 : (ctr55 S55).holds cl) (x0) : exec cl N c36_5 [(1, .v U22 x0), (4, .dead)] K = (g36_5 S55 x0 (fun y0 => K .normal [(4, .v U2 y0)])) := by
  rw [← put_eq h55]
  kernel_rfl
def g36_6 (S55 : V19 → Option (Int)) (x0 x1 : V19) (k0 : Int → Option R) (k1 : Int → Option R) : Option R :=
(g36_0 x0 x1 (fun y0 y1 => (g36_1 S55 y0 y1 (fun y0 y1 => (g36_2 y0 y1 (fun y0 y1 y2 => brB y2 (g36_3 y0 y1 y2 (fun y0 => ((fun y0 => (k0 y0)) y0))) ((fun y0 => (g36_5 S55 y0 (fun y0 => (k1 y0)))) y0)))))))
theorem t36_6 (S55) (h55 : (ctr55 S55).holds cl) (x0 x1) : exec cl N c36_6 (e153 x0 x1) K = (g36_6 S55 x0 x1 (fun y0 => K .ret (e155 y0)) (fun y0 => K .ret [(4, .v U2 y0)])) := by
  simp only [c36_6, exec_seq, seqK_normal, seqK_exit, seqK_ret, t36_0, t36_1 S55 h55, t36_2, c36_4, exec_out, exec_cond', hb36_0, Option.bind_some, brB_true, brB_false, t36_3, exec_ret, exec_skip, kp36_0, kp36_1, t36_5 S55 h55]
  rfl
theorem rk36_0 (y0) : retK d36 .ret (e155 y0) = some [.v U2 y0] := by kernel_rfl
theorem rk36_1 (y0) : retK d36 .ret [(4, .v U2 y0)] = some [.v U2 y0] := by kernel_rfl
def g36 (S55 : V19 → Option (Int)) (x0 x1 : V19) (k : Int → Option R) : Option R :=
(g36_6 S55 x0 x1 (fun y0 => k y0) (fun y0 => k y0))
theorem gen36 {N : Nat} {cl : Cal} (S55 : V19 → Option (Int)) (h55 : (ctr55 S55).holds cl) (x0 : V19) (x1 : V19) {R : Type} (k : List E → Option R) : exec cl N c36 (params 0 [.v U22 x0, .v U22 x1]) (fun e env => (retK d36 e env).bind k) = g36 S55 x0 x1 (fun (r0 : Int) => k [.v U2 r0]) := by
  have e0 : params 0 [.v U22 x0, .v U22 x1] = (e153 x0 x1) := by kernel_rfl
  simp only [c36, e0, t36_6 S55 h55, rk36_0, rk36_1, Option.bind_some]
  rfl
def ctr36 (S : V19 → V19 → Option (Int)) : Ctr := { A := V19 × V19 × Unit, B := Int, f := 36, enc := fun a => [.v U22 a.1, .v U22 a.2.1], dec := (decC (decV U22) (decC (decV U22) dec0)), S := fun a => S a.1 a.2.1, ent := fun b => [.v U2 b], ok := (decV_cons (T := U22) (decV_cons (T := U22) (fun es b h => dec0_some h))) }
def S36 (N : Nat) (x0 : V19) (x1 : V19) : Option (Int) := g36 (S55 N) x0 x1 (fun (r0 : Int) => some (r0))
def g43_0 (x0 : V17) (k0 : V17 → Option R) : Option R :=
k0 x0
theorem t43_0 (x0) : exec cl N c43_0 [(0, .v U18 x0)] K = (g43_0 x0 (fun y0 => K .normal [(1, .loc U18 .no y0)])) := by
  kernel_rfl
def g43_1 (x0 : V17) (k0 : Bool → Option R) : Option R :=
brB (x0.1 == (1 : Int)) (k0 true) (k0 (x0.1 == (2 : Int)))
theorem t43_1 (x0) : exec cl N c43_1 [(1, .loc U18 .no x0)] K = (g43_1 x0 (fun y0 => K .normal [(2, .v .bool y0)])) := by
  kernel_rfl
def g43_2 (x0 : V17) (k0 : Bool → Option R) : Option R :=
(g43_0 x0 (fun y0 => (g43_1 y0 (fun y0 => (k0 y0)))))
theorem t43_2 (x0) : exec cl N c43_2 [(0, .v U18 x0)] K = (g43_2 x0 (fun y0 => K .ret [(2, .v .bool y0)])) := by
  simp only [c43_2, exec_seq, seqK_normal, seqK_exit, seqK_ret, t43_0, t43_1, exec_ret]
  rfl
theorem rk43_0 (y0) : retK d43 .ret [(2, .v .bool y0)] = some [.v .bool y0] := by kernel_rfl
def g43 (x0 : V17) (k : Bool → Option R) : Option R :=
(g43_2 x0 (fun y0 => k y0))
theorem gen43 {N : Nat} {cl : Cal} (x0 : V17) {R : Type} (k : List E → Option R) : exec cl N c43 (params 0 [.v U18 x0]) (fun e env => (retK d43 e env).bind k) = g43 x0 (fun (r0 : Bool) => k [.v .bool r0]) := by
  have e0 : params 0 [.v U18 x0] = [(0, .v U18 x0)] := by kernel_rfl
  simp only [c43, e0, t43_2, rk43_0, Option.bind_some]
  rfl
def ctr43 (S : V17 → Option (Bool)) : Ctr := { A := V17 × Unit, B := Bool, f := 43, enc := fun a => [.v U18 a.1], dec := (decC (decV U18) dec0), S := fun a => S a.1, ent := fun b => [.v .bool b], ok := (decV_cons (T := U18) (fun es b h => dec0_some h)) }
def S43 (N : Nat) (x0 : V17) : Option (Bool) := g43 x0 (fun (r0 : Bool) => some (r0))
def g14_0 (x0 : V19) (k0 : V19 → Option R) : Option R :=
k0 x0
theorem t14_0 (x0) : exec cl N c14_0 [(0, .v U22 x0)] K = (g14_0 x0 (fun y0 => K .normal [(0, .v U22 y0)])) := by
  kernel_rfl
def g14_1 (x0 : V19) (k0 : V19 → Int → Option R) : Option R :=
k0 x0 (x0.length : Int)
theorem t14_1 (x0) : exec cl N c14_1 [(0, .v U22 x0)] K = (g14_1 x0 (fun y0 y1 => K .normal (e156 y0 y1))) := by
  kernel_rfl
def g14_2 (S43 : V17 → Option (Bool)) (x0 : V19) (x1 : Int) (k0 : V19 → Int → Bool → Option R) : Option R :=
brB (decide (x1 > (0 : Int))) (let v536 : Int := (IntKind.i64.wrap (x1 - (1 : Int)))
if 0 ≤ v536 ∧ v536 < (x0.length : Int) then
(S43 (x0.getD v536.toNat ((0 : Int), ((0 : Int), ([], ()))))).bind fun r537 =>
k0 x0 x1 r537
else none) (k0 x0 x1 false)
theorem t14_2 (S43) (h43 : (ctr43 S43).holds cl) (x0 x1) : exec cl N c14_2 (e156 x0 x1) K = (g14_2 S43 x0 x1 (fun y0 y1 y2 => K .normal (e157 y0 y1 y2))) := by
  rw [← put_eq h43]
  kernel_rfl
def g14_3 (x0 : V19) (x1 : Int) (x2 : Bool) (k0 : Int → Option R) : Option R :=
k0 (1 : Int)
theorem t14_3 (x0 x1 x2) : exec cl N c14_3 (e157 x0 x1 x2) K = (g14_3 x0 x1 x2 (fun y0 => K .normal [(2, .v U2 y0)])) := by
  kernel_rfl
theorem kp14_0 (x0) : keep [2] [(2, .v U2 x0)] = [(2, .v U2 x0)] := by kernel_rfl
def g14_4 (S43 : V17 → Option (Bool)) (x0 : V19) (x1 : Int) (x2 : Bool) (k0 : Bool → Option R) : Option R :=
brB (decide (x1 > (1 : Int))) (let v539 : Int := (IntKind.i64.wrap (x1 - (2 : Int)))
if 0 ≤ v539 ∧ v539 < (x0.length : Int) then
(S43 (x0.getD v539.toNat ((0 : Int), ((0 : Int), ([], ()))))).bind fun r540 =>
brB r540 (let v541 : Int := (IntKind.i64.wrap (x1 - (1 : Int)))
if 0 ≤ v541 ∧ v541 < (x0.length : Int) then
brB ((x0.getD v541.toNat ((0 : Int), ((0 : Int), ([], ())))).1 == (5 : Int)) (let v543 : Int := (IntKind.i64.wrap (x1 - (1 : Int)))
if 0 ≤ v543 ∧ v543 < (x0.length : Int) then
k0 ((x0.getD v543.toNat ((0 : Int), ((0 : Int), ([], ())))).2.2.1 == ([109] : List UInt8))
else none) (k0 false)
else none) (k0 false)
else none) (k0 false)
theorem t14_4 (S43) (h43 : (ctr43 S43).holds cl) (x0 x1 x2) : exec cl N c14_4 (e157 x0 x1 x2) K = (g14_4 S43 x0 x1 x2 (fun y0 => K .normal [(17, .v .bool y0)])) := by
  rw [← put_eq h43]
  kernel_rfl
def g14_5 (x0 : Bool) (k0 : Int → Option R) : Option R :=
k0 (2 : Int)
theorem t14_5 (x0) : exec cl N c14_5 [(17, .v .bool x0)] K = (g14_5 x0 (fun y0 => K .normal [(2, .v U2 y0)])) := by
  kernel_rfl
theorem kp14_1 (x0) : keep [2] [(17, .v .bool x0)] = [(2, .dead)] := by kernel_rfl
theorem hb14_0 (x0) : boolOf? (ent [(17, .v .bool x0)] (.t 17)) = some x0 := by kernel_rfl
theorem kp14_2 : keep [2] [(2, .dead)] = [(2, .dead)] := by kernel_rfl
theorem hb14_1 (x0 x1 x2) : boolOf? (ent (e157 x0 x1 x2) (.t 6)) = some x2 := by kernel_rfl
def g14_9 (k0 : Int → Option R) : Option R :=
k0 (0 : Int)
theorem t14_9 : exec cl N c14_9 [(2, .dead)] K = (g14_9 (fun y0 => K .normal [(2, .v U2 y0)])) := by
  kernel_rfl
def g14_10 (S43 : V17 → Option (Bool)) (x0 : V19) (k0 : Int → Option R) : Option R :=
(g14_0 x0 (fun y0 => (g14_1 y0 (fun y0 y1 => (g14_2 S43 y0 y1 (fun y0 y1 y2 => brB y2 (g14_3 y0 y1 y2 (fun y0 => ((fun y0 => (k0 y0)) y0))) (g14_4 S43 y0 y1 y2 (fun y0 => brB y0 (g14_5 y0 (fun y0 => ((fun y0 => (k0 y0)) y0))) (g14_9 (fun y0 => (k0 y0)))))))))))
theorem t14_10 (S43) (h43 : (ctr43 S43).holds cl) (x0) : exec cl N c14_10 [(0, .v U22 x0)] K = (g14_10 S43 x0 (fun y0 => K .ret [(2, .v U2 y0)])) := by
  simp only [c14_10, exec_seq, seqK_normal, seqK_exit, seqK_ret, t14_0, t14_1, c14_8, exec_out, exec_block, t14_2 S43 h43, c14_7, exec_cond', hb14_1, Option.bind_some, brB_true, brB_false, t14_3, exec_ret, t14_4 S43 h43, c14_6, hb14_0, t14_5, exec_skip, kp14_0, kp14_1, kp14_2, blockK_normal, blockK_ret, blockK_eq, t14_9]
  rfl
theorem rk14_0 (y0) : retK d14 .ret [(2, .v U2 y0)] = some [.v U2 y0] := by kernel_rfl
def g14 (S43 : V17 → Option (Bool)) (x0 : V19) (k : Int → Option R) : Option R :=
(g14_10 S43 x0 (fun y0 => k y0))
theorem gen14 {N : Nat} {cl : Cal} (S43 : V17 → Option (Bool)) (h43 : (ctr43 S43).holds cl) (x0 : V19) {R : Type} (k : List E → Option R) : exec cl N c14 (params 0 [.v U22 x0]) (fun e env => (retK d14 e env).bind k) = g14 S43 x0 (fun (r0 : Int) => k [.v U2 r0]) := by
  have e0 : params 0 [.v U22 x0] = [(0, .v U22 x0)] := by kernel_rfl
  simp only [c14, e0, t14_10 S43 h43, rk14_0, Option.bind_some]
  rfl
def ctr14 (S : V19 → Option (Int)) : Ctr := { A := V19 × Unit, B := Int, f := 14, enc := fun a => [.v U22 a.1], dec := (decC (decV U22) dec0), S := fun a => S a.1, ent := fun b => [.v U2 b], ok := (decV_cons (T := U22) (fun es b h => dec0_some h)) }
def S14 (N : Nat) (x0 : V19) : Option (Int) := g14 (S43 N) x0 (fun (r0 : Int) => some (r0))
def g62_0 (x0 : V17) (k0 : V17 → Option R) : Option R :=
k0 x0
theorem t62_0 (x0) : exec cl N c62_0 [(0, .v U18 x0)] K = (g62_0 x0 (fun y0 => K .normal [(1, .loc U18 .no y0)])) := by
  kernel_rfl
def g62_1 (x0 : V17) (k0 : Bool → Option R) : Option R :=
k0 (x0.1 != (9 : Int))
theorem t62_1 (x0) : exec cl N c62_1 [(1, .loc U18 .no x0)] K = (g62_1 x0 (fun y0 => K .normal [(2, .v .bool y0)])) := by
  kernel_rfl
def g62_2 (x0 : V17) (k0 : Bool → Option R) : Option R :=
(g62_0 x0 (fun y0 => (g62_1 y0 (fun y0 => (k0 y0)))))
theorem t62_2 (x0) : exec cl N c62_2 [(0, .v U18 x0)] K = (g62_2 x0 (fun y0 => K .ret [(2, .v .bool y0)])) := by
  simp only [c62_2, exec_seq, seqK_normal, seqK_exit, seqK_ret, t62_0, t62_1, exec_ret]
  rfl
theorem rk62_0 (y0) : retK d62 .ret [(2, .v .bool y0)] = some [.v .bool y0] := by kernel_rfl
def g62 (x0 : V17) (k : Bool → Option R) : Option R :=
(g62_2 x0 (fun y0 => k y0))
theorem gen62 {N : Nat} {cl : Cal} (x0 : V17) {R : Type} (k : List E → Option R) : exec cl N c62 (params 0 [.v U18 x0]) (fun e env => (retK d62 e env).bind k) = g62 x0 (fun (r0 : Bool) => k [.v .bool r0]) := by
  have e0 : params 0 [.v U18 x0] = [(0, .v U18 x0)] := by kernel_rfl
  simp only [c62, e0, t62_2, rk62_0, Option.bind_some]
  rfl
def ctr62 (S : V17 → Option (Bool)) : Ctr := { A := V17 × Unit, B := Bool, f := 62, enc := fun a => [.v U18 a.1], dec := (decC (decV U18) dec0), S := fun a => S a.1, ent := fun b => [.v .bool b], ok := (decV_cons (T := U18) (fun es b h => dec0_some h)) }
def S62 (N : Nat) (x0 : V17) : Option (Bool) := g62 x0 (fun (r0 : Bool) => some (r0))
def g61_0 (x0 : V19) (x1 : V25) (k0 : V19 → V25 → Option R) : Option R :=
k0 x0 x1
theorem t61_0 (x0 x1) : exec cl N c61_0 (e158 x0 x1) K = (g61_0 x0 x1 (fun y0 y1 => K .normal (e158 y0 y1))) := by
  kernel_rfl
def g61_1 (x0 : V19) (x1 : V25) (k0 : V19 → V25 → Int → Int → Option R) : Option R :=
k0 x0 x1 (x0.length : Int) (0 : Int)
theorem t61_1 (x0 x1) : exec cl N c61_1 (e158 x0 x1) K = (g61_1 x0 x1 (fun y0 y1 y2 y3 => K .normal (e159 y0 y1 y2 y3))) := by
  kernel_rfl
theorem kp61_0 (x0 x1 x2 x3) : keep [0, 1, 7, 8] (e159 x0 x1 x2 x3) = (e159 x0 x1 x2 x3) := by kernel_rfl
def g61_2 (x0 : V19) (x1 : V25) (x2 x3 : Int) (k0 : V19 → V25 → Int → Int → Bool → Option R) : Option R :=
k0 x0 x1 x2 x3 (decide (x3 < x2))
theorem t61_2 (x0 x1 x2 x3) : exec cl N c61_2 (e159 x0 x1 x2 x3) K = (g61_2 x0 x1 x2 x3 (fun y0 y1 y2 y3 y4 => K .normal (e160 y0 y1 y2 y3 y4))) := by
  kernel_rfl
theorem kp61_1 (x0 x1 x2 x3 x4) : keep [0, 1, 7, 8] (e160 x0 x1 x2 x3 x4) = (e159 x0 x1 x2 x3) := by kernel_rfl
theorem hb61_0 (x0 x1 x2 x3 x4) : boolOf? (ent (e160 x0 x1 x2 x3 x4) (.t 9)) = some x4 := by kernel_rfl
def g61_4 (x0 : V19) (x1 : V25) (x2 x3 : Int) (k0 : V19 → V25 → Int → Int → Int → Option R) : Option R :=
k0 x0 x1 x3 x2 x3
theorem t61_4 (x0 x1 x2 x3) : exec cl N c61_4 (e159 x0 x1 x2 x3) K = (g61_4 x0 x1 x2 x3 (fun y0 y1 y2 y3 y4 => K .normal [(0, .v U22 y0), (1, .v U27 y1), (5, .v U2 y2), (7, .v U2 y3), (8, .v U2 y4)])) := by
  kernel_rfl
def g61_5 (x0 : V19) (x1 : V25) (x2 x3 x4 : Int) (k0 : V19 → V25 → Int → Int → Int → Bool → Option R) : Option R :=
if 0 ≤ x2 ∧ x2 < (x0.length : Int) then
(x1 ((x0.getD x2.toNat ((0 : Int), ((0 : Int), ([], ())))), ())).bind fun r555 =>
k0 x0 x1 x2 x3 x4 r555
else none
theorem t61_5 (x0 x1 x2 x3 x4) : exec cl N c61_5 [(0, .v U22 x0), (1, .v U27 x1), (5, .v U2 x2), (7, .v U2 x3), (8, .v U2 x4)] K = (g61_5 x0 x1 x2 x3 x4 (fun y0 y1 y2 y3 y4 y5 => K .normal (e161 y0 y1 y2 y3 y4 y5))) := by
  kernel_rfl
def g61_6 (x0 : V19) (x1 : V25) (x2 x3 x4 : Int) (x5 : Bool) (k0 : Int → Option R) : Option R :=
k0 x2
theorem t61_6 (x0 x1 x2 x3 x4 x5) : exec cl N c61_6 (e161 x0 x1 x2 x3 x4 x5) K = (g61_6 x0 x1 x2 x3 x4 x5 (fun y0 => K .normal [(4, .v U2 y0)])) := by
  kernel_rfl
theorem kp61_2 (x0) : keep [0, 1, 4, 7, 8] [(4, .v U2 x0)] = (e75 x0) := by kernel_rfl
theorem kp61_3 (x0 x1 x2 x3 x4 x5) : keep [0, 1, 4, 7, 8] (e161 x0 x1 x2 x3 x4 x5) = (e162 x0 x1 x3 x4) := by kernel_rfl
theorem hb61_1 (x0 x1 x2 x3 x4 x5) : boolOf? (ent (e161 x0 x1 x2 x3 x4 x5) (.t 16)) = some x5 := by kernel_rfl
theorem kp61_4 (x0) : keep [0, 1, 4, 7, 8] (e75 x0) = (e75 x0) := by kernel_rfl
theorem kp61_5 (x0 x1 x2 x3) : keep [0, 1, 4, 7, 8] (e162 x0 x1 x2 x3) = (e162 x0 x1 x2 x3) := by kernel_rfl
def g61_9 (x0 : V19) (x1 : V25) (x2 x3 : Int) (k0 : V19 → V25 → Int → Int → Option R) : Option R :=
k0 x0 x1 x2 (IntKind.i64.wrap (x3 + (1 : Int)))
theorem t61_9 (x0 x1 x2 x3) : exec cl N c61_9 (e162 x0 x1 x2 x3) K = (g61_9 x0 x1 x2 x3 (fun y0 y1 y2 y3 => K .normal (e159 y0 y1 y2 y3))) := by
  kernel_rfl
def g61_10 (x0 : V19) (x1 : V25) (x2 x3 : Int) (k0 : Int → Option R) (k1 : V19 → V25 → Int → Int → Option R) (k2 : V19 → V25 → Int → Int → Option R) : Option R :=
(g61_2 x0 x1 x2 x3 (fun y0 y1 y2 y3 y4 => brB y4 ((fun y0 y1 y2 y3 => (g61_4 y0 y1 y2 y3 (fun y0 y1 y2 y3 y4 => (g61_5 y0 y1 y2 y3 y4 (fun y0 y1 y2 y3 y4 y5 => brB y5 (g61_6 y0 y1 y2 y3 y4 y5 (fun y0 => ((fun y0 => (k0 y0)) y0))) (g61_9 y0 y1 y3 y4 k1)))))) y0 y1 y2 y3) (k2 y0 y1 y2 y3)))
theorem t61_10 (x0 x1 x2 x3) : exec cl N c61_10 (e159 x0 x1 x2 x3) K = (g61_10 x0 x1 x2 x3 (fun y0 => K .ret (e75 y0)) (fun y0 y1 y2 y3 => K .normal (e159 y0 y1 y2 y3)) (fun y0 y1 y2 y3 => K (.exit 0) (e159 y0 y1 y2 y3))) := by
  simp only [c61_10, exec_seq, seqK_normal, seqK_exit, seqK_ret, t61_2, c61_3, exec_out, exec_cond', hb61_0, Option.bind_some, brB_true, brB_false, exec_skip, exec_exit, kp61_1, c61_8, exec_block, t61_4, t61_5, c61_7, hb61_1, t61_6, exec_ret, kp61_2, kp61_3, blockK_normal, blockK_ret, blockK_eq, kp61_4, kp61_5, t61_9]
  rfl
def l61_11 {R : Type} (k0 : Int → Option R) (k1 : V19 → V25 → Int → Int → Option R) : Nat → V19 → V25 → Int → Int → Option R
  | 0, _, _, _, _ => none
  | m + 1, x0, x1, x2, x3 => (g61_10 x0 x1 x2 x3 k0 (fun y0 y1 y2 y3 => l61_11 k0 k1 m y0 y1 y2 y3) k1)
theorem lt61_11 : ∀ (m) (x0 x1 x2 x3), iter [0, 1, 7, 8] (fun env K => exec cl N c61_10 env K) K m (e159 x0 x1 x2 x3) = l61_11 (fun y0 => K .ret (e75 y0)) (fun y0 y1 y2 y3 => K (.exit 0) (e159 y0 y1 y2 y3)) m x0 x1 x2 x3 := by
  intro m
  induction m with
  | zero => intros; rfl
  | succ m ih =>
    intro x0 x1 x2 x3
    simp only [iter_succ, t61_10, loopK_normal, loopK_exit, loopK_ret, kp61_0, ih]
    rfl
theorem kp61_6 (x0) : keep [4] (e75 x0) = [(4, .v U2 x0)] := by kernel_rfl
theorem kp61_7 (x0 x1 x2 x3) : keep [4] (e159 x0 x1 x2 x3) = [(4, .dead)] := by kernel_rfl
def g61_11 (N : Nat) (x0 : V19) (x1 : V25) (x2 x3 : Int) (k0 : Int → Option R) (k1 : Option R) : Option R :=
l61_11 (fun y0 => k0 y0) (fun y0 y1 y2 y3 => k1) N x0 x1 x2 x3
theorem t61_11 (x0 x1 x2 x3) : exec cl N c61_11 (e159 x0 x1 x2 x3) K = (g61_11 N x0 x1 x2 x3 (fun y0 => K .ret [(4, .v U2 y0)]) (K (.exit 0) [(4, .dead)])) := by
  simp only [c61_11, exec_out, exec_loop, kp61_0, lt61_11, kp61_6, kp61_7]
  rfl
theorem kp61_8 (x0) : keep [4] [(4, .v U2 x0)] = [(4, .v U2 x0)] := by kernel_rfl
theorem kp61_9 : keep [4] [(4, .dead)] = [(4, .dead)] := by kernel_rfl
def g61_13 (k0 : Int → Option R) : Option R :=
k0 (-1 : Int)
theorem t61_13 : exec cl N c61_13 [(4, .dead)] K = (g61_13 (fun y0 => K .normal [(4, .v U2 y0)])) := by
  kernel_rfl
def g61_14 (N : Nat) (x0 : V19) (x1 : V25) (k0 : Int → Option R) : Option R :=
(g61_0 x0 x1 (fun y0 y1 => (g61_1 y0 y1 (fun y0 y1 y2 y3 => (g61_11 N y0 y1 y2 y3 (fun y0 => (k0 y0)) (g61_13 (fun y0 => (k0 y0))))))))
theorem t61_14 (x0 x1) : exec cl N c61_14 (e158 x0 x1) K = (g61_14 N x0 x1 (fun y0 => K .ret [(4, .v U2 y0)])) := by
  simp only [c61_14, exec_seq, seqK_normal, seqK_exit, seqK_ret, t61_0, t61_1, c61_12, exec_out, exec_block, t61_11, blockK_normal, blockK_ret, blockK_eq, kp61_8, kp61_9, t61_13, exec_ret]
  rfl
theorem rk61_0 (y0) : retK d61 .ret [(4, .v U2 y0)] = some [.v U2 y0] := by kernel_rfl
def g61 (N : Nat) (x0 : V19) (x1 : V25) (k : Int → Option R) : Option R :=
(g61_14 N x0 x1 (fun y0 => k y0))
theorem gen61 {N : Nat} {cl : Cal} (x0 : V19) (x1 : V25) {R : Type} (k : List E → Option R) : exec cl N c61 (params 0 [.v U22 x0, .v U27 x1]) (fun e env => (retK d61 e env).bind k) = g61 N x0 x1 (fun (r0 : Int) => k [.v U2 r0]) := by
  have e0 : params 0 [.v U22 x0, .v U27 x1] = (e158 x0 x1) := by kernel_rfl
  simp only [c61, e0, t61_14, rk61_0, Option.bind_some]
  rfl
def ctr61 (S : V19 → V25 → Option (Int)) : Ctr := { A := V19 × V25 × Unit, B := Int, f := 61, enc := fun a => [.v U22 a.1, .v U27 a.2.1], dec := (decC (decV U22) (decC (decV U27) dec0)), S := fun a => S a.1 a.2.1, ent := fun b => [.v U2 b], ok := (decV_cons (T := U22) (decV_cons (T := U27) (fun es b h => dec0_some h))) }
def S61 (N : Nat) (x0 : V19) (x1 : V25) : Option (Int) := g61 N x0 x1 (fun (r0 : Int) => some (r0))
def g42_0 (x0 : V19) (k0 : V19 → Option R) : Option R :=
k0 x0
theorem t42_0 (x0) : exec cl N c42_0 [(0, .v U22 x0)] K = (g42_0 x0 (fun y0 => K .normal [(0, .v U22 y0)])) := by
  kernel_rfl
def g42_1 (S61 : V19 → V25 → Option (Int)) (S62 : V17 → Option (Bool)) (x0 : V19) (k0 : V19 → Int → Option R) : Option R :=
(S61 x0 (fun (x559 : (V17 × Unit)) => ((S62 x559.1).bind fun b560 => some [.v .bool b560]).bind (unE .bool))).bind fun r561 =>
k0 x0 r561
theorem t42_1 (S61) (S62) (h61 : (ctr61 S61).holds cl) (h62 : (ctr62 S62).holds cl) (x0) : exec cl N c42_1 [(0, .v U22 x0)] K = (g42_1 S61 S62 x0 (fun y0 y1 => K .normal (e156 y0 y1))) := by
  rw [← put_eq h61]
  rw [← put_eq h62]
  kernel_rfl
def g42_2 (x0 : V19) (x1 : Int) (k0 : V19 → Int → Bool → Option R) : Option R :=
k0 x0 x1 (decide (x1 < (0 : Int)))
theorem t42_2 (x0 x1) : exec cl N c42_2 (e156 x0 x1) K = (g42_2 x0 x1 (fun y0 y1 y2 => K .normal (e163 y0 y1 y2))) := by
  kernel_rfl
def g42_3 (x0 : V19) (x1 : Int) (x2 : Bool) (k0 : Int → Option R) : Option R :=
k0 (x0.length : Int)
theorem t42_3 (x0 x1 x2) : exec cl N c42_3 (e163 x0 x1 x2) K = (g42_3 x0 x1 x2 (fun y0 => K .normal [(2, .v U2 y0)])) := by
  kernel_rfl
theorem kp42_0 (x0) : keep [2, 3] [(2, .v U2 x0)] = (e68 x0) := by kernel_rfl
theorem kp42_1 (x0 x1 x2) : keep [2, 3] (e163 x0 x1 x2) = (e69 x1) := by kernel_rfl
theorem hb42_0 (x0 x1 x2) : boolOf? (ent (e163 x0 x1 x2) (.t 7)) = some x2 := by kernel_rfl
def g42_5 (x0 : Int) (k0 : Int → Option R) : Option R :=
k0 x0
theorem t42_5 (x0) : exec cl N c42_5 (e69 x0) K = (g42_5 x0 (fun y0 => K .normal [(2, .v U2 y0)])) := by
  kernel_rfl
def g42_6 (S61 : V19 → V25 → Option (Int)) (S62 : V17 → Option (Bool)) (x0 : V19) (k0 : Int → Option R) (k1 : Int → Option R) : Option R :=
(g42_0 x0 (fun y0 => (g42_1 S61 S62 y0 (fun y0 y1 => (g42_2 y0 y1 (fun y0 y1 y2 => brB y2 (g42_3 y0 y1 y2 (fun y0 => ((fun y0 => (k0 y0)) y0))) ((fun y0 => (g42_5 y0 (fun y0 => (k1 y0)))) y1)))))))
theorem t42_6 (S61) (S62) (h61 : (ctr61 S61).holds cl) (h62 : (ctr62 S62).holds cl) (x0) : exec cl N c42_6 [(0, .v U22 x0)] K = (g42_6 S61 S62 x0 (fun y0 => K .ret (e68 y0)) (fun y0 => K .ret [(2, .v U2 y0)])) := by
  simp only [c42_6, exec_seq, seqK_normal, seqK_exit, seqK_ret, t42_0, t42_1 S61 S62 h61 h62, t42_2, c42_4, exec_out, exec_cond', hb42_0, Option.bind_some, brB_true, brB_false, t42_3, exec_ret, exec_skip, kp42_0, kp42_1, t42_5]
  rfl
theorem rk42_0 (y0) : retK d42 .ret (e68 y0) = some [.v U2 y0] := by kernel_rfl
theorem rk42_1 (y0) : retK d42 .ret [(2, .v U2 y0)] = some [.v U2 y0] := by kernel_rfl
def g42 (S61 : V19 → V25 → Option (Int)) (S62 : V17 → Option (Bool)) (x0 : V19) (k : Int → Option R) : Option R :=
(g42_6 S61 S62 x0 (fun y0 => k y0) (fun y0 => k y0))
theorem gen42 {N : Nat} {cl : Cal} (S61 : V19 → V25 → Option (Int)) (S62 : V17 → Option (Bool)) (h61 : (ctr61 S61).holds cl) (h62 : (ctr62 S62).holds cl) (x0 : V19) {R : Type} (k : List E → Option R) : exec cl N c42 (params 0 [.v U22 x0]) (fun e env => (retK d42 e env).bind k) = g42 S61 S62 x0 (fun (r0 : Int) => k [.v U2 r0]) := by
  have e0 : params 0 [.v U22 x0] = [(0, .v U22 x0)] := by kernel_rfl
  simp only [c42, e0, t42_6 S61 S62 h61 h62, rk42_0, rk42_1, Option.bind_some]
  rfl
def ctr42 (S : V19 → Option (Int)) : Ctr := { A := V19 × Unit, B := Int, f := 42, enc := fun a => [.v U22 a.1], dec := (decC (decV U22) dec0), S := fun a => S a.1, ent := fun b => [.v U2 b], ok := (decV_cons (T := U22) (fun es b h => dec0_some h)) }
def S42 (N : Nat) (x0 : V19) : Option (Int) := g42 (S61 N) (S62 N) x0 (fun (r0 : Int) => some (r0))
def g13_0 (x0 : V19) (k0 : V19 → Option R) : Option R :=
k0 x0
theorem t13_0 (x0) : exec cl N c13_0 [(0, .v U22 x0)] K = (g13_0 x0 (fun y0 => K .normal [(0, .v U22 y0)])) := by
  kernel_rfl
def g13_1 (S42 : V19 → Option (Int)) (x0 : V19) (k0 : V19 → Int → Option R) : Option R :=
(S42 x0).bind fun r566 =>
k0 x0 r566
theorem t13_1 (S42) (h42 : (ctr42 S42).holds cl) (x0) : exec cl N c13_1 [(0, .v U22 x0)] K = (g13_1 S42 x0 (fun y0 y1 => K .normal (e156 y0 y1))) := by
  rw [← put_eq h42]
  kernel_rfl
def g13_2 (S43 : V17 → Option (Bool)) (x0 : V19) (x1 : Int) (k0 : Bool → Option R) : Option R :=
brB (decide (x1 < (x0.length : Int))) (if 0 ≤ x1 ∧ x1 < (x0.length : Int) then
(S43 (x0.getD x1.toNat ((0 : Int), ((0 : Int), ([], ()))))).bind fun r568 =>
k0 r568
else none) (k0 false)
theorem t13_2 (S43) (h43 : (ctr43 S43).holds cl) (x0 x1) : exec cl N c13_2 (e156 x0 x1) K = (g13_2 S43 x0 x1 (fun y0 => K .normal [(2, .v .bool y0)])) := by
  rw [← put_eq h43]
  kernel_rfl
def g13_3 (S42 : V19 → Option (Int)) (S43 : V17 → Option (Bool)) (x0 : V19) (k0 : Bool → Option R) : Option R :=
(g13_0 x0 (fun y0 => (g13_1 S42 y0 (fun y0 y1 => (g13_2 S43 y0 y1 (fun y0 => (k0 y0)))))))
theorem t13_3 (S42) (S43) (h42 : (ctr42 S42).holds cl) (h43 : (ctr43 S43).holds cl) (x0) : exec cl N c13_3 [(0, .v U22 x0)] K = (g13_3 S42 S43 x0 (fun y0 => K .ret [(2, .v .bool y0)])) := by
  simp only [c13_3, exec_seq, seqK_normal, seqK_exit, seqK_ret, t13_0, t13_1 S42 h42, t13_2 S43 h43, exec_ret]
  rfl
theorem rk13_0 (y0) : retK d13 .ret [(2, .v .bool y0)] = some [.v .bool y0] := by kernel_rfl
def g13 (S42 : V19 → Option (Int)) (S43 : V17 → Option (Bool)) (x0 : V19) (k : Bool → Option R) : Option R :=
(g13_3 S42 S43 x0 (fun y0 => k y0))
theorem gen13 {N : Nat} {cl : Cal} (S42 : V19 → Option (Int)) (S43 : V17 → Option (Bool)) (h42 : (ctr42 S42).holds cl) (h43 : (ctr43 S43).holds cl) (x0 : V19) {R : Type} (k : List E → Option R) : exec cl N c13 (params 0 [.v U22 x0]) (fun e env => (retK d13 e env).bind k) = g13 S42 S43 x0 (fun (r0 : Bool) => k [.v .bool r0]) := by
  have e0 : params 0 [.v U22 x0] = [(0, .v U22 x0)] := by kernel_rfl
  simp only [c13, e0, t13_3 S42 S43 h42 h43, rk13_0, Option.bind_some]
  rfl
def ctr13 (S : V19 → Option (Bool)) : Ctr := { A := V19 × Unit, B := Bool, f := 13, enc := fun a => [.v U22 a.1], dec := (decC (decV U22) dec0), S := fun a => S a.1, ent := fun b => [.v .bool b], ok := (decV_cons (T := U22) (fun es b h => dec0_some h)) }
def S13 (N : Nat) (x0 : V19) : Option (Bool) := g13 (S42 N) (S43 N) x0 (fun (r0 : Bool) => some (r0))
def g37_0 (x0 x1 : V19) (k0 : V19 → V19 → Option R) : Option R :=
k0 x0 x1
theorem t37_0 (x0 x1) : exec cl N c37_0 (e153 x0 x1) K = (g37_0 x0 x1 (fun y0 y1 => K .normal (e153 y0 y1))) := by
  kernel_rfl
def g37_1 (S14 : V19 → Option (Int)) (x0 x1 : V19) (k0 : V19 → V19 → Int → Option R) : Option R :=
(S14 x0).bind fun r573 =>
k0 x0 x1 r573
theorem t37_1 (S14) (h14 : (ctr14 S14).holds cl) (x0 x1) : exec cl N c37_1 (e153 x0 x1) K = (g37_1 S14 x0 x1 (fun y0 y1 y2 => K .normal [(0, .v U22 y0), (1, .v U22 y1), (5, .v U2 y2)])) := by
  rw [← put_eq h14]
  kernel_rfl
def g37_2 (S13 : V19 → Option (Bool)) (x0 x1 : V19) (x2 : Int) (k0 : V19 → Int → Bool → Option R) : Option R :=
brB (x2 == (0 : Int)) (k0 x0 x2 true) ((S13 x1).bind fun r575 =>
k0 x0 x2 (!r575))
theorem t37_2 (S13) (h13 : (ctr13 S13).holds cl) (x0 x1 x2) : exec cl N c37_2 [(0, .v U22 x0), (1, .v U22 x1), (5, .v U2 x2)] K = (g37_2 S13 x0 x1 x2 (fun y0 y1 y2 => K .normal (e164 y0 y1 y2))) := by
  rw [← put_eq h13]
  kernel_rfl
def g37_3 (x0 : V19) (x1 : Int) (x2 : Bool) (k0 : V0 → Option R) : Option R :=
k0 [(0 : Int)]
theorem t37_3 (x0 x1 x2) : exec cl N c37_3 (e164 x0 x1 x2) K = (g37_3 x0 x1 x2 (fun y0 => K .normal (e165 y0))) := by
  kernel_rfl
theorem kp37_0 (x0) : keep [4] (e165 x0) = (e165 x0) := by kernel_rfl
def g37_4 (x0 : V19) (x1 : Int) (x2 : Bool) (k0 : V19 → Bool → Option R) : Option R :=
k0 x0 (x1 == (2 : Int))
theorem t37_4 (x0 x1 x2) : exec cl N c37_4 (e164 x0 x1 x2) K = (g37_4 x0 x1 x2 (fun y0 y1 => K .normal (e166 y0 y1))) := by
  kernel_rfl
def g37_5 (x0 : V19) (x1 : Bool) (k0 : V0 → Option R) : Option R :=
k0 [(1 : Int), (3 : Int)]
theorem t37_5 (x0 x1) : exec cl N c37_5 (e166 x0 x1) K = (g37_5 x0 x1 (fun y0 => K .normal (e165 y0))) := by
  kernel_rfl
def g37_6 (x0 : V19) (x1 : Bool) (k0 : Bool → Option R) : Option R :=
let v577 : Int := (IntKind.i64.wrap ((x0.length : Int) - (1 : Int)))
if 0 ≤ v577 ∧ v577 < (x0.length : Int) then
k0 ((x0.getD v577.toNat ((0 : Int), ((0 : Int), ([], ())))).2.1 == (1 : Int))
else none
theorem t37_6 (x0 x1) : exec cl N c37_6 (e166 x0 x1) K = (g37_6 x0 x1 (fun y0 => K .normal [(21, .v .bool y0)])) := by
  kernel_rfl
def g37_7 (x0 : Bool) (k0 : V0 → Option R) : Option R :=
k0 [(1 : Int), (2 : Int), (3 : Int)]
theorem t37_7 (x0) : exec cl N c37_7 [(21, .v .bool x0)] K = (g37_7 x0 (fun y0 => K .normal (e165 y0))) := by
  kernel_rfl
theorem kp37_1 (x0) : keep [4] [(21, .v .bool x0)] = [(4, .dead)] := by kernel_rfl
theorem hb37_0 (x0) : boolOf? (ent [(21, .v .bool x0)] (.t 21)) = some x0 := by kernel_rfl
theorem kp37_2 : keep [4] [(4, .dead)] = [(4, .dead)] := by kernel_rfl
theorem hb37_1 (x0 x1) : boolOf? (ent (e166 x0 x1) (.t 17)) = some x1 := by kernel_rfl
theorem hb37_2 (x0 x1 x2) : boolOf? (ent (e164 x0 x1 x2) (.t 8)) = some x2 := by kernel_rfl
def g37_12 (k0 : V0 → Option R) : Option R :=
k0 [(1 : Int), (2 : Int), (3 : Int), (4 : Int)]
theorem t37_12 : exec cl N c37_12 [(4, .dead)] K = (g37_12 (fun y0 => K .normal (e165 y0))) := by
  kernel_rfl
def g37_13 (S13 : V19 → Option (Bool)) (S14 : V19 → Option (Int)) (x0 x1 : V19) (k0 : V0 → Option R) : Option R :=
(g37_0 x0 x1 (fun y0 y1 => (g37_1 S14 y0 y1 (fun y0 y1 y2 => (g37_2 S13 y0 y1 y2 (fun y0 y1 y2 => brB y2 (g37_3 y0 y1 y2 (fun y0 => ((fun y0 => (k0 y0)) y0))) (g37_4 y0 y1 y2 (fun y0 y1 => brB y1 (g37_5 y0 y1 (fun y0 => ((fun y0 => (k0 y0)) y0))) (g37_6 y0 y1 (fun y0 => brB y0 (g37_7 y0 (fun y0 => ((fun y0 => (k0 y0)) y0))) (g37_12 (fun y0 => (k0 y0)))))))))))))
theorem t37_13 (S13) (S14) (h13 : (ctr13 S13).holds cl) (h14 : (ctr14 S14).holds cl) (x0 x1) : exec cl N c37_13 (e153 x0 x1) K = (g37_13 S13 S14 x0 x1 (fun y0 => K .ret (e165 y0))) := by
  simp only [c37_13, exec_seq, seqK_normal, seqK_exit, seqK_ret, t37_0, t37_1 S14 h14, c37_11, exec_out, exec_block, t37_2 S13 h13, c37_10, exec_cond', hb37_2, Option.bind_some, brB_true, brB_false, t37_3, exec_ret, t37_4, c37_9, hb37_1, t37_5, t37_6, c37_8, hb37_0, t37_7, exec_skip, kp37_0, kp37_1, kp37_2, blockK_normal, blockK_ret, blockK_eq, t37_12]
  rfl
theorem rk37_0 (y0) : retK d37 .ret (e165 y0) = some [.own true 3 U2 .no y0] := by kernel_rfl
def g37 (S13 : V19 → Option (Bool)) (S14 : V19 → Option (Int)) (x0 x1 : V19) (k : V0 → Option R) : Option R :=
(g37_13 S13 S14 x0 x1 (fun y0 => k y0))
theorem gen37 {N : Nat} {cl : Cal} (S13 : V19 → Option (Bool)) (S14 : V19 → Option (Int)) (h13 : (ctr13 S13).holds cl) (h14 : (ctr14 S14).holds cl) (x0 : V19) (x1 : V19) {R : Type} (k : List E → Option R) : exec cl N c37 (params 0 [.v U22 x0, .v U22 x1]) (fun e env => (retK d37 e env).bind k) = g37 S13 S14 x0 x1 (fun (r0 : V0) => k [.own true 3 U2 .no r0]) := by
  have e0 : params 0 [.v U22 x0, .v U22 x1] = (e153 x0 x1) := by kernel_rfl
  simp only [c37, e0, t37_13 S13 S14 h13 h14, rk37_0, Option.bind_some]
  rfl
def ctr37 (S : V19 → V19 → Option V3) : Ctr := { A := V19 × V19 × Unit, B := V0, f := 37, enc := fun a => [.v U22 a.1, .v U22 a.2.1], dec := (decC (decV U22) (decC (decV U22) dec0)), S := fun a => S a.1 a.2.1, ent := fun b => [.own true 3 U2 .no b], ok := (decV_cons (T := U22) (decV_cons (T := U22) (fun es b h => dec0_some h))) }
def S37 (N : Nat) (x0 : V19) (x1 : V19) : Option V3 := g37 (S13 N) (S14 N) x0 x1 (fun (r0 : V0) => some (r0))
def g39_0 (x0 x1 : Int) (k0 : Int → Int → Option R) : Option R :=
k0 x0 x1
theorem t39_0 (x0 x1) : exec cl N c39_0 (e167 x0 x1) K = (g39_0 x0 x1 (fun y0 y1 => K .normal (e167 y0 y1))) := by
  kernel_rfl
def g39_1 (x0 x1 : Int) (k0 : Int → Int → Option R) : Option R :=
k0 x1 x0
theorem t39_1 (x0 x1) : exec cl N c39_1 (e167 x0 x1) K = (g39_1 x0 x1 (fun y0 y1 => K .normal [(1, .v U2 y0), (5, .v U2 y1)])) := by
  kernel_rfl
def g39_2 (x0 x1 : Int) (k0 : Int → Int → Bool → Option R) : Option R :=
k0 x0 x1 (x1 == (2 : Int))
theorem t39_2 (x0 x1) : exec cl N c39_2 [(1, .v U2 x0), (5, .v U2 x1)] K = (g39_2 x0 x1 (fun y0 y1 y2 => K .normal (e168 y0 y1 y2))) := by
  kernel_rfl
def g39_3 (x0 x1 : Int) (x2 : Bool) (k0 : Int → Option R) : Option R :=
k0 (10 : Int)
theorem t39_3 (x0 x1 x2) : exec cl N c39_3 (e168 x0 x1 x2) K = (g39_3 x0 x1 x2 (fun y0 => K .normal [(4, .v U2 y0)])) := by
  kernel_rfl
theorem kp39_0 (x0) : keep [1, 4] [(4, .v U2 x0)] = (e155 x0) := by kernel_rfl
def g39_4 (x0 x1 : Int) (x2 : Bool) (k0 : Int → Int → Bool → Option R) : Option R :=
k0 x0 x1 (x1 == (3 : Int))
theorem t39_4 (x0 x1 x2) : exec cl N c39_4 (e168 x0 x1 x2) K = (g39_4 x0 x1 x2 (fun y0 y1 y2 => K .normal (e169 y0 y1 y2))) := by
  kernel_rfl
def g39_5 (x0 x1 : Int) (x2 : Bool) (k0 : Int → Option R) : Option R :=
k0 (11 : Int)
theorem t39_5 (x0 x1 x2) : exec cl N c39_5 (e169 x0 x1 x2) K = (g39_5 x0 x1 x2 (fun y0 => K .normal [(4, .v U2 y0)])) := by
  kernel_rfl
def g39_6 (x0 x1 : Int) (x2 : Bool) (k0 : Int → Bool → Option R) : Option R :=
k0 x0 (x1 == (4 : Int))
theorem t39_6 (x0 x1 x2) : exec cl N c39_6 (e169 x0 x1 x2) K = (g39_6 x0 x1 x2 (fun y0 y1 => K .normal (e170 y0 y1))) := by
  kernel_rfl
def g39_7 (x0 : Int) (x1 : Bool) (k0 : Int → Option R) : Option R :=
k0 (12 : Int)
theorem t39_7 (x0 x1) : exec cl N c39_7 (e170 x0 x1) K = (g39_7 x0 x1 (fun y0 => K .normal [(4, .v U2 y0)])) := by
  kernel_rfl
theorem kp39_1 (x0 x1) : keep [1, 4] (e170 x0 x1) = (e171 x0) := by kernel_rfl
theorem hb39_0 (x0 x1) : boolOf? (ent (e170 x0 x1) (.t 10)) = some x1 := by kernel_rfl
theorem kp39_2 (x0) : keep [1, 4] (e155 x0) = (e155 x0) := by kernel_rfl
theorem kp39_3 (x0) : keep [1, 4] (e171 x0) = (e171 x0) := by kernel_rfl
theorem hb39_1 (x0 x1 x2) : boolOf? (ent (e169 x0 x1 x2) (.t 8)) = some x2 := by kernel_rfl
theorem hb39_2 (x0 x1 x2) : boolOf? (ent (e168 x0 x1 x2) (.t 6)) = some x2 := by kernel_rfl
def g39_12 (x0 : Int) (k0 : Bool → Option R) : Option R :=
k0 (x0 == (2 : Int))
theorem t39_12 (x0) : exec cl N c39_12 (e171 x0) K = (g39_12 x0 (fun y0 => K .normal [(13, .v .bool y0)])) := by
  kernel_rfl
def g39_13 (x0 : Bool) (k0 : Int → Option R) : Option R :=
k0 (9 : Int)
theorem t39_13 (x0) : exec cl N c39_13 [(13, .v .bool x0)] K = (g39_13 x0 (fun y0 => K .normal [(4, .v U2 y0)])) := by
  kernel_rfl
theorem kp39_4 (x0) : keep [4] [(4, .v U2 x0)] = [(4, .v U2 x0)] := by kernel_rfl
theorem kp39_5 (x0) : keep [4] [(13, .v .bool x0)] = [(4, .dead)] := by kernel_rfl
theorem hb39_3 (x0) : boolOf? (ent [(13, .v .bool x0)] (.t 13)) = some x0 := by kernel_rfl
def g39_15 (k0 : Int → Option R) : Option R :=
k0 (8 : Int)
theorem t39_15 : exec cl N c39_15 [(4, .dead)] K = (g39_15 (fun y0 => K .normal [(4, .v U2 y0)])) := by
  kernel_rfl
def g39_16 (x0 x1 : Int) (k0 : Int → Option R) (k1 : Int → Option R) : Option R :=
(g39_0 x0 x1 (fun y0 y1 => (g39_1 y0 y1 (fun y0 y1 => (g39_2 y0 y1 (fun y0 y1 y2 => brB y2 (g39_3 y0 y1 y2 (fun y0 => ((fun y0 => (k0 y0)) y0))) (g39_4 y0 y1 y2 (fun y0 y1 y2 => brB y2 (g39_5 y0 y1 y2 (fun y0 => ((fun y0 => (k0 y0)) y0))) (g39_6 y0 y1 y2 (fun y0 y1 => brB y1 (g39_7 y0 y1 (fun y0 => ((fun y0 => (k0 y0)) y0))) ((fun y0 => ((fun y0 => ((fun y0 => ((fun y0 => (g39_12 y0 (fun y0 => brB y0 (g39_13 y0 (fun y0 => ((fun y0 => (k1 y0)) y0))) (g39_15 (fun y0 => (k1 y0)))))) y0)) y0)) y0)) y0)))))))))))
theorem t39_16 (x0 x1) : exec cl N c39_16 (e167 x0 x1) K = (g39_16 x0 x1 (fun y0 => K .ret (e155 y0)) (fun y0 => K .ret [(4, .v U2 y0)])) := by
  simp only [c39_16, exec_seq, seqK_normal, seqK_exit, seqK_ret, t39_0, t39_1, c39_11, exec_out, exec_block, t39_2, c39_10, exec_cond', hb39_2, Option.bind_some, brB_true, brB_false, t39_3, exec_ret, t39_4, c39_9, hb39_1, t39_5, t39_6, c39_8, hb39_0, t39_7, exec_skip, kp39_0, kp39_1, kp39_2, kp39_3, blockK_normal, blockK_ret, blockK_eq, t39_12, c39_14, hb39_3, t39_13, kp39_4, kp39_5, t39_15]
  rfl
theorem rk39_0 (y0) : retK d39 .ret (e155 y0) = some [.v U2 y0] := by kernel_rfl
theorem rk39_1 (y0) : retK d39 .ret [(4, .v U2 y0)] = some [.v U2 y0] := by kernel_rfl
def g39 (x0 x1 : Int) (k : Int → Option R) : Option R :=
(g39_16 x0 x1 (fun y0 => k y0) (fun y0 => k y0))
theorem gen39 {N : Nat} {cl : Cal} (x0 : Int) (x1 : Int) {R : Type} (k : List E → Option R) : exec cl N c39 (params 0 [.v U2 x0, .v U2 x1]) (fun e env => (retK d39 e env).bind k) = g39 x0 x1 (fun (r0 : Int) => k [.v U2 r0]) := by
  have e0 : params 0 [.v U2 x0, .v U2 x1] = (e167 x0 x1) := by kernel_rfl
  simp only [c39, e0, t39_16, rk39_0, rk39_1, Option.bind_some]
  rfl
def ctr39 (S : Int → Int → Option (Int)) : Ctr := { A := Int × Int × Unit, B := Int, f := 39, enc := fun a => [.v U2 a.1, .v U2 a.2.1], dec := (decC (decV U2) (decC (decV U2) dec0)), S := fun a => S a.1 a.2.1, ent := fun b => [.v U2 b], ok := (decV_cons (T := U2) (decV_cons (T := U2) (fun es b h => dec0_some h))) }
def S39 (N : Nat) (x0 : Int) (x1 : Int) : Option (Int) := g39 x0 x1 (fun (r0 : Int) => some (r0))
def g57_0 (x0 : V20) (x1 : V1) (k0 : V1 → V20 → Option R) : Option R :=
k0 x1 x0
theorem t57_0 (x0 x1) : exec cl N c57_0 [(0, .v U21 x0), (1, .v .str x1)] K = (g57_0 x0 x1 (fun y0 y1 => K .normal [(1, .v .str y0), (2, .loc U21 .no y1)])) := by
  kernel_rfl
def g57_1 (S74 : V7 → V1 → Option (Bool)) (x0 : V1) (x1 : V20) (k0 : Bool → Option R) : Option R :=
brB ((x1.2.2.1.length : Int) == (0 : Int)) (k0 true) ((S74 x1.2.2.1 x0).bind fun r600 =>
k0 r600)
theorem t57_1 (S74) (h74 : (ctr74 S74).holds cl) (x0 x1) : exec cl N c57_1 [(1, .v .str x0), (2, .loc U21 .no x1)] K = (g57_1 S74 x0 x1 (fun y0 => K .normal [(4, .v .bool y0)])) := by
  rw [← put_eq h74]
  kernel_rfl
def g57_2 (S74 : V7 → V1 → Option (Bool)) (x0 : V20) (x1 : V1) (k0 : Bool → Option R) : Option R :=
(g57_0 x0 x1 (fun y0 y1 => (g57_1 S74 y0 y1 (fun y0 => (k0 y0)))))
theorem t57_2 (S74) (h74 : (ctr74 S74).holds cl) (x0 x1) : exec cl N c57_2 [(0, .v U21 x0), (1, .v .str x1)] K = (g57_2 S74 x0 x1 (fun y0 => K .ret [(4, .v .bool y0)])) := by
  simp only [c57_2, exec_seq, seqK_normal, seqK_exit, seqK_ret, t57_0, t57_1 S74 h74, exec_ret]
  rfl
theorem rk57_0 (y0) : retK d57 .ret [(4, .v .bool y0)] = some [.v .bool y0] := by kernel_rfl
def g57 (S74 : V7 → V1 → Option (Bool)) (x0 : V20) (x1 : V1) (k : Bool → Option R) : Option R :=
(g57_2 S74 x0 x1 (fun y0 => k y0))
theorem gen57 {N : Nat} {cl : Cal} (S74 : V7 → V1 → Option (Bool)) (h74 : (ctr74 S74).holds cl) (x0 : V20) (x1 : V1) {R : Type} (k : List E → Option R) : exec cl N c57 (params 0 [.v U21 x0, .v .str x1]) (fun e env => (retK d57 e env).bind k) = g57 S74 x0 x1 (fun (r0 : Bool) => k [.v .bool r0]) := by
  have e0 : params 0 [.v U21 x0, .v .str x1] = [(0, .v U21 x0), (1, .v .str x1)] := by kernel_rfl
  simp only [c57, e0, t57_2 S74 h74, rk57_0, Option.bind_some]
  rfl
def ctr57 (S : V20 → V1 → Option (Bool)) : Ctr := { A := V20 × V1 × Unit, B := Bool, f := 57, enc := fun a => [.v U21 a.1, .v .str a.2.1], dec := (decC (decV U21) (decC (decV .str) dec0)), S := fun a => S a.1 a.2.1, ent := fun b => [.v .bool b], ok := (decV_cons (T := U21) (decV_cons (T := .str) (fun es b h => dec0_some h))) }
def S57 (N : Nat) (x0 : V20) (x1 : V1) : Option (Bool) := g57 (S74 N) x0 x1 (fun (r0 : Bool) => some (r0))
def g38_0 (x0 : V26) (x1 : Int) (x2 : V1) (k0 : Int → V1 → V26 → Option R) : Option R :=
k0 x1 x2 x0
theorem t38_0 (x0 x1 x2) : exec cl N c38_0 (e172 x0 x1 x2) K = (g38_0 x0 x1 x2 (fun y0 y1 y2 => K .normal (e173 y0 y1 y2))) := by
  kernel_rfl
def g38_1 (S56 : V1 → Option V5) (x0 : Int) (x1 : V1) (x2 : V26) (k0 : Int → V1 → V26 → Option R) : Option R :=
(S56 x1).bind fun r604 =>
k0 x0 r604 x2
theorem t38_1 (S56) (h56 : (ctr56 S56).holds cl) (x0 x1 x2) : exec cl N c38_1 (e173 x0 x1 x2) K = (g38_1 S56 x0 x1 x2 (fun y0 y1 y2 => K .normal (e173 y0 y1 y2))) := by
  rw [← put_eq h56]
  kernel_rfl
def g38_2 (x0 : Int) (x1 : V1) (x2 : V26) (k0 : Int → V1 → V26 → Int → Bool → Option R) : Option R :=
k0 x0 x1 x2 (0 : Int) false
theorem t38_2 (x0 x1 x2) : exec cl N c38_2 (e173 x0 x1 x2) K = (g38_2 x0 x1 x2 (fun y0 y1 y2 y3 y4 => K .normal [(1, .v U2 y0), (2, .v .str y1), (3, .loc U28 .no y2), (8, .v U2 y3), (9, .v .bool y4)])) := by
  kernel_rfl
def g38_3 (x0 : Int) (x1 : V1) (x2 : V26) (x3 : Int) (x4 : Bool) (k0 : Int → V1 → Int → Bool → V23 → Int → Int → Option R) : Option R :=
k0 x0 x1 x3 x4 x2.2.1 (x2.2.1.length : Int) (0 : Int)
theorem t38_3 (x0 x1 x2 x3 x4) : exec cl N c38_3 [(1, .v U2 x0), (2, .v .str x1), (3, .loc U28 .no x2), (8, .v U2 x3), (9, .v .bool x4)] K = (g38_3 x0 x1 x2 x3 x4 (fun y0 y1 y2 y3 y4 y5 y6 => K .normal (e174 y0 y1 y2 y3 y4 y5 y6))) := by
  kernel_rfl
theorem kp38_0 (x0 x1 x2 x3 x4 x5 x6) : keep [1, 2, 8, 9, 15, 16, 17] (e174 x0 x1 x2 x3 x4 x5 x6) = (e174 x0 x1 x2 x3 x4 x5 x6) := by kernel_rfl
def g38_4 (x0 : Int) (x1 : V1) (x2 : Int) (x3 : Bool) (x4 : V23) (x5 x6 : Int) (k0 : Int → V1 → Int → Bool → V23 → Int → Int → Bool → Option R) : Option R :=
k0 x0 x1 x2 x3 x4 x5 x6 (decide (x6 < x5))
theorem t38_4 (x0 x1 x2 x3 x4 x5 x6) : exec cl N c38_4 (e174 x0 x1 x2 x3 x4 x5 x6) K = (g38_4 x0 x1 x2 x3 x4 x5 x6 (fun y0 y1 y2 y3 y4 y5 y6 y7 => K .normal (e175 y0 y1 y2 y3 y4 y5 y6 y7))) := by
  kernel_rfl
theorem kp38_1 (x0 x1 x2 x3 x4 x5 x6 x7) : keep [1, 2, 8, 9, 15, 16, 17] (e175 x0 x1 x2 x3 x4 x5 x6 x7) = (e174 x0 x1 x2 x3 x4 x5 x6) := by kernel_rfl
theorem hb38_0 (x0 x1 x2 x3 x4 x5 x6 x7) : boolOf? (ent (e175 x0 x1 x2 x3 x4 x5 x6 x7) (.t 18)) = some x7 := by kernel_rfl
def g38_6 (x0 : Int) (x1 : V1) (x2 : Int) (x3 : Bool) (x4 : V23) (x5 x6 : Int) (k0 : Int → V1 → Int → Bool → V20 → V23 → Int → Int → Option R) : Option R :=
if 0 ≤ x6 ∧ x6 < (x4.length : Int) then
k0 x0 x1 x2 x3 (x4.getD x6.toNat ((0 : Int), ((0 : Int), ([], ())))) x4 x5 x6
else none
theorem t38_6 (x0 x1 x2 x3 x4 x5 x6) : exec cl N c38_6 (e174 x0 x1 x2 x3 x4 x5 x6) K = (g38_6 x0 x1 x2 x3 x4 x5 x6 (fun y0 y1 y2 y3 y4 y5 y6 y7 => K .normal (e176 y0 y1 y2 y3 y4 y5 y6 y7))) := by
  kernel_rfl
def g38_7 (S57 : V20 → V1 → Option (Bool)) (x0 : Int) (x1 : V1) (x2 : Int) (x3 : Bool) (x4 : V20) (x5 : V23) (x6 x7 : Int) (k0 : Int → V1 → Int → Bool → V20 → V23 → Int → Int → Bool → Option R) : Option R :=
brB (x4.1 == x0) ((S57 x4 x1).bind fun r606 =>
brB r606 (brB (!x3) (k0 x0 x1 x2 x3 x4 x5 x6 x7 true) (k0 x0 x1 x2 x3 x4 x5 x6 x7 (decide (x4.2.1 < x2)))) (k0 x0 x1 x2 x3 x4 x5 x6 x7 false)) (k0 x0 x1 x2 x3 x4 x5 x6 x7 false)
theorem t38_7 (S57) (h57 : (ctr57 S57).holds cl) (x0 x1 x2 x3 x4 x5 x6 x7) : exec cl N c38_7 (e176 x0 x1 x2 x3 x4 x5 x6 x7) K = (g38_7 S57 x0 x1 x2 x3 x4 x5 x6 x7 (fun y0 y1 y2 y3 y4 y5 y6 y7 y8 => K .normal (e177 y0 y1 y2 y3 y4 y5 y6 y7 y8))) := by
  rw [← put_eq h57]
  kernel_rfl
def g38_8 (x0 : Int) (x1 : V1) (x2 : Int) (x3 : Bool) (x4 : V20) (x5 : V23) (x6 x7 : Int) (x8 : Bool) (k0 : Int → V1 → Int → Bool → V23 → Int → Int → Option R) : Option R :=
k0 x0 x1 x4.2.1 true x5 x6 x7
theorem t38_8 (x0 x1 x2 x3 x4 x5 x6 x7 x8) : exec cl N c38_8 (e177 x0 x1 x2 x3 x4 x5 x6 x7 x8) K = (g38_8 x0 x1 x2 x3 x4 x5 x6 x7 x8 (fun y0 y1 y2 y3 y4 y5 y6 => K .normal (e174 y0 y1 y2 y3 y4 y5 y6))) := by
  kernel_rfl
theorem kp38_2 (x0 x1 x2 x3 x4 x5 x6 x7 x8) : keep [1, 2, 8, 9, 15, 16, 17] (e177 x0 x1 x2 x3 x4 x5 x6 x7 x8) = (e174 x0 x1 x2 x3 x5 x6 x7) := by kernel_rfl
theorem hb38_1 (x0 x1 x2 x3 x4 x5 x6 x7 x8) : boolOf? (ent (e177 x0 x1 x2 x3 x4 x5 x6 x7 x8) (.t 39)) = some x8 := by kernel_rfl
def g38_10 (S57 : V20 → V1 → Option (Bool)) (x0 : Int) (x1 : V1) (x2 : Int) (x3 : Bool) (x4 : V23) (x5 x6 : Int) (k0 : Int → V1 → Int → Bool → V23 → Int → Int → Option R) : Option R :=
(g38_6 x0 x1 x2 x3 x4 x5 x6 (fun y0 y1 y2 y3 y4 y5 y6 y7 => (g38_7 S57 y0 y1 y2 y3 y4 y5 y6 y7 (fun y0 y1 y2 y3 y4 y5 y6 y7 y8 => brB y8 (g38_8 y0 y1 y2 y3 y4 y5 y6 y7 y8 (fun y0 y1 y2 y3 y4 y5 y6 => (k0 y0 y1 y2 y3 y4 y5 y6))) (k0 y0 y1 y2 y3 y5 y6 y7)))))
theorem t38_10 (S57) (h57 : (ctr57 S57).holds cl) (x0 x1 x2 x3 x4 x5 x6) : exec cl N c38_10 (e174 x0 x1 x2 x3 x4 x5 x6) K = (g38_10 S57 x0 x1 x2 x3 x4 x5 x6 (fun y0 y1 y2 y3 y4 y5 y6 => K .normal (e174 y0 y1 y2 y3 y4 y5 y6))) := by
  simp only [c38_10, exec_out, exec_block, exec_seq, seqK_normal, seqK_exit, seqK_ret, t38_6, t38_7 S57 h57, c38_9, exec_cond', hb38_1, Option.bind_some, brB_true, brB_false, t38_8, exec_skip, kp38_0, kp38_2, blockK_normal, blockK_ret, blockK_eq]
  rfl
def g38_11 (x0 : Int) (x1 : V1) (x2 : Int) (x3 : Bool) (x4 : V23) (x5 x6 : Int) (k0 : Int → V1 → Int → Bool → V23 → Int → Int → Option R) : Option R :=
k0 x0 x1 x2 x3 x4 x5 (IntKind.i64.wrap (x6 + (1 : Int)))
theorem t38_11 (x0 x1 x2 x3 x4 x5 x6) : exec cl N c38_11 (e174 x0 x1 x2 x3 x4 x5 x6) K = (g38_11 x0 x1 x2 x3 x4 x5 x6 (fun y0 y1 y2 y3 y4 y5 y6 => K .normal (e174 y0 y1 y2 y3 y4 y5 y6))) := by
  kernel_rfl
def g38_12 (S57 : V20 → V1 → Option (Bool)) (x0 : Int) (x1 : V1) (x2 : Int) (x3 : Bool) (x4 : V23) (x5 x6 : Int) (k0 : Int → V1 → Int → Bool → V23 → Int → Int → Option R) (k1 : Int → V1 → Int → Bool → V23 → Int → Int → Option R) : Option R :=
(g38_4 x0 x1 x2 x3 x4 x5 x6 (fun y0 y1 y2 y3 y4 y5 y6 y7 => brB y7 ((fun y0 y1 y2 y3 y4 y5 y6 => (g38_10 S57 y0 y1 y2 y3 y4 y5 y6 (fun y0 y1 y2 y3 y4 y5 y6 => (g38_11 y0 y1 y2 y3 y4 y5 y6 k0)))) y0 y1 y2 y3 y4 y5 y6) (k1 y0 y1 y2 y3 y4 y5 y6)))
theorem t38_12 (S57) (h57 : (ctr57 S57).holds cl) (x0 x1 x2 x3 x4 x5 x6) : exec cl N c38_12 (e174 x0 x1 x2 x3 x4 x5 x6) K = (g38_12 S57 x0 x1 x2 x3 x4 x5 x6 (fun y0 y1 y2 y3 y4 y5 y6 => K .normal (e174 y0 y1 y2 y3 y4 y5 y6)) (fun y0 y1 y2 y3 y4 y5 y6 => K (.exit 0) (e174 y0 y1 y2 y3 y4 y5 y6))) := by
  simp only [c38_12, exec_seq, seqK_normal, seqK_exit, seqK_ret, t38_4, c38_5, exec_out, exec_cond', hb38_0, Option.bind_some, brB_true, brB_false, exec_skip, exec_exit, kp38_1, t38_10 S57 h57, t38_11]
  rfl
def l38_13 {R : Type} (S57 : V20 → V1 → Option (Bool)) (k0 : Int → V1 → Int → Bool → V23 → Int → Int → Option R) : Nat → Int → V1 → Int → Bool → V23 → Int → Int → Option R
  | 0, _, _, _, _, _, _, _ => none
  | m + 1, x0, x1, x2, x3, x4, x5, x6 => (g38_12 S57 x0 x1 x2 x3 x4 x5 x6 (fun y0 y1 y2 y3 y4 y5 y6 => l38_13 S57 k0 m y0 y1 y2 y3 y4 y5 y6) k0)
theorem lt38_13 (S57) (h57 : (ctr57 S57).holds cl) : ∀ (m) (x0 x1 x2 x3 x4 x5 x6), iter [1, 2, 8, 9, 15, 16, 17] (fun env K => exec cl N c38_12 env K) K m (e174 x0 x1 x2 x3 x4 x5 x6) = l38_13 S57 (fun y0 y1 y2 y3 y4 y5 y6 => K (.exit 0) (e174 y0 y1 y2 y3 y4 y5 y6)) m x0 x1 x2 x3 x4 x5 x6 := by
  intro m
  induction m with
  | zero => intros; rfl
  | succ m ih =>
    intro x0 x1 x2 x3 x4 x5 x6
    simp only [iter_succ, t38_12 S57 h57, loopK_normal, loopK_exit, loopK_ret, kp38_0, ih]
    rfl
theorem kp38_3 (x0 x1 x2 x3 x4 x5 x6) : keep [8, 9] (e174 x0 x1 x2 x3 x4 x5 x6) = (e178 x2 x3) := by kernel_rfl
def g38_13 (N : Nat) (S57 : V20 → V1 → Option (Bool)) (x0 : Int) (x1 : V1) (x2 : Int) (x3 : Bool) (x4 : V23) (x5 x6 : Int) (k0 : Int → Bool → Option R) : Option R :=
l38_13 S57 (fun y0 y1 y2 y3 y4 y5 y6 => k0 y2 y3) N x0 x1 x2 x3 x4 x5 x6
theorem t38_13 (S57) (h57 : (ctr57 S57).holds cl) (x0 x1 x2 x3 x4 x5 x6) : exec cl N c38_13 (e174 x0 x1 x2 x3 x4 x5 x6) K = (g38_13 N S57 x0 x1 x2 x3 x4 x5 x6 (fun y0 y1 => K (.exit 0) (e178 y0 y1))) := by
  simp only [c38_13, exec_out, exec_loop, kp38_0, lt38_13 S57 h57, kp38_3]
  rfl
theorem kp38_4 (x0 x1) : keep [8, 9] (e178 x0 x1) = (e178 x0 x1) := by kernel_rfl
def g38_15 (x0 : Int) (x1 : Bool) (k0 : Int → Bool → Option R) : Option R :=
k0 x0 x1
theorem t38_15 (x0 x1) : exec cl N c38_15 (e178 x0 x1) K = (g38_15 x0 x1 (fun y0 y1 => K .normal [(6, .v U2 y0), (7, .v .bool y1)])) := by
  kernel_rfl
def g38_16 (N : Nat) (S56 : V1 → Option V5) (S57 : V20 → V1 → Option (Bool)) (x0 : V26) (x1 : Int) (x2 : V1) (k0 : Int → Bool → Option R) : Option R :=
(g38_0 x0 x1 x2 (fun y0 y1 y2 => (g38_1 S56 y0 y1 y2 (fun y0 y1 y2 => (g38_2 y0 y1 y2 (fun y0 y1 y2 y3 y4 => (g38_3 y0 y1 y2 y3 y4 (fun y0 y1 y2 y3 y4 y5 y6 => (g38_13 N S57 y0 y1 y2 y3 y4 y5 y6 (fun y0 y1 => ((fun y0 y1 => (g38_15 y0 y1 (fun y0 y1 => (k0 y0 y1)))) y0 y1)))))))))))
theorem t38_16 (S56) (S57) (h56 : (ctr56 S56).holds cl) (h57 : (ctr57 S57).holds cl) (x0 x1 x2) : exec cl N c38_16 (e172 x0 x1 x2) K = (g38_16 N S56 S57 x0 x1 x2 (fun y0 y1 => K .ret [(6, .v U2 y0), (7, .v .bool y1)])) := by
  simp only [c38_16, exec_seq, seqK_normal, seqK_exit, seqK_ret, t38_0, t38_1 S56 h56, t38_2, t38_3, c38_14, exec_out, exec_block, t38_13 S57 h57, blockK_normal, blockK_ret, blockK_eq, kp38_4, t38_15, exec_ret]
  rfl
theorem rk38_0 (y0 y1) : retK d38 .ret [(6, .v U2 y0), (7, .v .bool y1)] = some [.v U2 y0, .v .bool y1] := by kernel_rfl
def g38 (N : Nat) (S56 : V1 → Option V5) (S57 : V20 → V1 → Option (Bool)) (x0 : V26) (x1 : Int) (x2 : V1) (k : Int → Bool → Option R) : Option R :=
(g38_16 N S56 S57 x0 x1 x2 (fun y0 y1 => k y0 y1))
theorem gen38 {N : Nat} {cl : Cal} (S56 : V1 → Option V5) (S57 : V20 → V1 → Option (Bool)) (h56 : (ctr56 S56).holds cl) (h57 : (ctr57 S57).holds cl) (x0 : V26) (x1 : Int) (x2 : V1) {R : Type} (k : List E → Option R) : exec cl N c38 (params 0 [.v U28 x0, .v U2 x1, .v .str x2]) (fun e env => (retK d38 e env).bind k) = g38 N S56 S57 x0 x1 x2 (fun (r0 : Int) (r1 : Bool) => k [.v U2 r0, .v .bool r1]) := by
  have e0 : params 0 [.v U28 x0, .v U2 x1, .v .str x2] = (e172 x0 x1 x2) := by kernel_rfl
  simp only [c38, e0, t38_16 S56 S57 h56 h57, rk38_0, Option.bind_some]
  rfl
def ctr38 (S : V26 → Int → V1 → Option V4) : Ctr := { A := V26 × Int × V1 × Unit, B := Int × Bool, f := 38, enc := fun a => [.v U28 a.1, .v U2 a.2.1, .v .str a.2.2.1], dec := (decC (decV U28) (decC (decV U2) (decC (decV .str) dec0))), S := fun a => S a.1 a.2.1 a.2.2.1, ent := fun b => [.v U2 b.1, .v .bool b.2], ok := (decV_cons (T := U28) (decV_cons (T := U2) (decV_cons (T := .str) (fun es b h => dec0_some h)))) }
def S38 (N : Nat) (x0 : V26) (x1 : Int) (x2 : V1) : Option V4 := g38 N (S56 N) (S57 N) x0 x1 x2 (fun (r0 : Int) (r1 : Bool) => some (r0, r1))
def g11_0 (x0 : V26) (x1 x2 : V1) (x3 x4 : V19) (k0 : V1 → V1 → V19 → V19 → V26 → Option R) : Option R :=
k0 x1 x2 x3 x4 x0
theorem t11_0 (x0 x1 x2 x3 x4) : exec cl N c11_0 (e179 x0 x1 x2 x3 x4) K = (g11_0 x0 x1 x2 x3 x4 (fun y0 y1 y2 y3 y4 => K .normal (e180 y0 y1 y2 y3 y4))) := by
  kernel_rfl
def g11_1 (S35 : V26 → Option (Int)) (x0 x1 : V1) (x2 x3 : V19) (x4 : V26) (k0 : V1 → V1 → V19 → V19 → V26 → Int → Option R) : Option R :=
(S35 x4).bind fun r611 =>
k0 x0 x1 x2 x3 x4 r611
theorem t11_1 (S35) (h35 : (ctr35 S35).holds cl) (x0 x1 x2 x3 x4) : exec cl N c11_1 (e180 x0 x1 x2 x3 x4) K = (g11_1 S35 x0 x1 x2 x3 x4 (fun y0 y1 y2 y3 y4 y5 => K .normal (e181 y0 y1 y2 y3 y4 y5))) := by
  rw [← put_eq h35]
  kernel_rfl
def g11_2 (x0 x1 : V1) (x2 x3 : V19) (x4 : V26) (x5 : Int) (k0 : V1 → V1 → V19 → V19 → V26 → Int → Bool → Option R) : Option R :=
k0 x0 x1 x2 x3 x4 x5 (x5 != (0 : Int))
theorem t11_2 (x0 x1 x2 x3 x4 x5) : exec cl N c11_2 (e181 x0 x1 x2 x3 x4 x5) K = (g11_2 x0 x1 x2 x3 x4 x5 (fun y0 y1 y2 y3 y4 y5 y6 => K .normal (e182 y0 y1 y2 y3 y4 y5 y6))) := by
  kernel_rfl
def g11_3 (x0 x1 : V1) (x2 x3 : V19) (x4 : V26) (x5 : Int) (x6 : Bool) (k0 : V11 → Int → Option R) : Option R :=
k0 [] x5
theorem t11_3 (x0 x1 x2 x3 x4 x5 x6) : exec cl N c11_3 (e182 x0 x1 x2 x3 x4 x5 x6) K = (g11_3 x0 x1 x2 x3 x4 x5 x6 (fun y0 y1 => K .normal (e183 y0 y1))) := by
  kernel_rfl
theorem kp11_0 (x0 x1) : keep [1, 2, 3, 4, 5, 10, 11] (e183 x0 x1) = (e184 x0 x1) := by kernel_rfl
theorem kp11_1 (x0 x1 x2 x3 x4 x5 x6) : keep [1, 2, 3, 4, 5, 10, 11] (e182 x0 x1 x2 x3 x4 x5 x6) = (e185 x0 x1 x2 x3 x4) := by kernel_rfl
theorem hb11_0 (x0 x1 x2 x3 x4 x5 x6) : boolOf? (ent (e182 x0 x1 x2 x3 x4 x5 x6) (.t 23)) = some x6 := by kernel_rfl
def g11_5 (S36 : V19 → V19 → Option (Int)) (x0 x1 : V1) (x2 x3 : V19) (x4 : V26) (k0 : V1 → V1 → V19 → V19 → V26 → Int → Option R) : Option R :=
(S36 x2 x3).bind fun r613 =>
k0 x0 x1 x2 x3 x4 r613
theorem t11_5 (S36) (h36 : (ctr36 S36).holds cl) (x0 x1 x2 x3 x4) : exec cl N c11_5 (e185 x0 x1 x2 x3 x4) K = (g11_5 S36 x0 x1 x2 x3 x4 (fun y0 y1 y2 y3 y4 y5 => K .normal (e186 y0 y1 y2 y3 y4 y5))) := by
  rw [← put_eq h36]
  kernel_rfl
def g11_6 (x0 x1 : V1) (x2 x3 : V19) (x4 : V26) (x5 : Int) (k0 : V1 → V1 → V19 → V19 → V26 → Int → Bool → Option R) : Option R :=
k0 x0 x1 x2 x3 x4 x5 (x5 != (0 : Int))
theorem t11_6 (x0 x1 x2 x3 x4 x5) : exec cl N c11_6 (e186 x0 x1 x2 x3 x4 x5) K = (g11_6 x0 x1 x2 x3 x4 x5 (fun y0 y1 y2 y3 y4 y5 y6 => K .normal (e187 y0 y1 y2 y3 y4 y5 y6))) := by
  kernel_rfl
def g11_7 (x0 x1 : V1) (x2 x3 : V19) (x4 : V26) (x5 : Int) (x6 : Bool) (k0 : V11 → Int → Option R) : Option R :=
k0 [] x5
theorem t11_7 (x0 x1 x2 x3 x4 x5 x6) : exec cl N c11_7 (e187 x0 x1 x2 x3 x4 x5 x6) K = (g11_7 x0 x1 x2 x3 x4 x5 x6 (fun y0 y1 => K .normal (e183 y0 y1))) := by
  kernel_rfl
theorem kp11_2 (x0 x1 x2 x3 x4 x5 x6) : keep [1, 2, 3, 4, 5, 10, 11] (e187 x0 x1 x2 x3 x4 x5 x6) = (e185 x0 x1 x2 x3 x4) := by kernel_rfl
theorem hb11_1 (x0 x1 x2 x3 x4 x5 x6) : boolOf? (ent (e187 x0 x1 x2 x3 x4 x5 x6) (.t 29)) = some x6 := by kernel_rfl
def g11_9 (x0 x1 : V1) (x2 x3 : V19) (x4 : V26) (k0 : V1 → V1 → V19 → V19 → V26 → V11 → Option R) : Option R :=
k0 x0 x1 x2 x3 x4 []
theorem t11_9 (x0 x1 x2 x3 x4) : exec cl N c11_9 (e185 x0 x1 x2 x3 x4) K = (g11_9 x0 x1 x2 x3 x4 (fun y0 y1 y2 y3 y4 y5 => K .normal (e188 y0 y1 y2 y3 y4 y5))) := by
  kernel_rfl
def g11_10 (S37 : V19 → V19 → Option V3) (x0 x1 : V1) (x2 x3 : V19) (x4 : V26) (x5 : V11) (k0 : V1 → V1 → V19 → V26 → V11 → V0 → Int → Int → Option R) : Option R :=
(S37 x2 x3).bind fun r615 =>
k0 x0 x1 x2 x4 x5 r615 (r615.length : Int) (0 : Int)
theorem t11_10 (S37) (h37 : (ctr37 S37).holds cl) (x0 x1 x2 x3 x4 x5) : exec cl N c11_10 (e188 x0 x1 x2 x3 x4 x5) K = (g11_10 S37 x0 x1 x2 x3 x4 x5 (fun y0 y1 y2 y3 y4 y5 y6 y7 => K .normal (e189 y0 y1 y2 y3 y4 y5 y6 y7))) := by
  rw [← put_eq h37]
  kernel_rfl
theorem kp11_3 (x0 x1 x2 x3 x4 x5 x6 x7) : keep [1, 2, 3, 5, 14, 33, 34, 35] (e189 x0 x1 x2 x3 x4 x5 x6 x7) = (e189 x0 x1 x2 x3 x4 x5 x6 x7) := by kernel_rfl
def g11_11 (x0 x1 : V1) (x2 : V19) (x3 : V26) (x4 : V11) (x5 : V0) (x6 x7 : Int) (k0 : V1 → V1 → V19 → V26 → V11 → V0 → Int → Int → Bool → Option R) : Option R :=
k0 x0 x1 x2 x3 x4 x5 x6 x7 (decide (x7 < x6))
theorem t11_11 (x0 x1 x2 x3 x4 x5 x6 x7) : exec cl N c11_11 (e189 x0 x1 x2 x3 x4 x5 x6 x7) K = (g11_11 x0 x1 x2 x3 x4 x5 x6 x7 (fun y0 y1 y2 y3 y4 y5 y6 y7 y8 => K .normal (e190 y0 y1 y2 y3 y4 y5 y6 y7 y8))) := by
  kernel_rfl
theorem kp11_4 (x0 x1 x2 x3 x4 x5 x6 x7 x8) : keep [1, 2, 3, 5, 14, 33, 34, 35] (e190 x0 x1 x2 x3 x4 x5 x6 x7 x8) = (e189 x0 x1 x2 x3 x4 x5 x6 x7) := by kernel_rfl
theorem hb11_2 (x0 x1 x2 x3 x4 x5 x6 x7 x8) : boolOf? (ent (e190 x0 x1 x2 x3 x4 x5 x6 x7 x8) (.t 36)) = some x8 := by kernel_rfl
def g11_13 (x0 x1 : V1) (x2 : V19) (x3 : V26) (x4 : V11) (x5 : V0) (x6 x7 : Int) (k0 : V1 → V1 → V19 → V26 → V11 → Int → V0 → Int → Int → Option R) : Option R :=
if 0 ≤ x7 ∧ x7 < (x5.length : Int) then
if x7.toNat < x5.length then
k0 x0 x1 x2 x3 x4 (x5.getD x7.toNat (0 : Int)) x5 x6 x7
else none
else none
theorem t11_13 (x0 x1 x2 x3 x4 x5 x6 x7) : exec cl N c11_13 (e189 x0 x1 x2 x3 x4 x5 x6 x7) K = (g11_13 x0 x1 x2 x3 x4 x5 x6 x7 (fun y0 y1 y2 y3 y4 y5 y6 y7 y8 => K .normal (e191 y0 y1 y2 y3 y4 y5 y6 y7 y8))) := by
  kernel_rfl
def g11_14 (x0 x1 : V1) (x2 : V19) (x3 : V26) (x4 : V11) (x5 : Int) (x6 : V0) (x7 x8 : Int) (k0 : V1 → V1 → V19 → V26 → V11 → Int → V0 → Int → Int → Bool → Option R) : Option R :=
k0 x0 x1 x2 x3 x4 x5 x6 x7 x8 (x5 == (0 : Int))
theorem t11_14 (x0 x1 x2 x3 x4 x5 x6 x7 x8) : exec cl N c11_14 (e191 x0 x1 x2 x3 x4 x5 x6 x7 x8) K = (g11_14 x0 x1 x2 x3 x4 x5 x6 x7 x8 (fun y0 y1 y2 y3 y4 y5 y6 y7 y8 y9 => K .normal (e192 y0 y1 y2 y3 y4 y5 y6 y7 y8 y9))) := by
  kernel_rfl
def g11_15 (x0 x1 : V1) (x2 : V19) (x3 : V26) (x4 : V11) (x5 : Int) (x6 : V0) (x7 x8 : Int) (x9 : Bool) (k0 : V1 → V1 → V19 → V26 → V11 → V0 → Int → Int → Option R) : Option R :=
if x4.length + [(x5, (0 : Int), ())].length ≤ 8796093022208 then
k0 x0 x1 x2 x3 (x4 ++ [(x5, (0 : Int), ())]) x6 x7 x8
else none
theorem t11_15 (x0 x1 x2 x3 x4 x5 x6 x7 x8 x9) : exec cl N c11_15 (e192 x0 x1 x2 x3 x4 x5 x6 x7 x8 x9) K = (g11_15 x0 x1 x2 x3 x4 x5 x6 x7 x8 x9 (fun y0 y1 y2 y3 y4 y5 y6 y7 => K .normal (e189 y0 y1 y2 y3 y4 y5 y6 y7))) := by
  kernel_rfl
theorem kp11_5 (x0 x1 x2 x3 x4 x5 x6 x7) : keep [1, 2, 3, 5, 14, 16, 33, 34, 35] (e189 x0 x1 x2 x3 x4 x5 x6 x7) = (e193 x0 x1 x2 x3 x4 x5 x6 x7) := by kernel_rfl
theorem kp11_6 (x0 x1 x2 x3 x4 x5 x6 x7 x8 x9) : keep [1, 2, 3, 5, 14, 16, 33, 34, 35] (e192 x0 x1 x2 x3 x4 x5 x6 x7 x8 x9) = (e191 x0 x1 x2 x3 x4 x5 x6 x7 x8) := by kernel_rfl
theorem hb11_3 (x0 x1 x2 x3 x4 x5 x6 x7 x8 x9) : boolOf? (ent (e192 x0 x1 x2 x3 x4 x5 x6 x7 x8 x9) (.t 40)) = some x9 := by kernel_rfl
def g11_17 (x0 x1 : V1) (x2 : V19) (x3 : V26) (x4 : V11) (x5 : Int) (x6 : V0) (x7 x8 : Int) (k0 : V1 → V1 → V19 → V26 → V11 → Int → V1 → V0 → Int → Int → Option R) : Option R :=
k0 x0 x1 x2 x3 x4 x5 x0 x6 x7 x8
theorem t11_17 (x0 x1 x2 x3 x4 x5 x6 x7 x8) : exec cl N c11_17 (e191 x0 x1 x2 x3 x4 x5 x6 x7 x8) K = (g11_17 x0 x1 x2 x3 x4 x5 x6 x7 x8 (fun y0 y1 y2 y3 y4 y5 y6 y7 y8 y9 => K .normal (e194 y0 y1 y2 y3 y4 y5 y6 y7 y8 y9))) := by
  kernel_rfl
def g11_18 (x0 x1 : V1) (x2 : V19) (x3 : V26) (x4 : V11) (x5 : Int) (x6 : V1) (x7 : V0) (x8 x9 : Int) (k0 : V1 → V1 → V19 → V26 → V11 → Int → V1 → V0 → Int → Int → Bool → Option R) : Option R :=
k0 x0 x1 x2 x3 x4 x5 x6 x7 x8 x9 (x5 == (2 : Int))
theorem t11_18 (x0 x1 x2 x3 x4 x5 x6 x7 x8 x9) : exec cl N c11_18 (e194 x0 x1 x2 x3 x4 x5 x6 x7 x8 x9) K = (g11_18 x0 x1 x2 x3 x4 x5 x6 x7 x8 x9 (fun y0 y1 y2 y3 y4 y5 y6 y7 y8 y9 y10 => K .normal (e195 y0 y1 y2 y3 y4 y5 y6 y7 y8 y9 y10))) := by
  kernel_rfl
def g11_19 (x0 x1 : V1) (x2 : V19) (x3 : V26) (x4 : V11) (x5 : Int) (x6 : V1) (x7 : V0) (x8 x9 : Int) (x10 : Bool) (k0 : V1 → V1 → V19 → V26 → V11 → Int → V1 → V0 → Int → Int → Option R) : Option R :=
k0 x0 x1 x2 x3 x4 x5 x1 x7 x8 x9
theorem t11_19 (x0 x1 x2 x3 x4 x5 x6 x7 x8 x9 x10) : exec cl N c11_19 (e195 x0 x1 x2 x3 x4 x5 x6 x7 x8 x9 x10) K = (g11_19 x0 x1 x2 x3 x4 x5 x6 x7 x8 x9 x10 (fun y0 y1 y2 y3 y4 y5 y6 y7 y8 y9 => K .normal (e194 y0 y1 y2 y3 y4 y5 y6 y7 y8 y9))) := by
  kernel_rfl
theorem kp11_7 (x0 x1 x2 x3 x4 x5 x6 x7 x8 x9) : keep [1, 2, 3, 5, 14, 16, 17, 33, 34, 35] (e194 x0 x1 x2 x3 x4 x5 x6 x7 x8 x9) = (e194 x0 x1 x2 x3 x4 x5 x6 x7 x8 x9) := by kernel_rfl
theorem kp11_8 (x0 x1 x2 x3 x4 x5 x6 x7 x8 x9 x10) : keep [1, 2, 3, 5, 14, 16, 17, 33, 34, 35] (e195 x0 x1 x2 x3 x4 x5 x6 x7 x8 x9 x10) = (e194 x0 x1 x2 x3 x4 x5 x6 x7 x8 x9) := by kernel_rfl
theorem hb11_4 (x0 x1 x2 x3 x4 x5 x6 x7 x8 x9 x10) : boolOf? (ent (e195 x0 x1 x2 x3 x4 x5 x6 x7 x8 x9 x10) (.t 48)) = some x10 := by kernel_rfl
def g11_21 (x0 x1 : V1) (x2 : V19) (x3 : V26) (x4 : V11) (x5 : Int) (x6 : V1) (x7 : V0) (x8 x9 : Int) (k0 : V1 → V1 → V19 → V26 → V11 → Int → V1 → V0 → Int → Int → Option R) : Option R :=
(g11_18 x0 x1 x2 x3 x4 x5 x6 x7 x8 x9 (fun y0 y1 y2 y3 y4 y5 y6 y7 y8 y9 y10 => brB y10 (g11_19 y0 y1 y2 y3 y4 y5 y6 y7 y8 y9 y10 (fun y0 y1 y2 y3 y4 y5 y6 y7 y8 y9 => (k0 y0 y1 y2 y3 y4 y5 y6 y7 y8 y9))) (k0 y0 y1 y2 y3 y4 y5 y6 y7 y8 y9)))
theorem t11_21 (x0 x1 x2 x3 x4 x5 x6 x7 x8 x9) : exec cl N c11_21 (e194 x0 x1 x2 x3 x4 x5 x6 x7 x8 x9) K = (g11_21 x0 x1 x2 x3 x4 x5 x6 x7 x8 x9 (fun y0 y1 y2 y3 y4 y5 y6 y7 y8 y9 => K .normal (e194 y0 y1 y2 y3 y4 y5 y6 y7 y8 y9))) := by
  simp only [c11_21, exec_seq, seqK_normal, seqK_exit, seqK_ret, t11_18, c11_20, exec_out, exec_cond', hb11_4, Option.bind_some, brB_true, brB_false, t11_19, exec_skip, kp11_7, kp11_8]
  rfl
def g11_22 (S14 : V19 → Option (Int)) (S38 : V26 → Int → V1 → Option V4) (S39 : Int → Int → Option (Int)) (x0 x1 : V1) (x2 : V19) (x3 : V26) (x4 : V11) (x5 : Int) (x6 : V1) (x7 : V0) (x8 x9 : Int) (k0 : V1 → V1 → V19 → V26 → V11 → Int → Int → Bool → V0 → Int → Int → Option R) : Option R :=
(S14 x2).bind fun r621 =>
(S39 x5 r621).bind fun r622 =>
(S38 x3 r622 x6).bind fun r623 =>
k0 x0 x1 x2 x3 x4 x5 r623.1 r623.2 x7 x8 x9
theorem t11_22 (S14) (S38) (S39) (h14 : (ctr14 S14).holds cl) (h38 : (ctr38 S38).holds cl) (h39 : (ctr39 S39).holds cl) (x0 x1 x2 x3 x4 x5 x6 x7 x8 x9) : exec cl N c11_22 (e194 x0 x1 x2 x3 x4 x5 x6 x7 x8 x9) K = (g11_22 S14 S38 S39 x0 x1 x2 x3 x4 x5 x6 x7 x8 x9 (fun y0 y1 y2 y3 y4 y5 y6 y7 y8 y9 y10 => K .normal (e196 y0 y1 y2 y3 y4 y5 y6 y7 y8 y9 y10))) := by
  rw [← put_eq h14]
  rw [← put_eq h38]
  rw [← put_eq h39]
  kernel_rfl
def g11_23 (x0 x1 : V1) (x2 : V19) (x3 : V26) (x4 : V11) (x5 x6 : Int) (x7 : Bool) (x8 : V0) (x9 x10 : Int) (k0 : V1 → V1 → V19 → V26 → V11 → Int → Int → V0 → Int → Int → Bool → Option R) : Option R :=
k0 x0 x1 x2 x3 x4 x5 x6 x8 x9 x10 x7
theorem t11_23 (x0 x1 x2 x3 x4 x5 x6 x7 x8 x9 x10) : exec cl N c11_23 (e196 x0 x1 x2 x3 x4 x5 x6 x7 x8 x9 x10) K = (g11_23 x0 x1 x2 x3 x4 x5 x6 x7 x8 x9 x10 (fun y0 y1 y2 y3 y4 y5 y6 y7 y8 y9 y10 => K .normal (e197 y0 y1 y2 y3 y4 y5 y6 y7 y8 y9 y10))) := by
  kernel_rfl
def g11_24 (x0 x1 : V1) (x2 : V19) (x3 : V26) (x4 : V11) (x5 x6 : Int) (x7 : V0) (x8 x9 : Int) (x10 : Bool) (k0 : V1 → V1 → V19 → V26 → V11 → V0 → Int → Int → Option R) : Option R :=
if x4.length + [(x5, x6, ())].length ≤ 8796093022208 then
k0 x0 x1 x2 x3 (x4 ++ [(x5, x6, ())]) x7 x8 x9
else none
theorem t11_24 (x0 x1 x2 x3 x4 x5 x6 x7 x8 x9 x10) : exec cl N c11_24 (e197 x0 x1 x2 x3 x4 x5 x6 x7 x8 x9 x10) K = (g11_24 x0 x1 x2 x3 x4 x5 x6 x7 x8 x9 x10 (fun y0 y1 y2 y3 y4 y5 y6 y7 => K .normal (e189 y0 y1 y2 y3 y4 y5 y6 y7))) := by
  kernel_rfl
theorem kp11_9 (x0 x1 x2 x3 x4 x5 x6 x7 x8 x9 x10) : keep [1, 2, 3, 5, 14, 33, 34, 35] (e197 x0 x1 x2 x3 x4 x5 x6 x7 x8 x9 x10) = (e189 x0 x1 x2 x3 x4 x7 x8 x9) := by kernel_rfl
theorem hb11_5 (x0 x1 x2 x3 x4 x5 x6 x7 x8 x9 x10) : boolOf? (ent (e197 x0 x1 x2 x3 x4 x5 x6 x7 x8 x9 x10) (.t 60)) = some x10 := by kernel_rfl
theorem kp11_10 (x0 x1 x2 x3 x4 x5 x6 x7) : keep [1, 2, 3, 5, 14, 33, 34, 35] (e193 x0 x1 x2 x3 x4 x5 x6 x7) = (e189 x0 x1 x2 x3 x4 x5 x6 x7) := by kernel_rfl
def g11_26 (S14 : V19 → Option (Int)) (S38 : V26 → Int → V1 → Option V4) (S39 : Int → Int → Option (Int)) (x0 x1 : V1) (x2 : V19) (x3 : V26) (x4 : V11) (x5 : V0) (x6 x7 : Int) (k0 : V1 → V1 → V19 → V26 → V11 → V0 → Int → Int → Option R) : Option R :=
(g11_13 x0 x1 x2 x3 x4 x5 x6 x7 (fun y0 y1 y2 y3 y4 y5 y6 y7 y8 => (g11_14 y0 y1 y2 y3 y4 y5 y6 y7 y8 (fun y0 y1 y2 y3 y4 y5 y6 y7 y8 y9 => brB y9 (g11_15 y0 y1 y2 y3 y4 y5 y6 y7 y8 y9 (fun y0 y1 y2 y3 y4 y5 y6 y7 => ((fun y0 y1 y2 y3 y4 y5 y6 y7 => (k0 y0 y1 y2 y3 y4 y5 y6 y7)) y0 y1 y2 y3 y4 y5 y6 y7))) ((fun y0 y1 y2 y3 y4 y5 y6 y7 y8 => (g11_17 y0 y1 y2 y3 y4 y5 y6 y7 y8 (fun y0 y1 y2 y3 y4 y5 y6 y7 y8 y9 => (g11_21 y0 y1 y2 y3 y4 y5 y6 y7 y8 y9 (fun y0 y1 y2 y3 y4 y5 y6 y7 y8 y9 => (g11_22 S14 S38 S39 y0 y1 y2 y3 y4 y5 y6 y7 y8 y9 (fun y0 y1 y2 y3 y4 y5 y6 y7 y8 y9 y10 => (g11_23 y0 y1 y2 y3 y4 y5 y6 y7 y8 y9 y10 (fun y0 y1 y2 y3 y4 y5 y6 y7 y8 y9 y10 => brB y10 (g11_24 y0 y1 y2 y3 y4 y5 y6 y7 y8 y9 y10 (fun y0 y1 y2 y3 y4 y5 y6 y7 => (k0 y0 y1 y2 y3 y4 y5 y6 y7))) (k0 y0 y1 y2 y3 y4 y7 y8 y9)))))))))) y0 y1 y2 y3 y4 y5 y6 y7 y8)))))
theorem t11_26 (S14) (S38) (S39) (h14 : (ctr14 S14).holds cl) (h38 : (ctr38 S38).holds cl) (h39 : (ctr39 S39).holds cl) (x0 x1 x2 x3 x4 x5 x6 x7) : exec cl N c11_26 (e189 x0 x1 x2 x3 x4 x5 x6 x7) K = (g11_26 S14 S38 S39 x0 x1 x2 x3 x4 x5 x6 x7 (fun y0 y1 y2 y3 y4 y5 y6 y7 => K .normal (e189 y0 y1 y2 y3 y4 y5 y6 y7))) := by
  simp only [c11_26, exec_out, exec_block, exec_seq, seqK_normal, seqK_exit, seqK_ret, t11_13, t11_14, c11_16, exec_cond', hb11_3, Option.bind_some, brB_true, brB_false, t11_15, exec_exit, exec_skip, kp11_5, kp11_6, t11_17, t11_21, t11_22 S14 S38 S39 h14 h38 h39, t11_23, c11_25, hb11_5, t11_24, kp11_3, kp11_9, blockK_normal, blockK_ret, blockK_eq, kp11_10]
  rfl
def g11_27 (x0 x1 : V1) (x2 : V19) (x3 : V26) (x4 : V11) (x5 : V0) (x6 x7 : Int) (k0 : V1 → V1 → V19 → V26 → V11 → V0 → Int → Int → Option R) : Option R :=
k0 x0 x1 x2 x3 x4 x5 x6 (IntKind.i64.wrap (x7 + (1 : Int)))
theorem t11_27 (x0 x1 x2 x3 x4 x5 x6 x7) : exec cl N c11_27 (e189 x0 x1 x2 x3 x4 x5 x6 x7) K = (g11_27 x0 x1 x2 x3 x4 x5 x6 x7 (fun y0 y1 y2 y3 y4 y5 y6 y7 => K .normal (e189 y0 y1 y2 y3 y4 y5 y6 y7))) := by
  kernel_rfl
def g11_28 (S14 : V19 → Option (Int)) (S38 : V26 → Int → V1 → Option V4) (S39 : Int → Int → Option (Int)) (x0 x1 : V1) (x2 : V19) (x3 : V26) (x4 : V11) (x5 : V0) (x6 x7 : Int) (k0 : V1 → V1 → V19 → V26 → V11 → V0 → Int → Int → Option R) (k1 : V1 → V1 → V19 → V26 → V11 → V0 → Int → Int → Option R) : Option R :=
(g11_11 x0 x1 x2 x3 x4 x5 x6 x7 (fun y0 y1 y2 y3 y4 y5 y6 y7 y8 => brB y8 ((fun y0 y1 y2 y3 y4 y5 y6 y7 => (g11_26 S14 S38 S39 y0 y1 y2 y3 y4 y5 y6 y7 (fun y0 y1 y2 y3 y4 y5 y6 y7 => (g11_27 y0 y1 y2 y3 y4 y5 y6 y7 k0)))) y0 y1 y2 y3 y4 y5 y6 y7) (k1 y0 y1 y2 y3 y4 y5 y6 y7)))
theorem t11_28 (S14) (S38) (S39) (h14 : (ctr14 S14).holds cl) (h38 : (ctr38 S38).holds cl) (h39 : (ctr39 S39).holds cl) (x0 x1 x2 x3 x4 x5 x6 x7) : exec cl N c11_28 (e189 x0 x1 x2 x3 x4 x5 x6 x7) K = (g11_28 S14 S38 S39 x0 x1 x2 x3 x4 x5 x6 x7 (fun y0 y1 y2 y3 y4 y5 y6 y7 => K .normal (e189 y0 y1 y2 y3 y4 y5 y6 y7)) (fun y0 y1 y2 y3 y4 y5 y6 y7 => K (.exit 0) (e189 y0 y1 y2 y3 y4 y5 y6 y7))) := by
  simp only [c11_28, exec_seq, seqK_normal, seqK_exit, seqK_ret, t11_11, c11_12, exec_out, exec_cond', hb11_2, Option.bind_some, brB_true, brB_false, exec_skip, exec_exit, kp11_4, t11_26 S14 S38 S39 h14 h38 h39, t11_27]
  rfl
def l11_29 {R : Type} (S14 : V19 → Option (Int)) (S38 : V26 → Int → V1 → Option V4) (S39 : Int → Int → Option (Int)) (k0 : V1 → V1 → V19 → V26 → V11 → V0 → Int → Int → Option R) : Nat → V1 → V1 → V19 → V26 → V11 → V0 → Int → Int → Option R
  | 0, _, _, _, _, _, _, _, _ => none
  | m + 1, x0, x1, x2, x3, x4, x5, x6, x7 => (g11_28 S14 S38 S39 x0 x1 x2 x3 x4 x5 x6 x7 (fun y0 y1 y2 y3 y4 y5 y6 y7 => l11_29 S14 S38 S39 k0 m y0 y1 y2 y3 y4 y5 y6 y7) k0)
theorem lt11_29 (S14) (S38) (S39) (h14 : (ctr14 S14).holds cl) (h38 : (ctr38 S38).holds cl) (h39 : (ctr39 S39).holds cl) : ∀ (m) (x0 x1 x2 x3 x4 x5 x6 x7), iter [1, 2, 3, 5, 14, 33, 34, 35] (fun env K => exec cl N c11_28 env K) K m (e189 x0 x1 x2 x3 x4 x5 x6 x7) = l11_29 S14 S38 S39 (fun y0 y1 y2 y3 y4 y5 y6 y7 => K (.exit 0) (e189 y0 y1 y2 y3 y4 y5 y6 y7)) m x0 x1 x2 x3 x4 x5 x6 x7 := by
  intro m
  induction m with
  | zero => intros; rfl
  | succ m ih =>
    intro x0 x1 x2 x3 x4 x5 x6 x7
    simp only [iter_succ, t11_28 S14 S38 S39 h14 h38 h39, loopK_normal, loopK_exit, loopK_ret, kp11_3, ih]
    rfl
theorem kp11_11 (x0 x1 x2 x3 x4 x5 x6 x7) : keep [14] (e189 x0 x1 x2 x3 x4 x5 x6 x7) = (e198 x4) := by kernel_rfl
def g11_29 (N : Nat) (S14 : V19 → Option (Int)) (S38 : V26 → Int → V1 → Option V4) (S39 : Int → Int → Option (Int)) (x0 x1 : V1) (x2 : V19) (x3 : V26) (x4 : V11) (x5 : V0) (x6 x7 : Int) (k0 : V11 → Option R) : Option R :=
l11_29 S14 S38 S39 (fun y0 y1 y2 y3 y4 y5 y6 y7 => k0 y4) N x0 x1 x2 x3 x4 x5 x6 x7
theorem t11_29 (S14) (S38) (S39) (h14 : (ctr14 S14).holds cl) (h38 : (ctr38 S38).holds cl) (h39 : (ctr39 S39).holds cl) (x0 x1 x2 x3 x4 x5 x6 x7) : exec cl N c11_29 (e189 x0 x1 x2 x3 x4 x5 x6 x7) K = (g11_29 N S14 S38 S39 x0 x1 x2 x3 x4 x5 x6 x7 (fun y0 => K (.exit 0) (e198 y0))) := by
  simp only [c11_29, exec_out, exec_loop, kp11_3, lt11_29 S14 S38 S39 h14 h38 h39, kp11_11]
  rfl
theorem kp11_12 (x0) : keep [14] (e198 x0) = (e198 x0) := by kernel_rfl
def g11_31 (x0 : V11) (k0 : Int → V11 → Option R) : Option R :=
k0 (0 : Int) x0
theorem t11_31 (x0) : exec cl N c11_31 (e198 x0) K = (g11_31 x0 (fun y0 y1 => K .normal (e199 y0 y1))) := by
  kernel_rfl
def g11_32 (N : Nat) (S14 : V19 → Option (Int)) (S35 : V26 → Option (Int)) (S36 : V19 → V19 → Option (Int)) (S37 : V19 → V19 → Option V3) (S38 : V26 → Int → V1 → Option V4) (S39 : Int → Int → Option (Int)) (x0 : V26) (x1 x2 : V1) (x3 x4 : V19) (k0 : V11 → Int → Option R) (k1 : Int → V11 → Option R) : Option R :=
(g11_0 x0 x1 x2 x3 x4 (fun y0 y1 y2 y3 y4 => (g11_1 S35 y0 y1 y2 y3 y4 (fun y0 y1 y2 y3 y4 y5 => (g11_2 y0 y1 y2 y3 y4 y5 (fun y0 y1 y2 y3 y4 y5 y6 => brB y6 (g11_3 y0 y1 y2 y3 y4 y5 y6 (fun y0 y1 => ((fun y0 y1 => (k0 y0 y1)) y0 y1))) ((fun y0 y1 y2 y3 y4 => (g11_5 S36 y0 y1 y2 y3 y4 (fun y0 y1 y2 y3 y4 y5 => (g11_6 y0 y1 y2 y3 y4 y5 (fun y0 y1 y2 y3 y4 y5 y6 => brB y6 (g11_7 y0 y1 y2 y3 y4 y5 y6 (fun y0 y1 => ((fun y0 y1 => (k0 y0 y1)) y0 y1))) ((fun y0 y1 y2 y3 y4 => (g11_9 y0 y1 y2 y3 y4 (fun y0 y1 y2 y3 y4 y5 => (g11_10 S37 y0 y1 y2 y3 y4 y5 (fun y0 y1 y2 y3 y4 y5 y6 y7 => (g11_29 N S14 S38 S39 y0 y1 y2 y3 y4 y5 y6 y7 (fun y0 => ((fun y0 => (g11_31 y0 (fun y0 y1 => (k1 y0 y1)))) y0)))))))) y0 y1 y2 y3 y4)))))) y0 y1 y2 y3 y4)))))))
theorem t11_32 (S14) (S35) (S36) (S37) (S38) (S39) (h14 : (ctr14 S14).holds cl) (h35 : (ctr35 S35).holds cl) (h36 : (ctr36 S36).holds cl) (h37 : (ctr37 S37).holds cl) (h38 : (ctr38 S38).holds cl) (h39 : (ctr39 S39).holds cl) (x0 x1 x2 x3 x4) : exec cl N c11_32 (e179 x0 x1 x2 x3 x4) K = (g11_32 N S14 S35 S36 S37 S38 S39 x0 x1 x2 x3 x4 (fun y0 y1 => K .ret (e184 y0 y1)) (fun y0 y1 => K .ret (e199 y0 y1))) := by
  simp only [c11_32, exec_seq, seqK_normal, seqK_exit, seqK_ret, t11_0, t11_1 S35 h35, t11_2, c11_4, exec_out, exec_cond', hb11_0, Option.bind_some, brB_true, brB_false, t11_3, exec_ret, exec_skip, kp11_0, kp11_1, t11_5 S36 h36, t11_6, c11_8, hb11_1, t11_7, kp11_2, t11_9, t11_10 S37 h37, c11_30, exec_block, t11_29 S14 S38 S39 h14 h38 h39, blockK_normal, blockK_ret, blockK_eq, kp11_12, t11_31]
  rfl
theorem rk11_0 (y0 y1) : retK d11 .ret (e184 y0 y1) = some [.own true 39 U16 .no y0, .v U2 y1] := by kernel_rfl
theorem rk11_1 (y0 y1) : retK d11 .ret (e199 y0 y1) = some [.own true 39 U16 .no y1, .v U2 y0] := by kernel_rfl
def g11 (N : Nat) (S14 : V19 → Option (Int)) (S35 : V26 → Option (Int)) (S36 : V19 → V19 → Option (Int)) (S37 : V19 → V19 → Option V3) (S38 : V26 → Int → V1 → Option V4) (S39 : Int → Int → Option (Int)) (x0 : V26) (x1 x2 : V1) (x3 x4 : V19) (k : V11 → Int → Option R) : Option R :=
(g11_32 N S14 S35 S36 S37 S38 S39 x0 x1 x2 x3 x4 (fun y0 y1 => k y0 y1) (fun y0 y1 => k y1 y0))
theorem gen11 {N : Nat} {cl : Cal} (S14 : V19 → Option (Int)) (S35 : V26 → Option (Int)) (S36 : V19 → V19 → Option (Int)) (S37 : V19 → V19 → Option V3) (S38 : V26 → Int → V1 → Option V4) (S39 : Int → Int → Option (Int)) (h14 : (ctr14 S14).holds cl) (h35 : (ctr35 S35).holds cl) (h36 : (ctr36 S36).holds cl) (h37 : (ctr37 S37).holds cl) (h38 : (ctr38 S38).holds cl) (h39 : (ctr39 S39).holds cl) (x0 : V26) (x1 : V1) (x2 : V1) (x3 : V19) (x4 : V19) {R : Type} (k : List E → Option R) : exec cl N c11 (params 0 [.v U28 x0, .v .str x1, .v .str x2, .v U22 x3, .v U22 x4]) (fun e env => (retK d11 e env).bind k) = g11 N S14 S35 S36 S37 S38 S39 x0 x1 x2 x3 x4 (fun (r0 : V11) (r1 : Int) => k [.own true 39 U16 .no r0, .v U2 r1]) := by
  have e0 : params 0 [.v U28 x0, .v .str x1, .v .str x2, .v U22 x3, .v U22 x4] = (e179 x0 x1 x2 x3 x4) := by kernel_rfl
  simp only [c11, e0, t11_32 S14 S35 S36 S37 S38 S39 h14 h35 h36 h37 h38 h39, rk11_0, rk11_1, Option.bind_some]
  rfl
def ctr11 (S : V26 → V1 → V1 → V19 → V19 → Option V15) : Ctr := { A := V26 × V1 × V1 × V19 × V19 × Unit, B := V11 × Int, f := 11, enc := fun a => [.v U28 a.1, .v .str a.2.1, .v .str a.2.2.1, .v U22 a.2.2.2.1, .v U22 a.2.2.2.2.1], dec := (decC (decV U28) (decC (decV .str) (decC (decV .str) (decC (decV U22) (decC (decV U22) dec0))))), S := fun a => S a.1 a.2.1 a.2.2.1 a.2.2.2.1 a.2.2.2.2.1, ent := fun b => [.own true 39 U16 .no b.1, .v U2 b.2], ok := (decV_cons (T := U28) (decV_cons (T := .str) (decV_cons (T := .str) (decV_cons (T := U22) (decV_cons (T := U22) (fun es b h => dec0_some h)))))) }
def S11 (N : Nat) (x0 : V26) (x1 : V1) (x2 : V1) (x3 : V19) (x4 : V19) : Option V15 := g11 N (S14 N) (S35 N) (S36 N) (S37 N) (S38 N) (S39 N) x0 x1 x2 x3 x4 (fun (r0 : V11) (r1 : Int) => some (r0, r1))
def g21_0 (x0 x1 : V8) (k0 : V8 → V8 → Option R) : Option R :=
k0 x1 x0
theorem t21_0 (x0 x1) : exec cl N c21_0 [(0, .v U16 x0), (1, .at U16 x1)] K = (g21_0 x0 x1 (fun y0 y1 => K .normal [(1, .at U16 y0), (2, .loc U16 .no y1)])) := by
  kernel_rfl
def g21_1 (x0 x1 : V8) (k0 : Bool → Option R) : Option R :=
brB (x1.1 == x0.1) (k0 (decide (x1.2.1 ≤ x0.2.1))) (k0 false)
theorem t21_1 (x0 x1) : exec cl N c21_1 [(1, .at U16 x0), (2, .loc U16 .no x1)] K = (g21_1 x0 x1 (fun y0 => K .normal [(3, .v .bool y0)])) := by
  kernel_rfl
def g21_2 (x0 x1 : V8) (k0 : Bool → Option R) : Option R :=
(g21_0 x0 x1 (fun y0 y1 => (g21_1 y0 y1 (fun y0 => (k0 y0)))))
theorem t21_2 (x0 x1) : exec cl N c21_2 [(0, .v U16 x0), (1, .at U16 x1)] K = (g21_2 x0 x1 (fun y0 => K .ret [(3, .v .bool y0)])) := by
  simp only [c21_2, exec_seq, seqK_normal, seqK_exit, seqK_ret, t21_0, t21_1, exec_ret]
  rfl
theorem rk21_0 (y0) : retK d21 .ret [(3, .v .bool y0)] = some [.v .bool y0] := by kernel_rfl
def g21 (x0 x1 : V8) (k : Bool → Option R) : Option R :=
(g21_2 x0 x1 (fun y0 => k y0))
theorem gen21 {N : Nat} {cl : Cal} (x0 : V8) (x1 : V8) {R : Type} (k : List E → Option R) : exec cl N c21 (params 0 [.v U16 x0, .at U16 x1]) (fun e env => (retK d21 e env).bind k) = g21 x0 x1 (fun (r0 : Bool) => k [.v .bool r0]) := by
  have e0 : params 0 [.v U16 x0, .at U16 x1] = [(0, .v U16 x0), (1, .at U16 x1)] := by kernel_rfl
  simp only [c21, e0, t21_2, rk21_0, Option.bind_some]
  rfl
def ctr21 (S : V8 → V8 → Option (Bool)) : Ctr := { A := V8 × V8 × Unit, B := Bool, f := 21, enc := fun a => [.v U16 a.1, .at U16 a.2.1], dec := (decC (decV U16) (decC (decA U16) dec0)), S := fun a => S a.1 a.2.1, ent := fun b => [.v .bool b], ok := (decV_cons (T := U16) (decA_cons (T := U16) (fun es b h => dec0_some h))) }
def S21 (N : Nat) (x0 : V8) (x1 : V8) : Option (Bool) := g21 x0 x1 (fun (r0 : Bool) => some (r0))
def g46_0 (x0 : V11) (x1 : V21) (k0 : V11 → V21 → Option R) : Option R :=
k0 x0 x1
theorem t46_0 (x0 x1) : exec cl N c46_0 (e200 x0 x1) K = (g46_0 x0 x1 (fun y0 y1 => K .normal (e200 y0 y1))) := by
  kernel_rfl
def g46_1 (x0 : V11) (x1 : V21) (k0 : V11 → V21 → Int → Int → Option R) : Option R :=
k0 x0 x1 (x0.length : Int) (0 : Int)
theorem t46_1 (x0 x1) : exec cl N c46_1 (e200 x0 x1) K = (g46_1 x0 x1 (fun y0 y1 y2 y3 => K .normal (e201 y0 y1 y2 y3))) := by
  kernel_rfl
theorem kp46_0 (x0 x1 x2 x3) : keep [0, 1, 7, 8] (e201 x0 x1 x2 x3) = (e201 x0 x1 x2 x3) := by kernel_rfl
def g46_2 (x0 : V11) (x1 : V21) (x2 x3 : Int) (k0 : V11 → V21 → Int → Int → Bool → Option R) : Option R :=
k0 x0 x1 x2 x3 (decide (x3 < x2))
theorem t46_2 (x0 x1 x2 x3) : exec cl N c46_2 (e201 x0 x1 x2 x3) K = (g46_2 x0 x1 x2 x3 (fun y0 y1 y2 y3 y4 => K .normal (e202 y0 y1 y2 y3 y4))) := by
  kernel_rfl
theorem kp46_1 (x0 x1 x2 x3 x4) : keep [0, 1, 7, 8] (e202 x0 x1 x2 x3 x4) = (e201 x0 x1 x2 x3) := by kernel_rfl
theorem hb46_0 (x0 x1 x2 x3 x4) : boolOf? (ent (e202 x0 x1 x2 x3 x4) (.t 9)) = some x4 := by kernel_rfl
def g46_4 (x0 : V11) (x1 : V21) (x2 x3 : Int) (k0 : V11 → V21 → Int → Int → Int → Option R) : Option R :=
k0 x0 x1 x3 x2 x3
theorem t46_4 (x0 x1 x2 x3) : exec cl N c46_4 (e201 x0 x1 x2 x3) K = (g46_4 x0 x1 x2 x3 (fun y0 y1 y2 y3 y4 => K .normal [(0, .v U17 y0), (1, .v U24 y1), (5, .v U2 y2), (7, .v U2 y3), (8, .v U2 y4)])) := by
  kernel_rfl
def g46_5 (x0 : V11) (x1 : V21) (x2 x3 x4 : Int) (k0 : V11 → V21 → Int → Int → Int → Bool → Option R) : Option R :=
if 0 ≤ x2 ∧ x2 < (x0.length : Int) then
(x1 ((x0.getD x2.toNat ((0 : Int), ((0 : Int), ()))), ())).bind fun r639 =>
k0 x0 x1 x2 x3 x4 r639
else none
theorem t46_5 (x0 x1 x2 x3 x4) : exec cl N c46_5 [(0, .v U17 x0), (1, .v U24 x1), (5, .v U2 x2), (7, .v U2 x3), (8, .v U2 x4)] K = (g46_5 x0 x1 x2 x3 x4 (fun y0 y1 y2 y3 y4 y5 => K .normal (e203 y0 y1 y2 y3 y4 y5))) := by
  kernel_rfl
def g46_6 (x0 : V11) (x1 : V21) (x2 x3 x4 : Int) (x5 : Bool) (k0 : Int → Option R) : Option R :=
k0 x2
theorem t46_6 (x0 x1 x2 x3 x4 x5) : exec cl N c46_6 (e203 x0 x1 x2 x3 x4 x5) K = (g46_6 x0 x1 x2 x3 x4 x5 (fun y0 => K .normal [(4, .v U2 y0)])) := by
  kernel_rfl
theorem kp46_2 (x0) : keep [0, 1, 4, 7, 8] [(4, .v U2 x0)] = (e75 x0) := by kernel_rfl
theorem kp46_3 (x0 x1 x2 x3 x4 x5) : keep [0, 1, 4, 7, 8] (e203 x0 x1 x2 x3 x4 x5) = (e204 x0 x1 x3 x4) := by kernel_rfl
theorem hb46_1 (x0 x1 x2 x3 x4 x5) : boolOf? (ent (e203 x0 x1 x2 x3 x4 x5) (.t 16)) = some x5 := by kernel_rfl
theorem kp46_4 (x0) : keep [0, 1, 4, 7, 8] (e75 x0) = (e75 x0) := by kernel_rfl
theorem kp46_5 (x0 x1 x2 x3) : keep [0, 1, 4, 7, 8] (e204 x0 x1 x2 x3) = (e204 x0 x1 x2 x3) := by kernel_rfl
def g46_9 (x0 : V11) (x1 : V21) (x2 x3 : Int) (k0 : V11 → V21 → Int → Int → Option R) : Option R :=
k0 x0 x1 x2 (IntKind.i64.wrap (x3 + (1 : Int)))
theorem t46_9 (x0 x1 x2 x3) : exec cl N c46_9 (e204 x0 x1 x2 x3) K = (g46_9 x0 x1 x2 x3 (fun y0 y1 y2 y3 => K .normal (e201 y0 y1 y2 y3))) := by
  kernel_rfl
def g46_10 (x0 : V11) (x1 : V21) (x2 x3 : Int) (k0 : Int → Option R) (k1 : V11 → V21 → Int → Int → Option R) (k2 : V11 → V21 → Int → Int → Option R) : Option R :=
(g46_2 x0 x1 x2 x3 (fun y0 y1 y2 y3 y4 => brB y4 ((fun y0 y1 y2 y3 => (g46_4 y0 y1 y2 y3 (fun y0 y1 y2 y3 y4 => (g46_5 y0 y1 y2 y3 y4 (fun y0 y1 y2 y3 y4 y5 => brB y5 (g46_6 y0 y1 y2 y3 y4 y5 (fun y0 => ((fun y0 => (k0 y0)) y0))) (g46_9 y0 y1 y3 y4 k1)))))) y0 y1 y2 y3) (k2 y0 y1 y2 y3)))
theorem t46_10 (x0 x1 x2 x3) : exec cl N c46_10 (e201 x0 x1 x2 x3) K = (g46_10 x0 x1 x2 x3 (fun y0 => K .ret (e75 y0)) (fun y0 y1 y2 y3 => K .normal (e201 y0 y1 y2 y3)) (fun y0 y1 y2 y3 => K (.exit 0) (e201 y0 y1 y2 y3))) := by
  simp only [c46_10, exec_seq, seqK_normal, seqK_exit, seqK_ret, t46_2, c46_3, exec_out, exec_cond', hb46_0, Option.bind_some, brB_true, brB_false, exec_skip, exec_exit, kp46_1, c46_8, exec_block, t46_4, t46_5, c46_7, hb46_1, t46_6, exec_ret, kp46_2, kp46_3, blockK_normal, blockK_ret, blockK_eq, kp46_4, kp46_5, t46_9]
  rfl
def l46_11 {R : Type} (k0 : Int → Option R) (k1 : V11 → V21 → Int → Int → Option R) : Nat → V11 → V21 → Int → Int → Option R
  | 0, _, _, _, _ => none
  | m + 1, x0, x1, x2, x3 => (g46_10 x0 x1 x2 x3 k0 (fun y0 y1 y2 y3 => l46_11 k0 k1 m y0 y1 y2 y3) k1)
theorem lt46_11 : ∀ (m) (x0 x1 x2 x3), iter [0, 1, 7, 8] (fun env K => exec cl N c46_10 env K) K m (e201 x0 x1 x2 x3) = l46_11 (fun y0 => K .ret (e75 y0)) (fun y0 y1 y2 y3 => K (.exit 0) (e201 y0 y1 y2 y3)) m x0 x1 x2 x3 := by
  intro m
  induction m with
  | zero => intros; rfl
  | succ m ih =>
    intro x0 x1 x2 x3
    simp only [iter_succ, t46_10, loopK_normal, loopK_exit, loopK_ret, kp46_0, ih]
    rfl
theorem kp46_6 (x0) : keep [4] (e75 x0) = [(4, .v U2 x0)] := by kernel_rfl
theorem kp46_7 (x0 x1 x2 x3) : keep [4] (e201 x0 x1 x2 x3) = [(4, .dead)] := by kernel_rfl
def g46_11 (N : Nat) (x0 : V11) (x1 : V21) (x2 x3 : Int) (k0 : Int → Option R) (k1 : Option R) : Option R :=
l46_11 (fun y0 => k0 y0) (fun y0 y1 y2 y3 => k1) N x0 x1 x2 x3
theorem t46_11 (x0 x1 x2 x3) : exec cl N c46_11 (e201 x0 x1 x2 x3) K = (g46_11 N x0 x1 x2 x3 (fun y0 => K .ret [(4, .v U2 y0)]) (K (.exit 0) [(4, .dead)])) := by
  simp only [c46_11, exec_out, exec_loop, kp46_0, lt46_11, kp46_6, kp46_7]
  rfl
theorem kp46_8 (x0) : keep [4] [(4, .v U2 x0)] = [(4, .v U2 x0)] := by kernel_rfl
theorem kp46_9 : keep [4] [(4, .dead)] = [(4, .dead)] := by kernel_rfl
def g46_13 (k0 : Int → Option R) : Option R :=
k0 (-1 : Int)
theorem t46_13 : exec cl N c46_13 [(4, .dead)] K = (g46_13 (fun y0 => K .normal [(4, .v U2 y0)])) := by
  kernel_rfl
def g46_14 (N : Nat) (x0 : V11) (x1 : V21) (k0 : Int → Option R) : Option R :=
(g46_0 x0 x1 (fun y0 y1 => (g46_1 y0 y1 (fun y0 y1 y2 y3 => (g46_11 N y0 y1 y2 y3 (fun y0 => (k0 y0)) (g46_13 (fun y0 => (k0 y0))))))))
theorem t46_14 (x0 x1) : exec cl N c46_14 (e200 x0 x1) K = (g46_14 N x0 x1 (fun y0 => K .ret [(4, .v U2 y0)])) := by
  simp only [c46_14, exec_seq, seqK_normal, seqK_exit, seqK_ret, t46_0, t46_1, c46_12, exec_out, exec_block, t46_11, blockK_normal, blockK_ret, blockK_eq, kp46_8, kp46_9, t46_13, exec_ret]
  rfl
theorem rk46_0 (y0) : retK d46 .ret [(4, .v U2 y0)] = some [.v U2 y0] := by kernel_rfl
def g46 (N : Nat) (x0 : V11) (x1 : V21) (k : Int → Option R) : Option R :=
(g46_14 N x0 x1 (fun y0 => k y0))
theorem gen46 {N : Nat} {cl : Cal} (x0 : V11) (x1 : V21) {R : Type} (k : List E → Option R) : exec cl N c46 (params 0 [.v U17 x0, .v U24 x1]) (fun e env => (retK d46 e env).bind k) = g46 N x0 x1 (fun (r0 : Int) => k [.v U2 r0]) := by
  have e0 : params 0 [.v U17 x0, .v U24 x1] = (e200 x0 x1) := by kernel_rfl
  simp only [c46, e0, t46_14, rk46_0, Option.bind_some]
  rfl
def ctr46 (S : V11 → V21 → Option (Int)) : Ctr := { A := V11 × V21 × Unit, B := Int, f := 46, enc := fun a => [.v U17 a.1, .v U24 a.2.1], dec := (decC (decV U17) (decC (decV U24) dec0)), S := fun a => S a.1 a.2.1, ent := fun b => [.v U2 b], ok := (decV_cons (T := U17) (decV_cons (T := U24) (fun es b h => dec0_some h))) }
def S46 (N : Nat) (x0 : V11) (x1 : V21) : Option (Int) := g46 N x0 x1 (fun (r0 : Int) => some (r0))
def g19_0 (x0 : V11) (x1 : V21) (k0 : V11 → V21 → Option R) : Option R :=
k0 x0 x1
theorem t19_0 (x0 x1) : exec cl N c19_0 (e200 x0 x1) K = (g19_0 x0 x1 (fun y0 y1 => K .normal (e200 y0 y1))) := by
  kernel_rfl
def g19_1 (S46 : V11 → V21 → Option (Int)) (x0 : V11) (x1 : V21) (k0 : Bool → Option R) : Option R :=
(S46 x0 x1).bind fun r643 =>
k0 (decide (r643 ≥ (0 : Int)))
theorem t19_1 (S46) (h46 : (ctr46 S46).holds cl) (x0 x1) : exec cl N c19_1 (e200 x0 x1) K = (g19_1 S46 x0 x1 (fun y0 => K .normal [(4, .v .bool y0)])) := by
  rw [← put_eq h46]
  kernel_rfl
def g19_2 (S46 : V11 → V21 → Option (Int)) (x0 : V11) (x1 : V21) (k0 : Bool → Option R) : Option R :=
(g19_0 x0 x1 (fun y0 y1 => (g19_1 S46 y0 y1 (fun y0 => (k0 y0)))))
theorem t19_2 (S46) (h46 : (ctr46 S46).holds cl) (x0 x1) : exec cl N c19_2 (e200 x0 x1) K = (g19_2 S46 x0 x1 (fun y0 => K .ret [(4, .v .bool y0)])) := by
  simp only [c19_2, exec_seq, seqK_normal, seqK_exit, seqK_ret, t19_0, t19_1 S46 h46, exec_ret]
  rfl
theorem rk19_0 (y0) : retK d19 .ret [(4, .v .bool y0)] = some [.v .bool y0] := by kernel_rfl
def g19 (S46 : V11 → V21 → Option (Int)) (x0 : V11) (x1 : V21) (k : Bool → Option R) : Option R :=
(g19_2 S46 x0 x1 (fun y0 => k y0))
theorem gen19 {N : Nat} {cl : Cal} (S46 : V11 → V21 → Option (Int)) (h46 : (ctr46 S46).holds cl) (x0 : V11) (x1 : V21) {R : Type} (k : List E → Option R) : exec cl N c19 (params 0 [.v U17 x0, .v U24 x1]) (fun e env => (retK d19 e env).bind k) = g19 S46 x0 x1 (fun (r0 : Bool) => k [.v .bool r0]) := by
  have e0 : params 0 [.v U17 x0, .v U24 x1] = (e200 x0 x1) := by kernel_rfl
  simp only [c19, e0, t19_2 S46 h46, rk19_0, Option.bind_some]
  rfl
def ctr19 (S : V11 → V21 → Option (Bool)) : Ctr := { A := V11 × V21 × Unit, B := Bool, f := 19, enc := fun a => [.v U17 a.1, .v U24 a.2.1], dec := (decC (decV U17) (decC (decV U24) dec0)), S := fun a => S a.1 a.2.1, ent := fun b => [.v .bool b], ok := (decV_cons (T := U17) (decV_cons (T := U24) (fun es b h => dec0_some h))) }
def S19 (N : Nat) (x0 : V11) (x1 : V21) : Option (Bool) := g19 (S46 N) x0 x1 (fun (r0 : Bool) => some (r0))
def g20_0 (x0 : V8) (x1 : V11) (k0 : V11 → V8 → Option R) : Option R :=
k0 x1 x0
theorem t20_0 (x0 x1) : exec cl N c20_0 [(0, .v U16 x0), (1, .at U17 x1)] K = (g20_0 x0 x1 (fun y0 y1 => K .normal [(1, .at U17 y0), (2, .loc U16 .no y1)])) := by
  kernel_rfl
def g20_1 (S19 : V11 → V21 → Option (Bool)) (S21 : V8 → V8 → Option (Bool)) (x0 : V11) (x1 : V8) (k0 : Bool → Option R) : Option R :=
(S19 x0 (fun (x646 : (V8 × Unit)) => ((S21 x646.1 x1).bind fun b647 => some [.v .bool b647]).bind (unE .bool))).bind fun r648 =>
k0 (!r648)
theorem t20_1 (S19) (S21) (h19 : (ctr19 S19).holds cl) (h21 : (ctr21 S21).holds cl) (x0 x1) : exec cl N c20_1 [(1, .at U17 x0), (2, .loc U16 .no x1)] K = (g20_1 S19 S21 x0 x1 (fun y0 => K .normal [(3, .v .bool y0)])) := by
  rw [← put_eq h19]
  rw [← put_eq h21]
  kernel_rfl
def g20_2 (S19 : V11 → V21 → Option (Bool)) (S21 : V8 → V8 → Option (Bool)) (x0 : V8) (x1 : V11) (k0 : Bool → Option R) : Option R :=
(g20_0 x0 x1 (fun y0 y1 => (g20_1 S19 S21 y0 y1 (fun y0 => (k0 y0)))))
theorem t20_2 (S19) (S21) (h19 : (ctr19 S19).holds cl) (h21 : (ctr21 S21).holds cl) (x0 x1) : exec cl N c20_2 [(0, .v U16 x0), (1, .at U17 x1)] K = (g20_2 S19 S21 x0 x1 (fun y0 => K .ret [(3, .v .bool y0)])) := by
  simp only [c20_2, exec_seq, seqK_normal, seqK_exit, seqK_ret, t20_0, t20_1 S19 S21 h19 h21, exec_ret]
  rfl
theorem rk20_0 (y0) : retK d20 .ret [(3, .v .bool y0)] = some [.v .bool y0] := by kernel_rfl
def g20 (S19 : V11 → V21 → Option (Bool)) (S21 : V8 → V8 → Option (Bool)) (x0 : V8) (x1 : V11) (k : Bool → Option R) : Option R :=
(g20_2 S19 S21 x0 x1 (fun y0 => k y0))
theorem gen20 {N : Nat} {cl : Cal} (S19 : V11 → V21 → Option (Bool)) (S21 : V8 → V8 → Option (Bool)) (h19 : (ctr19 S19).holds cl) (h21 : (ctr21 S21).holds cl) (x0 : V8) (x1 : V11) {R : Type} (k : List E → Option R) : exec cl N c20 (params 0 [.v U16 x0, .at U17 x1]) (fun e env => (retK d20 e env).bind k) = g20 S19 S21 x0 x1 (fun (r0 : Bool) => k [.v .bool r0]) := by
  have e0 : params 0 [.v U16 x0, .at U17 x1] = [(0, .v U16 x0), (1, .at U17 x1)] := by kernel_rfl
  simp only [c20, e0, t20_2 S19 S21 h19 h21, rk20_0, Option.bind_some]
  rfl
def ctr20 (S : V8 → V11 → Option (Bool)) : Ctr := { A := V8 × V11 × Unit, B := Bool, f := 20, enc := fun a => [.v U16 a.1, .at U17 a.2.1], dec := (decC (decV U16) (decC (decA U17) dec0)), S := fun a => S a.1 a.2.1, ent := fun b => [.v .bool b], ok := (decV_cons (T := U16) (decA_cons (T := U17) (fun es b h => dec0_some h))) }
def S20 (N : Nat) (x0 : V8) (x1 : V11) : Option (Bool) := g20 (S19 N) (S21 N) x0 x1 (fun (r0 : Bool) => some (r0))
def g5_0 (x0 x1 : V26) (x2 : V6) (k0 : V26 → V26 → V6 → Option R) : Option R :=
k0 x0 x1 x2
theorem t5_0 (x0 x1 x2) : exec cl N c5_0 (e205 x0 x1 x2) K = (g5_0 x0 x1 x2 (fun y0 y1 y2 => K .normal [(3, .loc U28 .no y0), (4, .loc U28 .no y1), (5, .loc U10 .no y2)])) := by
  kernel_rfl
def g5_1 (S8 : Option (Bool)) (S9 : V26 → Option (Bool)) (x0 x1 : V26) (x2 : V6) (k0 : V26 → V26 → V6 → Bool → Option R) : Option R :=
(S8).bind fun r652 =>
brB (!r652) (k0 x0 x1 x2 true) ((S9 x0).bind fun r653 =>
brB (!r653) (k0 x0 x1 x2 true) ((S9 x1).bind fun r654 =>
brB (!r654) (k0 x0 x1 x2 true) (if 0 ≤ (0 : Int) ∧ (0 : Int) < ((2 : Nat) : Int) then
(getP U10 [.ix (0 : Int).toNat] x2).bind fun z => (cast? U4 z).bind fun v655 =>
brB (decide ((v655.length : Int) > (60 : Int))) (k0 x0 x1 x2 true) (if 0 ≤ (1 : Int) ∧ (1 : Int) < ((2 : Nat) : Int) then
(getP U10 [.ix (1 : Int).toNat] x2).bind fun z => (cast? U4 z).bind fun v657 =>
k0 x0 x1 x2 (decide ((v657.length : Int) > (60 : Int)))
else none)
else none)))
theorem t5_1 (S8) (S9) (h8 : (ctr8 S8).holds cl) (h9 : (ctr9 S9).holds cl) (x0 x1 x2) : exec cl N c5_1 [(3, .loc U28 .no x0), (4, .loc U28 .no x1), (5, .loc U10 .no x2)] K = (g5_1 S8 S9 x0 x1 x2 (fun y0 y1 y2 y3 => K .normal (e206 y0 y1 y2 y3))) := by
  rw [← put_eq h8]
  rw [← put_eq h9]
  kernel_rfl
def g5_2 (S8 : Option (Bool)) (x0 x1 : V26) (x2 : V6) (x3 : Bool) (k0 : Bool → Option R) : Option R :=
(S8).bind fun r659 =>
k0 r659
theorem t5_2 (S8) (h8 : (ctr8 S8).holds cl) (x0 x1 x2 x3) : exec cl N c5_2 (e206 x0 x1 x2 x3) K = (g5_2 S8 x0 x1 x2 x3 (fun y0 => K .normal [(6, .v .bool y0)])) := by
  rw [← put_eq h8]
  kernel_rfl
theorem kp5_0 (x0) : keep [3, 4, 5, 6] [(6, .v .bool x0)] = (e207 x0) := by kernel_rfl
theorem kp5_1 (x0 x1 x2 x3) : keep [3, 4, 5, 6] (e206 x0 x1 x2 x3) = (e208 x0 x1 x2) := by kernel_rfl
theorem hb5_0 (x0 x1 x2 x3) : boolOf? (ent (e206 x0 x1 x2 x3) (.t 38)) = some x3 := by kernel_rfl
def g5_4 (S10 : V0 → Option V22) (x0 x1 : V26) (x2 : V6) (k0 : V26 → V26 → V19 → V19 → Option R) : Option R :=
if 0 ≤ (0 : Int) ∧ (0 : Int) < ((2 : Nat) : Int) then
((getP U10 [.ix (0 : Int).toNat] x2).bind fun z => cast? U4 z).bind fun v660 =>
(S10 v660).bind fun r661 =>
if 0 ≤ (1 : Int) ∧ (1 : Int) < ((2 : Nat) : Int) then
((getP U10 [.ix (1 : Int).toNat] x2).bind fun z => cast? U4 z).bind fun v662 =>
(S10 v662).bind fun r663 =>
k0 x0 x1 r661 r663
else none
else none
theorem t5_4 (S10) (h10 : (ctr10 S10).holds cl) (x0 x1 x2) : exec cl N c5_4 (e208 x0 x1 x2) K = (g5_4 S10 x0 x1 x2 (fun y0 y1 y2 y3 => K .normal (e209 y0 y1 y2 y3))) := by
  rw [← put_eq h10]
  kernel_rfl
def g5_5 (S18 : V26 → V26 → Option V27) (x0 x1 : V26) (x2 x3 : V19) (k0 : V26 → V19 → V19 → V26 → Int → Option R) : Option R :=
(S18 x0 x1).bind fun r664 =>
k0 x0 x2 x3 r664.1 r664.2
theorem t5_5 (S18) (h18 : (ctr18 S18).holds cl) (x0 x1 x2 x3) : exec cl N c5_5 (e209 x0 x1 x2 x3) K = (g5_5 S18 x0 x1 x2 x3 (fun y0 y1 y2 y3 y4 => K .normal (e210 y0 y1 y2 y3 y4))) := by
  rw [← put_eq h18]
  kernel_rfl
def g5_6 (x0 : V26) (x1 x2 : V19) (x3 : V26) (x4 : Int) (k0 : V26 → V19 → V19 → V26 → Bool → Option R) : Option R :=
k0 x0 x1 x2 x3 (x4 != (0 : Int))
theorem t5_6 (x0 x1 x2 x3 x4) : exec cl N c5_6 (e210 x0 x1 x2 x3 x4) K = (g5_6 x0 x1 x2 x3 x4 (fun y0 y1 y2 y3 y4 => K .normal (e211 y0 y1 y2 y3 y4))) := by
  kernel_rfl
def g5_7 (x0 : V26) (x1 x2 : V19) (x3 : V26) (x4 : Bool) (k0 : Bool → Option R) : Option R :=
k0 true
theorem t5_7 (x0 x1 x2 x3 x4) : exec cl N c5_7 (e211 x0 x1 x2 x3 x4) K = (g5_7 x0 x1 x2 x3 x4 (fun y0 => K .normal [(6, .v .bool y0)])) := by
  kernel_rfl
theorem kp5_2 (x0) : keep [3, 6, 7, 8, 9] [(6, .v .bool x0)] = (e212 x0) := by kernel_rfl
theorem kp5_3 (x0 x1 x2 x3 x4) : keep [3, 6, 7, 8, 9] (e211 x0 x1 x2 x3 x4) = (e213 x0 x1 x2 x3) := by kernel_rfl
theorem hb5_1 (x0 x1 x2 x3 x4) : boolOf? (ent (e211 x0 x1 x2 x3 x4) (.t 53)) = some x4 := by kernel_rfl
def g5_9 (S11 : V26 → V1 → V1 → V19 → V19 → Option V15) (x0 : V26) (x1 x2 : V19) (x3 : V26) (k0 : V19 → V19 → V26 → V11 → Int → Option R) : Option R :=
(S11 x0 ([105, 108, 108, 101] : List UInt8) ([101, 115, 116] : List UInt8) x1 x2).bind fun r666 =>
k0 x1 x2 x3 r666.1 r666.2
theorem t5_9 (S11) (h11 : (ctr11 S11).holds cl) (x0 x1 x2 x3) : exec cl N c5_9 (e213 x0 x1 x2 x3) K = (g5_9 S11 x0 x1 x2 x3 (fun y0 y1 y2 y3 y4 => K .normal (e214 y0 y1 y2 y3 y4))) := by
  rw [← put_eq h11]
  kernel_rfl
def g5_10 (S11 : V26 → V1 → V1 → V19 → V19 → Option V15) (x0 x1 : V19) (x2 : V26) (x3 : V11) (x4 : Int) (k0 : V11 → Int → V11 → Int → Option R) : Option R :=
(S11 x2 ([105, 108, 108, 101] : List UInt8) ([101, 115, 116] : List UInt8) x0 x1).bind fun r667 =>
k0 x3 x4 r667.1 r667.2
theorem t5_10 (S11) (h11 : (ctr11 S11).holds cl) (x0 x1 x2 x3 x4) : exec cl N c5_10 (e214 x0 x1 x2 x3 x4) K = (g5_10 S11 x0 x1 x2 x3 x4 (fun y0 y1 y2 y3 => K .normal (e215 y0 y1 y2 y3))) := by
  rw [← put_eq h11]
  kernel_rfl
def g5_11 (x0 : V11) (x1 : Int) (x2 : V11) (x3 : Int) (k0 : V11 → V11 → Bool → Option R) : Option R :=
brB (x1 != (0 : Int)) (k0 x0 x2 true) (k0 x0 x2 (x3 != (0 : Int)))
theorem t5_11 (x0 x1 x2 x3) : exec cl N c5_11 (e215 x0 x1 x2 x3) K = (g5_11 x0 x1 x2 x3 (fun y0 y1 y2 => K .normal (e216 y0 y1 y2))) := by
  kernel_rfl
def g5_12 (x0 x1 : V11) (x2 : Bool) (k0 : Bool → Option R) : Option R :=
k0 false
theorem t5_12 (x0 x1 x2) : exec cl N c5_12 (e216 x0 x1 x2) K = (g5_12 x0 x1 x2 (fun y0 => K .normal [(6, .v .bool y0)])) := by
  kernel_rfl
theorem kp5_4 (x0) : keep [6, 11, 13] [(6, .v .bool x0)] = (e217 x0) := by kernel_rfl
theorem kp5_5 (x0 x1 x2) : keep [6, 11, 13] (e216 x0 x1 x2) = (e218 x0 x1) := by kernel_rfl
theorem hb5_2 (x0 x1 x2) : boolOf? (ent (e216 x0 x1 x2) (.t 73)) = some x2 := by kernel_rfl
def g5_14 (S19 : V11 → V21 → Option (Bool)) (S20 : V8 → V11 → Option (Bool)) (x0 x1 : V11) (k0 : Bool → Option R) : Option R :=
(S19 x0 (fun (x670 : (V8 × Unit)) => ((S20 x670.1 x1).bind fun b671 => some [.v .bool b671]).bind (unE .bool))).bind fun r672 =>
k0 (!r672)
theorem t5_14 (S19) (S20) (h19 : (ctr19 S19).holds cl) (h20 : (ctr20 S20).holds cl) (x0 x1) : exec cl N c5_14 (e218 x0 x1) K = (g5_14 S19 S20 x0 x1 (fun y0 => K .normal [(6, .v .bool y0)])) := by
  rw [← put_eq h19]
  rw [← put_eq h20]
  kernel_rfl
def g5_15 (S8 : Option (Bool)) (S9 : V26 → Option (Bool)) (S10 : V0 → Option V22) (S11 : V26 → V1 → V1 → V19 → V19 → Option V15) (S18 : V26 → V26 → Option V27) (S19 : V11 → V21 → Option (Bool)) (S20 : V8 → V11 → Option (Bool)) (x0 x1 : V26) (x2 : V6) (k0 : Bool → Option R) (k1 : Bool → Option R) (k2 : Bool → Option R) (k3 : Bool → Option R) : Option R :=
(g5_0 x0 x1 x2 (fun y0 y1 y2 => (g5_1 S8 S9 y0 y1 y2 (fun y0 y1 y2 y3 => brB y3 (g5_2 S8 y0 y1 y2 y3 (fun y0 => ((fun y0 => (k0 y0)) y0))) ((fun y0 y1 y2 => (g5_4 S10 y0 y1 y2 (fun y0 y1 y2 y3 => (g5_5 S18 y0 y1 y2 y3 (fun y0 y1 y2 y3 y4 => (g5_6 y0 y1 y2 y3 y4 (fun y0 y1 y2 y3 y4 => brB y4 (g5_7 y0 y1 y2 y3 y4 (fun y0 => ((fun y0 => (k1 y0)) y0))) ((fun y0 y1 y2 y3 => (g5_9 S11 y0 y1 y2 y3 (fun y0 y1 y2 y3 y4 => (g5_10 S11 y0 y1 y2 y3 y4 (fun y0 y1 y2 y3 => (g5_11 y0 y1 y2 y3 (fun y0 y1 y2 => brB y2 (g5_12 y0 y1 y2 (fun y0 => ((fun y0 => (k2 y0)) y0))) ((fun y0 y1 => (g5_14 S19 S20 y0 y1 (fun y0 => (k3 y0)))) y0 y1)))))))) y0 y1 y2 y3)))))))) y0 y1 y2)))))
theorem t5_15 (S8) (S9) (S10) (S11) (S18) (S19) (S20) (h8 : (ctr8 S8).holds cl) (h9 : (ctr9 S9).holds cl) (h10 : (ctr10 S10).holds cl) (h11 : (ctr11 S11).holds cl) (h18 : (ctr18 S18).holds cl) (h19 : (ctr19 S19).holds cl) (h20 : (ctr20 S20).holds cl) (x0 x1 x2) : exec cl N c5_15 (e205 x0 x1 x2) K = (g5_15 S8 S9 S10 S11 S18 S19 S20 x0 x1 x2 (fun y0 => K .ret (e207 y0)) (fun y0 => K .ret (e212 y0)) (fun y0 => K .ret (e217 y0)) (fun y0 => K .ret [(6, .v .bool y0)])) := by
  simp only [c5_15, exec_seq, seqK_normal, seqK_exit, seqK_ret, t5_0, t5_1 S8 S9 h8 h9, c5_3, exec_out, exec_cond', hb5_0, Option.bind_some, brB_true, brB_false, t5_2 S8 h8, exec_ret, exec_skip, kp5_0, kp5_1, t5_4 S10 h10, t5_5 S18 h18, t5_6, c5_8, hb5_1, t5_7, kp5_2, kp5_3, t5_9 S11 h11, t5_10 S11 h11, t5_11, c5_13, hb5_2, t5_12, kp5_4, kp5_5, t5_14 S19 S20 h19 h20]
  rfl
theorem rk5_0 (y0) : retK d5 .ret (e207 y0) = some [.v .bool y0] := by kernel_rfl
theorem rk5_1 (y0) : retK d5 .ret (e212 y0) = some [.v .bool y0] := by kernel_rfl
theorem rk5_2 (y0) : retK d5 .ret (e217 y0) = some [.v .bool y0] := by kernel_rfl
theorem rk5_3 (y0) : retK d5 .ret [(6, .v .bool y0)] = some [.v .bool y0] := by kernel_rfl
def g5 (S8 : Option (Bool)) (S9 : V26 → Option (Bool)) (S10 : V0 → Option V22) (S11 : V26 → V1 → V1 → V19 → V19 → Option V15) (S18 : V26 → V26 → Option V27) (S19 : V11 → V21 → Option (Bool)) (S20 : V8 → V11 → Option (Bool)) (x0 x1 : V26) (x2 : V6) (k : Bool → Option R) : Option R :=
(g5_15 S8 S9 S10 S11 S18 S19 S20 x0 x1 x2 (fun y0 => k y0) (fun y0 => k y0) (fun y0 => k y0) (fun y0 => k y0))
theorem gen5 {N : Nat} {cl : Cal} (S8 : Option (Bool)) (S9 : V26 → Option (Bool)) (S10 : V0 → Option V22) (S11 : V26 → V1 → V1 → V19 → V19 → Option V15) (S18 : V26 → V26 → Option V27) (S19 : V11 → V21 → Option (Bool)) (S20 : V8 → V11 → Option (Bool)) (h8 : (ctr8 S8).holds cl) (h9 : (ctr9 S9).holds cl) (h10 : (ctr10 S10).holds cl) (h11 : (ctr11 S11).holds cl) (h18 : (ctr18 S18).holds cl) (h19 : (ctr19 S19).holds cl) (h20 : (ctr20 S20).holds cl) (x0 : V26) (x1 : V26) (x2 : V6) {R : Type} (k : List E → Option R) : exec cl N c5 (params 0 [.v U28 x0, .v U28 x1, .v U10 x2]) (fun e env => (retK d5 e env).bind k) = g5 S8 S9 S10 S11 S18 S19 S20 x0 x1 x2 (fun (r0 : Bool) => k [.v .bool r0]) := by
  have e0 : params 0 [.v U28 x0, .v U28 x1, .v U10 x2] = (e205 x0 x1 x2) := by kernel_rfl
  simp only [c5, e0, t5_15 S8 S9 S10 S11 S18 S19 S20 h8 h9 h10 h11 h18 h19 h20, rk5_0, rk5_1, rk5_2, rk5_3, Option.bind_some]
  rfl
def ctr5 (S : V26 → V26 → V6 → Option (Bool)) : Ctr := { A := V26 × V26 × V6 × Unit, B := Bool, f := 5, enc := fun a => [.v U28 a.1, .v U28 a.2.1, .v U10 a.2.2.1], dec := (decC (decV U28) (decC (decV U28) (decC (decV U10) dec0))), S := fun a => S a.1 a.2.1 a.2.2.1, ent := fun b => [.v .bool b], ok := (decV_cons (T := U28) (decV_cons (T := U28) (decV_cons (T := U10) (fun es b h => dec0_some h)))) }
def S5 (N : Nat) (x0 : V26) (x1 : V26) (x2 : V6) : Option (Bool) := g5 (S8 N) (S9 N) (S10 N) (S11 N) (S18 N) (S19 N) (S20 N) x0 x1 x2 (fun (r0 : Bool) => some (r0))
end Go.Fw.L19
