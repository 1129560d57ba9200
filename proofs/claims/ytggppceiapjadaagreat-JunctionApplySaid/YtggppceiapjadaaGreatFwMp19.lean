/- Printed by an own program for this claim: the machine's code of functions, or their typed forms with their equations; no conditions. -/
import Derived.Test.YtggppceiapjadaaGreatFwMp19a
import Derived.Test.YtggppceiapjadaaGreatFwB1
set_option linter.unusedVariables false
set_option linter.unusedSimpArgs false
namespace Go.Fw.L19
open Go Go.Fw
set_option maxRecDepth 100000
set_option linter.unusedVariables false
set_option linter.unusedSimpArgs false
variable {N : Nat} {cl : Cal} {R : Type} {K : KE R}
def g12_0 (x0 x1 : V7) (x2 : Int) (k0 : V7 → V7 → Int → Option R) : Option R :=
k0 x0 x1 x2
theorem t12_0 (x0 x1 x2) : exec cl N c12_0 (e58 x0 x1 x2) K = (g12_0 x0 x1 x2 (fun y0 y1 y2 => K .normal (e58 y0 y1 y2))) := by
  kernel_rfl
def g12_1 (S28 : V7 → V7 → Int → Option (Int)) (x0 x1 : V7) (x2 : Int) (k0 : V7 → V7 → Int → Int → Option R) : Option R :=
(S28 x0 x1 x2).bind fun r429 =>
k0 x0 x1 x2 r429
theorem t12_1 (S28) (h28 : (ctr28 S28).holds cl) (x0 x1 x2) : exec cl N c12_1 (e58 x0 x1 x2) K = (g12_1 S28 x0 x1 x2 (fun y0 y1 y2 y3 => K .normal [(0, .v U17 y0), (1, .v U17 y1), (2, .v U2 y2), (8, .v U2 y3)])) := by
  rw [← put_eq h28]
  kernel_rfl
def g12_2 (x0 x1 : V7) (x2 x3 : Int) (k0 : V7 → V7 → Int → Int → Bool → Option R) : Option R :=
k0 x0 x1 x2 x3 (x3 != (0 : Int))
theorem t12_2 (x0 x1 x2 x3) : exec cl N c12_2 [(0, .v U17 x0), (1, .v U17 x1), (2, .v U2 x2), (8, .v U2 x3)] K = (g12_2 x0 x1 x2 x3 (fun y0 y1 y2 y3 y4 => K .normal (e131 y0 y1 y2 y3 y4))) := by
  kernel_rfl
def g12_3 (x0 x1 : V7) (x2 x3 : Int) (x4 : Bool) (k0 : V7 → Int → Option R) : Option R :=
k0 [] x3
theorem t12_3 (x0 x1 x2 x3 x4) : exec cl N c12_3 (e131 x0 x1 x2 x3 x4) K = (g12_3 x0 x1 x2 x3 x4 (fun y0 y1 => K .normal [(6, .own true 30 U14 .no y0), (7, .v U2 y1)])) := by
  kernel_rfl
theorem kp12_0 (x0 x1) : keep [0, 1, 2, 6, 7] [(6, .own true 30 U14 .no x0), (7, .v U2 x1)] = (e132 x0 x1) := by kernel_rfl
theorem kp12_1 (x0 x1 x2 x3 x4) : keep [0, 1, 2, 6, 7] (e131 x0 x1 x2 x3 x4) = (e133 x0 x1 x2) := by kernel_rfl
theorem hb12_0 (x0 x1 x2 x3 x4) : boolOf? (ent (e131 x0 x1 x2 x3 x4) (.t 17)) = some x4 := by kernel_rfl
def g12_5 (S29 : V7 → V7 → Int → Option V12) (x0 x1 : V7) (x2 : Int) (k0 : V7 → Option R) : Option R :=
(S29 x0 x1 x2).bind fun r431 =>
k0 r431.2.2
theorem t12_5 (S29) (h29 : (ctr29 S29).holds cl) (x0 x1 x2) : exec cl N c12_5 (e133 x0 x1 x2) K = (g12_5 S29 x0 x1 x2 (fun y0 => K .normal [(11, .own true 30 U14 .no y0)])) := by
  rw [← put_eq h29]
  kernel_rfl
def g12_6 (x0 : V7) (k0 : Int → V7 → Option R) : Option R :=
k0 (0 : Int) x0
theorem t12_6 (x0) : exec cl N c12_6 [(11, .own true 30 U14 .no x0)] K = (g12_6 x0 (fun y0 y1 => K .normal (e134 y0 y1))) := by
  kernel_rfl
def g12_7 (S28 : V7 → V7 → Int → Option (Int)) (S29 : V7 → V7 → Int → Option V12) (x0 x1 : V7) (x2 : Int) (k0 : V7 → Int → Option R) (k1 : Int → V7 → Option R) : Option R :=
(g12_0 x0 x1 x2 (fun y0 y1 y2 => (g12_1 S28 y0 y1 y2 (fun y0 y1 y2 y3 => (g12_2 y0 y1 y2 y3 (fun y0 y1 y2 y3 y4 => brB y4 (g12_3 y0 y1 y2 y3 y4 (fun y0 y1 => ((fun y0 y1 => (k0 y0 y1)) y0 y1))) ((fun y0 y1 y2 => (g12_5 S29 y0 y1 y2 (fun y0 => (g12_6 y0 (fun y0 y1 => (k1 y0 y1)))))) y0 y1 y2)))))))
theorem t12_7 (S28) (S29) (h28 : (ctr28 S28).holds cl) (h29 : (ctr29 S29).holds cl) (x0 x1 x2) : exec cl N c12_7 (e58 x0 x1 x2) K = (g12_7 S28 S29 x0 x1 x2 (fun y0 y1 => K .ret (e132 y0 y1)) (fun y0 y1 => K .ret (e134 y0 y1))) := by
  simp only [c12_7, exec_seq, seqK_normal, seqK_exit, seqK_ret, t12_0, t12_1 S28 h28, t12_2, c12_4, exec_out, exec_cond', hb12_0, Option.bind_some, brB_true, brB_false, t12_3, exec_ret, exec_skip, kp12_0, kp12_1, t12_5 S29 h29, t12_6]
  rfl
theorem rk12_0 (y0 y1) : retK d12 .ret (e132 y0 y1) = some [.own true 30 U14 .no y0, .v U2 y1] := by kernel_rfl
theorem rk12_1 (y0 y1) : retK d12 .ret (e134 y0 y1) = some [.own true 30 U14 .no y1, .v U2 y0] := by kernel_rfl
def g12 (S28 : V7 → V7 → Int → Option (Int)) (S29 : V7 → V7 → Int → Option V12) (x0 x1 : V7) (x2 : Int) (k : V7 → Int → Option R) : Option R :=
(g12_7 S28 S29 x0 x1 x2 (fun y0 y1 => k y0 y1) (fun y0 y1 => k y1 y0))
theorem gen12 {N : Nat} {cl : Cal} (S28 : V7 → V7 → Int → Option (Int)) (S29 : V7 → V7 → Int → Option V12) (h28 : (ctr28 S28).holds cl) (h29 : (ctr29 S29).holds cl) (x0 : V7) (x1 : V7) (x2 : Int) {R : Type} (k : List E → Option R) : exec cl N c12 (params 0 [.v U17 x0, .v U17 x1, .v U2 x2]) (fun e env => (retK d12 e env).bind k) = g12 S28 S29 x0 x1 x2 (fun (r0 : V7) (r1 : Int) => k [.own true 30 U14 .no r0, .v U2 r1]) := by
  have e0 : params 0 [.v U17 x0, .v U17 x1, .v U2 x2] = (e58 x0 x1 x2) := by kernel_rfl
  simp only [c12, e0, t12_7 S28 S29 h28 h29, rk12_0, rk12_1, Option.bind_some]
  rfl
def ctr12 (S : V7 → V7 → Int → Option V9) : Ctr := { A := V7 × V7 × Int × Unit, B := V7 × Int, f := 12, enc := fun a => [.v U17 a.1, .v U17 a.2.1, .v U2 a.2.2.1], dec := (decC (decV U17) (decC (decV U17) (decC (decV U2) dec0))), S := fun a => S a.1 a.2.1 a.2.2.1, ent := fun b => [.own true 30 U14 .no b.1, .v U2 b.2], ok := (decV_cons (T := U17) (decV_cons (T := U17) (decV_cons (T := U2) (fun es b h => dec0_some h)))) }
def S12 (N : Nat) (x0 : V7) (x1 : V7) (x2 : Int) : Option V9 := g12 (S28 N) (S29 N) x0 x1 x2 (fun (r0 : V7) (r1 : Int) => some (r0, r1))
def g57_0 (x0 x1 : Int) (k0 : Int → Int → Option R) : Option R :=
k0 x0 x1
theorem t57_0 (x0 x1) : exec cl N c57_0 (e135 x0 x1) K = (g57_0 x0 x1 (fun y0 y1 => K .normal (e135 y0 y1))) := by
  kernel_rfl
def g57_1 (x0 x1 : Int) (k0 : Int → Int → Bool → Option R) : Option R :=
k0 x0 x1 (decide (x0 < x1))
theorem t57_1 (x0 x1) : exec cl N c57_1 (e135 x0 x1) K = (g57_1 x0 x1 (fun y0 y1 y2 => K .normal (e136 y0 y1 y2))) := by
  kernel_rfl
def g57_2 (x0 x1 : Int) (x2 : Bool) (k0 : Int → Option R) : Option R :=
k0 (-1 : Int)
theorem t57_2 (x0 x1 x2) : exec cl N c57_2 (e136 x0 x1 x2) K = (g57_2 x0 x1 x2 (fun y0 => K .normal [(4, .v U2 y0)])) := by
  kernel_rfl
theorem kp57_0 (x0) : keep [0, 1, 4] [(4, .v U2 x0)] = (e137 x0) := by kernel_rfl
theorem kp57_1 (x0 x1 x2) : keep [0, 1, 4] (e136 x0 x1 x2) = [(0, .v U2 x0), (1, .v U2 x1), (4, .dead)] := by kernel_rfl
theorem hb57_0 (x0 x1 x2) : boolOf? (ent (e136 x0 x1 x2) (.t 7)) = some x2 := by kernel_rfl
def g57_4 (x0 x1 : Int) (k0 : Bool → Option R) : Option R :=
k0 (decide (x0 > x1))
theorem t57_4 (x0 x1) : exec cl N c57_4 [(0, .v U2 x0), (1, .v U2 x1), (4, .dead)] K = (g57_4 x0 x1 (fun y0 => K .normal [(10, .v .bool y0)])) := by
  kernel_rfl
def g57_5 (x0 : Bool) (k0 : Int → Option R) : Option R :=
k0 (1 : Int)
theorem t57_5 (x0) : exec cl N c57_5 [(10, .v .bool x0)] K = (g57_5 x0 (fun y0 => K .normal [(4, .v U2 y0)])) := by
  kernel_rfl
theorem kp57_2 (x0) : keep [4] [(4, .v U2 x0)] = [(4, .v U2 x0)] := by kernel_rfl
theorem kp57_3 (x0) : keep [4] [(10, .v .bool x0)] = [(4, .dead)] := by kernel_rfl
theorem hb57_1 (x0) : boolOf? (ent [(10, .v .bool x0)] (.t 10)) = some x0 := by kernel_rfl
def g57_7 (k0 : Int → Option R) : Option R :=
k0 (0 : Int)
theorem t57_7 : exec cl N c57_7 [(4, .dead)] K = (g57_7 (fun y0 => K .normal [(4, .v U2 y0)])) := by
  kernel_rfl
def g57_8 (x0 x1 : Int) (k0 : Int → Option R) (k1 : Int → Option R) : Option R :=
(g57_0 x0 x1 (fun y0 y1 => (g57_1 y0 y1 (fun y0 y1 y2 => brB y2 (g57_2 y0 y1 y2 (fun y0 => ((fun y0 => (k0 y0)) y0))) ((fun y0 y1 => (g57_4 y0 y1 (fun y0 => brB y0 (g57_5 y0 (fun y0 => ((fun y0 => (k1 y0)) y0))) (g57_7 (fun y0 => (k1 y0)))))) y0 y1)))))
theorem t57_8 (x0 x1) : exec cl N c57_8 (e135 x0 x1) K = (g57_8 x0 x1 (fun y0 => K .ret (e137 y0)) (fun y0 => K .ret [(4, .v U2 y0)])) := by
  simp only [c57_8, exec_seq, seqK_normal, seqK_exit, seqK_ret, t57_0, t57_1, c57_3, exec_out, exec_cond', hb57_0, Option.bind_some, brB_true, brB_false, t57_2, exec_ret, exec_skip, kp57_0, kp57_1, t57_4, c57_6, hb57_1, t57_5, kp57_2, kp57_3, t57_7]
  rfl
theorem rk57_0 (y0) : retK d57 .ret (e137 y0) = some [.v U2 y0] := by kernel_rfl
theorem rk57_1 (y0) : retK d57 .ret [(4, .v U2 y0)] = some [.v U2 y0] := by kernel_rfl
def g57 (x0 x1 : Int) (k : Int → Option R) : Option R :=
(g57_8 x0 x1 (fun y0 => k y0) (fun y0 => k y0))
theorem gen57 {N : Nat} {cl : Cal} (x0 : Int) (x1 : Int) {R : Type} (k : List E → Option R) : exec cl N c57 (params 0 [.v U2 x0, .v U2 x1]) (fun e env => (retK d57 e env).bind k) = g57 x0 x1 (fun (r0 : Int) => k [.v U2 r0]) := by
  have e0 : params 0 [.v U2 x0, .v U2 x1] = (e135 x0 x1) := by kernel_rfl
  simp only [c57, e0, t57_8, rk57_0, rk57_1, Option.bind_some]
  rfl
def ctr57 (S : Int → Int → Option (Int)) : Ctr := { A := Int × Int × Unit, B := Int, f := 57, enc := fun a => [.v U2 a.1, .v U2 a.2.1], dec := (decC (decV U2) (decC (decV U2) dec0)), S := fun a => S a.1 a.2.1, ent := fun b => [.v U2 b], ok := (decV_cons (T := U2) (decV_cons (T := U2) (fun es b h => dec0_some h))) }
def S57 (N : Nat) (x0 : Int) (x1 : Int) : Option (Int) := g57 x0 x1 (fun (r0 : Int) => some (r0))
def g30_0 (x0 x1 : V6) (k0 : V6 → V6 → Option R) : Option R :=
k0 x0 x1
theorem t30_0 (x0 x1) : exec cl N c30_0 [(0, .v U14 x0), (1, .v U14 x1)] K = (g30_0 x0 x1 (fun y0 y1 => K .normal [(2, .loc U14 .no y0), (3, .loc U14 .no y1)])) := by
  kernel_rfl
def g30_1 (S57 : Int → Int → Option (Int)) (x0 x1 : V6) (k0 : V6 → V6 → Int → Option R) : Option R :=
(S57 x0.1 x1.1).bind fun r445 =>
k0 x0 x1 r445
theorem t30_1 (S57) (h57 : (ctr57 S57).holds cl) (x0 x1) : exec cl N c30_1 [(2, .loc U14 .no x0), (3, .loc U14 .no x1)] K = (g30_1 S57 x0 x1 (fun y0 y1 y2 => K .normal [(2, .loc U14 .no y0), (3, .loc U14 .no y1), (5, .v U2 y2)])) := by
  rw [← put_eq h57]
  kernel_rfl
def g30_2 (x0 x1 : V6) (x2 : Int) (k0 : V6 → V6 → Int → Bool → Option R) : Option R :=
k0 x0 x1 x2 (x2 != (0 : Int))
theorem t30_2 (x0 x1 x2) : exec cl N c30_2 [(2, .loc U14 .no x0), (3, .loc U14 .no x1), (5, .v U2 x2)] K = (g30_2 x0 x1 x2 (fun y0 y1 y2 y3 => K .normal (e138 y0 y1 y2 y3))) := by
  kernel_rfl
def g30_3 (x0 x1 : V6) (x2 : Int) (x3 : Bool) (k0 : Int → Option R) : Option R :=
k0 x2
theorem t30_3 (x0 x1 x2 x3) : exec cl N c30_3 (e138 x0 x1 x2 x3) K = (g30_3 x0 x1 x2 x3 (fun y0 => K .normal [(4, .v U2 y0)])) := by
  kernel_rfl
theorem kp30_0 (x0) : keep [2, 3, 4] [(4, .v U2 x0)] = (e139 x0) := by kernel_rfl
theorem kp30_1 (x0 x1 x2 x3) : keep [2, 3, 4] (e138 x0 x1 x2 x3) = (e140 x0 x1) := by kernel_rfl
theorem hb30_0 (x0 x1 x2 x3) : boolOf? (ent (e138 x0 x1 x2 x3) (.t 13)) = some x3 := by kernel_rfl
def g30_5 (S57 : Int → Int → Option (Int)) (x0 x1 : V6) (k0 : V6 → V6 → Int → Option R) : Option R :=
(S57 x0.2.1 x1.2.1).bind fun r447 =>
k0 x0 x1 r447
theorem t30_5 (S57) (h57 : (ctr57 S57).holds cl) (x0 x1) : exec cl N c30_5 (e140 x0 x1) K = (g30_5 S57 x0 x1 (fun y0 y1 y2 => K .normal [(2, .loc U14 .no y0), (3, .loc U14 .no y1), (6, .v U2 y2)])) := by
  rw [← put_eq h57]
  kernel_rfl
def g30_6 (x0 x1 : V6) (x2 : Int) (k0 : V6 → V6 → Int → Bool → Option R) : Option R :=
k0 x0 x1 x2 (x2 != (0 : Int))
theorem t30_6 (x0 x1 x2) : exec cl N c30_6 [(2, .loc U14 .no x0), (3, .loc U14 .no x1), (6, .v U2 x2)] K = (g30_6 x0 x1 x2 (fun y0 y1 y2 y3 => K .normal (e141 y0 y1 y2 y3))) := by
  kernel_rfl
def g30_7 (x0 x1 : V6) (x2 : Int) (x3 : Bool) (k0 : Int → Option R) : Option R :=
k0 x2
theorem t30_7 (x0 x1 x2 x3) : exec cl N c30_7 (e141 x0 x1 x2 x3) K = (g30_7 x0 x1 x2 x3 (fun y0 => K .normal [(4, .v U2 y0)])) := by
  kernel_rfl
theorem kp30_2 (x0 x1 x2 x3) : keep [2, 3, 4] (e141 x0 x1 x2 x3) = (e140 x0 x1) := by kernel_rfl
theorem hb30_1 (x0 x1 x2 x3) : boolOf? (ent (e141 x0 x1 x2 x3) (.t 21)) = some x3 := by kernel_rfl
def g30_9 (x0 x1 : V6) (k0 : V6 → V6 → Bool → Option R) : Option R :=
k0 x0 x1 (Op.bytesLess x0.2.2.1 x1.2.2.1)
theorem t30_9 (x0 x1) : exec cl N c30_9 (e140 x0 x1) K = (g30_9 x0 x1 (fun y0 y1 y2 => K .normal (e142 y0 y1 y2))) := by
  kernel_rfl
def g30_10 (x0 x1 : V6) (x2 : Bool) (k0 : Int → Option R) : Option R :=
k0 (-1 : Int)
theorem t30_10 (x0 x1 x2) : exec cl N c30_10 (e142 x0 x1 x2) K = (g30_10 x0 x1 x2 (fun y0 => K .normal [(4, .v U2 y0)])) := by
  kernel_rfl
theorem kp30_3 (x0 x1 x2) : keep [2, 3, 4] (e142 x0 x1 x2) = (e140 x0 x1) := by kernel_rfl
theorem hb30_2 (x0 x1 x2) : boolOf? (ent (e142 x0 x1 x2) (.t 27)) = some x2 := by kernel_rfl
def g30_12 (x0 x1 : V6) (k0 : Bool → Option R) : Option R :=
k0 (!((Op.bytesLess x0.2.2.1 x1.2.2.1) || x0.2.2.1 == x1.2.2.1))
theorem t30_12 (x0 x1) : exec cl N c30_12 (e140 x0 x1) K = (g30_12 x0 x1 (fun y0 => K .normal [(32, .v .bool y0)])) := by
  kernel_rfl
def g30_13 (x0 : Bool) (k0 : Int → Option R) : Option R :=
k0 (1 : Int)
theorem t30_13 (x0) : exec cl N c30_13 [(32, .v .bool x0)] K = (g30_13 x0 (fun y0 => K .normal [(4, .v U2 y0)])) := by
  kernel_rfl
theorem kp30_4 (x0) : keep [4] [(4, .v U2 x0)] = [(4, .v U2 x0)] := by kernel_rfl
theorem kp30_5 (x0) : keep [4] [(32, .v .bool x0)] = [(4, .dead)] := by kernel_rfl
theorem hb30_3 (x0) : boolOf? (ent [(32, .v .bool x0)] (.t 32)) = some x0 := by kernel_rfl
def g30_15 (k0 : Int → Option R) : Option R :=
k0 (0 : Int)
theorem t30_15 : exec cl N c30_15 [(4, .dead)] K = (g30_15 (fun y0 => K .normal [(4, .v U2 y0)])) := by
  kernel_rfl
def g30_16 (S57 : Int → Int → Option (Int)) (x0 x1 : V6) (k0 : Int → Option R) (k1 : Int → Option R) : Option R :=
(g30_0 x0 x1 (fun y0 y1 => (g30_1 S57 y0 y1 (fun y0 y1 y2 => (g30_2 y0 y1 y2 (fun y0 y1 y2 y3 => brB y3 (g30_3 y0 y1 y2 y3 (fun y0 => ((fun y0 => (k0 y0)) y0))) ((fun y0 y1 => (g30_5 S57 y0 y1 (fun y0 y1 y2 => (g30_6 y0 y1 y2 (fun y0 y1 y2 y3 => brB y3 (g30_7 y0 y1 y2 y3 (fun y0 => ((fun y0 => (k0 y0)) y0))) ((fun y0 y1 => (g30_9 y0 y1 (fun y0 y1 y2 => brB y2 (g30_10 y0 y1 y2 (fun y0 => ((fun y0 => (k0 y0)) y0))) ((fun y0 y1 => (g30_12 y0 y1 (fun y0 => brB y0 (g30_13 y0 (fun y0 => ((fun y0 => (k1 y0)) y0))) (g30_15 (fun y0 => (k1 y0)))))) y0 y1)))) y0 y1)))))) y0 y1)))))))
theorem t30_16 (S57) (h57 : (ctr57 S57).holds cl) (x0 x1) : exec cl N c30_16 [(0, .v U14 x0), (1, .v U14 x1)] K = (g30_16 S57 x0 x1 (fun y0 => K .ret (e139 y0)) (fun y0 => K .ret [(4, .v U2 y0)])) := by
  simp only [c30_16, exec_seq, seqK_normal, seqK_exit, seqK_ret, t30_0, t30_1 S57 h57, t30_2, c30_4, exec_out, exec_cond', hb30_0, Option.bind_some, brB_true, brB_false, t30_3, exec_ret, exec_skip, kp30_0, kp30_1, t30_5 S57 h57, t30_6, c30_8, hb30_1, t30_7, kp30_2, t30_9, c30_11, hb30_2, t30_10, kp30_3, t30_12, c30_14, hb30_3, t30_13, kp30_4, kp30_5, t30_15]
  rfl
theorem rk30_0 (y0) : retK d30 .ret (e139 y0) = some [.v U2 y0] := by kernel_rfl
theorem rk30_1 (y0) : retK d30 .ret [(4, .v U2 y0)] = some [.v U2 y0] := by kernel_rfl
def g30 (S57 : Int → Int → Option (Int)) (x0 x1 : V6) (k : Int → Option R) : Option R :=
(g30_16 S57 x0 x1 (fun y0 => k y0) (fun y0 => k y0))
theorem gen30 {N : Nat} {cl : Cal} (S57 : Int → Int → Option (Int)) (h57 : (ctr57 S57).holds cl) (x0 : V6) (x1 : V6) {R : Type} (k : List E → Option R) : exec cl N c30 (params 0 [.v U14 x0, .v U14 x1]) (fun e env => (retK d30 e env).bind k) = g30 S57 x0 x1 (fun (r0 : Int) => k [.v U2 r0]) := by
  have e0 : params 0 [.v U14 x0, .v U14 x1] = [(0, .v U14 x0), (1, .v U14 x1)] := by kernel_rfl
  simp only [c30, e0, t30_16 S57 h57, rk30_0, rk30_1, Option.bind_some]
  rfl
def ctr30 (S : V6 → V6 → Option (Int)) : Ctr := { A := V6 × V6 × Unit, B := Int, f := 30, enc := fun a => [.v U14 a.1, .v U14 a.2.1], dec := (decC (decV U14) (decC (decV U14) dec0)), S := fun a => S a.1 a.2.1, ent := fun b => [.v U2 b], ok := (decV_cons (T := U14) (decV_cons (T := U14) (fun es b h => dec0_some h))) }
def S30 (N : Nat) (x0 : V6) (x1 : V6) : Option (Int) := g30 (S57 N) x0 x1 (fun (r0 : Int) => some (r0))
def g13_0 (x0 x1 : V7) (k0 : V7 → V7 → Option R) : Option R :=
k0 x0 x1
theorem t13_0 (x0 x1) : exec cl N c13_0 (e35 x0 x1) K = (g13_0 x0 x1 (fun y0 y1 => K .normal (e35 y0 y1))) := by
  kernel_rfl
def g13_1 (x0 x1 : V7) (k0 : V7 → V7 → Bool → Option R) : Option R :=
k0 x0 x1 ((x0.length : Int) != (x1.length : Int))
theorem t13_1 (x0 x1) : exec cl N c13_1 (e35 x0 x1) K = (g13_1 x0 x1 (fun y0 y1 y2 => K .normal (e143 y0 y1 y2))) := by
  kernel_rfl
def g13_2 (x0 x1 : V7) (x2 : Bool) (k0 : Bool → Option R) : Option R :=
k0 false
theorem t13_2 (x0 x1 x2) : exec cl N c13_2 (e143 x0 x1 x2) K = (g13_2 x0 x1 x2 (fun y0 => K .normal [(4, .v .bool y0)])) := by
  kernel_rfl
theorem kp13_0 (x0) : keep [0, 1, 4] [(4, .v .bool x0)] = (e144 x0) := by kernel_rfl
theorem kp13_1 (x0 x1 x2) : keep [0, 1, 4] (e143 x0 x1 x2) = [(0, .v U17 x0), (1, .v U17 x1), (4, .dead)] := by kernel_rfl
theorem hb13_0 (x0 x1 x2) : boolOf? (ent (e143 x0 x1 x2) (.t 10)) = some x2 := by kernel_rfl
def g13_4 (x0 x1 : V7) (k0 : V7 → V7 → Int → Option R) : Option R :=
k0 x0 x1 (0 : Int)
theorem t13_4 (x0 x1) : exec cl N c13_4 [(0, .v U17 x0), (1, .v U17 x1), (4, .dead)] K = (g13_4 x0 x1 (fun y0 y1 y2 => K .normal (e49 y0 y1 y2))) := by
  kernel_rfl
theorem kp13_2 (x0 x1 x2) : keep [0, 1, 5] (e49 x0 x1 x2) = (e49 x0 x1 x2) := by kernel_rfl
def g13_5 (x0 x1 : V7) (x2 : Int) (k0 : V7 → V7 → Int → Bool → Option R) : Option R :=
k0 x0 x1 x2 (decide (x2 < (x0.length : Int)))
theorem t13_5 (x0 x1 x2) : exec cl N c13_5 (e49 x0 x1 x2) K = (g13_5 x0 x1 x2 (fun y0 y1 y2 y3 => K .normal (e145 y0 y1 y2 y3))) := by
  kernel_rfl
theorem kp13_3 (x0 x1 x2 x3) : keep [0, 1, 5] (e145 x0 x1 x2 x3) = (e49 x0 x1 x2) := by kernel_rfl
theorem hb13_1 (x0 x1 x2 x3) : boolOf? (ent (e145 x0 x1 x2 x3) (.t 14)) = some x3 := by kernel_rfl
def g13_7 (S30 : V6 → V6 → Option (Int)) (x0 x1 : V7) (x2 : Int) (k0 : V7 → V7 → Int → Bool → Option R) : Option R :=
if 0 ≤ x2 ∧ x2 < (x0.length : Int) then
if 0 ≤ x2 ∧ x2 < (x1.length : Int) then
(S30 (x0.getD x2.toNat ((0 : Int), ((0 : Int), ([], ())))) (x1.getD x2.toNat ((0 : Int), ((0 : Int), ([], ()))))).bind fun r456 =>
k0 x0 x1 x2 (r456 != (0 : Int))
else none
else none
theorem t13_7 (S30) (h30 : (ctr30 S30).holds cl) (x0 x1 x2) : exec cl N c13_7 (e49 x0 x1 x2) K = (g13_7 S30 x0 x1 x2 (fun y0 y1 y2 y3 => K .normal (e146 y0 y1 y2 y3))) := by
  rw [← put_eq h30]
  kernel_rfl
def g13_8 (x0 x1 : V7) (x2 : Int) (x3 : Bool) (k0 : Bool → Option R) : Option R :=
k0 false
theorem t13_8 (x0 x1 x2 x3) : exec cl N c13_8 (e146 x0 x1 x2 x3) K = (g13_8 x0 x1 x2 x3 (fun y0 => K .normal [(4, .v .bool y0)])) := by
  kernel_rfl
theorem kp13_4 (x0) : keep [0, 1, 4, 5] [(4, .v .bool x0)] = (e106 x0) := by kernel_rfl
theorem kp13_5 (x0 x1 x2 x3) : keep [0, 1, 4, 5] (e146 x0 x1 x2 x3) = (e147 x0 x1 x2) := by kernel_rfl
theorem hb13_2 (x0 x1 x2 x3) : boolOf? (ent (e146 x0 x1 x2 x3) (.t 26)) = some x3 := by kernel_rfl
theorem kp13_6 (x0) : keep [0, 1, 4, 5] (e106 x0) = (e106 x0) := by kernel_rfl
theorem kp13_7 (x0 x1 x2) : keep [0, 1, 4, 5] (e147 x0 x1 x2) = (e147 x0 x1 x2) := by kernel_rfl
def g13_11 (x0 x1 : V7) (x2 : Int) (k0 : V7 → V7 → Int → Option R) : Option R :=
k0 x0 x1 (IntKind.i64.wrap (x2 + (1 : Int)))
theorem t13_11 (x0 x1 x2) : exec cl N c13_11 (e147 x0 x1 x2) K = (g13_11 x0 x1 x2 (fun y0 y1 y2 => K .normal (e49 y0 y1 y2))) := by
  kernel_rfl
def g13_12 (S30 : V6 → V6 → Option (Int)) (x0 x1 : V7) (x2 : Int) (k0 : Bool → Option R) (k1 : V7 → V7 → Int → Option R) (k2 : V7 → V7 → Int → Option R) : Option R :=
(g13_5 x0 x1 x2 (fun y0 y1 y2 y3 => brB y3 ((fun y0 y1 y2 => (g13_7 S30 y0 y1 y2 (fun y0 y1 y2 y3 => brB y3 (g13_8 y0 y1 y2 y3 (fun y0 => ((fun y0 => (k0 y0)) y0))) (g13_11 y0 y1 y2 k1)))) y0 y1 y2) (k2 y0 y1 y2)))
theorem t13_12 (S30) (h30 : (ctr30 S30).holds cl) (x0 x1 x2) : exec cl N c13_12 (e49 x0 x1 x2) K = (g13_12 S30 x0 x1 x2 (fun y0 => K .ret (e106 y0)) (fun y0 y1 y2 => K .normal (e49 y0 y1 y2)) (fun y0 y1 y2 => K (.exit 0) (e49 y0 y1 y2))) := by
  simp only [c13_12, exec_seq, seqK_normal, seqK_exit, seqK_ret, t13_5, c13_6, exec_out, exec_cond', hb13_1, Option.bind_some, brB_true, brB_false, exec_skip, exec_exit, kp13_3, c13_10, exec_block, t13_7 S30 h30, c13_9, hb13_2, t13_8, exec_ret, kp13_4, kp13_5, blockK_normal, blockK_ret, blockK_eq, kp13_6, kp13_7, t13_11]
  rfl
def l13_13 {R : Type} (S30 : V6 → V6 → Option (Int)) (k0 : Bool → Option R) (k1 : V7 → V7 → Int → Option R) : Nat → V7 → V7 → Int → Option R
  | 0, _, _, _ => none
  | m + 1, x0, x1, x2 => (g13_12 S30 x0 x1 x2 k0 (fun y0 y1 y2 => l13_13 S30 k0 k1 m y0 y1 y2) k1)
theorem lt13_13 (S30) (h30 : (ctr30 S30).holds cl) : ∀ (m) (x0 x1 x2), iter [0, 1, 5] (fun env K => exec cl N c13_12 env K) K m (e49 x0 x1 x2) = l13_13 S30 (fun y0 => K .ret (e106 y0)) (fun y0 y1 y2 => K (.exit 0) (e49 y0 y1 y2)) m x0 x1 x2 := by
  intro m
  induction m with
  | zero => intros; rfl
  | succ m ih =>
    intro x0 x1 x2
    simp only [iter_succ, t13_12 S30 h30, loopK_normal, loopK_exit, loopK_ret, kp13_2, ih]
    rfl
theorem kp13_8 (x0) : keep [4] (e106 x0) = [(4, .v .bool x0)] := by kernel_rfl
theorem kp13_9 (x0 x1 x2) : keep [4] (e49 x0 x1 x2) = [(4, .dead)] := by kernel_rfl
def g13_13 (N : Nat) (S30 : V6 → V6 → Option (Int)) (x0 x1 : V7) (x2 : Int) (k0 : Bool → Option R) (k1 : Option R) : Option R :=
l13_13 S30 (fun y0 => k0 y0) (fun y0 y1 y2 => k1) N x0 x1 x2
theorem t13_13 (S30) (h30 : (ctr30 S30).holds cl) (x0 x1 x2) : exec cl N c13_13 (e49 x0 x1 x2) K = (g13_13 N S30 x0 x1 x2 (fun y0 => K .ret [(4, .v .bool y0)]) (K (.exit 0) [(4, .dead)])) := by
  simp only [c13_13, exec_out, exec_loop, kp13_2, lt13_13 S30 h30, kp13_8, kp13_9]
  rfl
theorem kp13_10 (x0) : keep [4] [(4, .v .bool x0)] = [(4, .v .bool x0)] := by kernel_rfl
theorem kp13_11 : keep [4] [(4, .dead)] = [(4, .dead)] := by kernel_rfl
def g13_15 (k0 : Bool → Option R) : Option R :=
k0 true
theorem t13_15 : exec cl N c13_15 [(4, .dead)] K = (g13_15 (fun y0 => K .normal [(4, .v .bool y0)])) := by
  kernel_rfl
def g13_16 (N : Nat) (S30 : V6 → V6 → Option (Int)) (x0 x1 : V7) (k0 : Bool → Option R) (k1 : Bool → Option R) : Option R :=
(g13_0 x0 x1 (fun y0 y1 => (g13_1 y0 y1 (fun y0 y1 y2 => brB y2 (g13_2 y0 y1 y2 (fun y0 => ((fun y0 => (k0 y0)) y0))) ((fun y0 y1 => (g13_4 y0 y1 (fun y0 y1 y2 => (g13_13 N S30 y0 y1 y2 (fun y0 => (k1 y0)) (g13_15 (fun y0 => (k1 y0))))))) y0 y1)))))
theorem t13_16 (S30) (h30 : (ctr30 S30).holds cl) (x0 x1) : exec cl N c13_16 (e35 x0 x1) K = (g13_16 N S30 x0 x1 (fun y0 => K .ret (e144 y0)) (fun y0 => K .ret [(4, .v .bool y0)])) := by
  simp only [c13_16, exec_seq, seqK_normal, seqK_exit, seqK_ret, t13_0, t13_1, c13_3, exec_out, exec_cond', hb13_0, Option.bind_some, brB_true, brB_false, t13_2, exec_ret, exec_skip, kp13_0, kp13_1, t13_4, c13_14, exec_block, t13_13 S30 h30, blockK_normal, blockK_ret, blockK_eq, kp13_10, kp13_11, t13_15]
  rfl
theorem rk13_0 (y0) : retK d13 .ret (e144 y0) = some [.v .bool y0] := by kernel_rfl
theorem rk13_1 (y0) : retK d13 .ret [(4, .v .bool y0)] = some [.v .bool y0] := by kernel_rfl
def g13 (N : Nat) (S30 : V6 → V6 → Option (Int)) (x0 x1 : V7) (k : Bool → Option R) : Option R :=
(g13_16 N S30 x0 x1 (fun y0 => k y0) (fun y0 => k y0))
theorem gen13 {N : Nat} {cl : Cal} (S30 : V6 → V6 → Option (Int)) (h30 : (ctr30 S30).holds cl) (x0 : V7) (x1 : V7) {R : Type} (k : List E → Option R) : exec cl N c13 (params 0 [.v U17 x0, .v U17 x1]) (fun e env => (retK d13 e env).bind k) = g13 N S30 x0 x1 (fun (r0 : Bool) => k [.v .bool r0]) := by
  have e0 : params 0 [.v U17 x0, .v U17 x1] = (e35 x0 x1) := by kernel_rfl
  simp only [c13, e0, t13_16 S30 h30, rk13_0, rk13_1, Option.bind_some]
  rfl
def ctr13 (S : V7 → V7 → Option (Bool)) : Ctr := { A := V7 × V7 × Unit, B := Bool, f := 13, enc := fun a => [.v U17 a.1, .v U17 a.2.1], dec := (decC (decV U17) (decC (decV U17) dec0)), S := fun a => S a.1 a.2.1, ent := fun b => [.v .bool b], ok := (decV_cons (T := U17) (decV_cons (T := U17) (fun es b h => dec0_some h))) }
def S13 (N : Nat) (x0 : V7) (x1 : V7) : Option (Bool) := g13 N (S30 N) x0 x1 (fun (r0 : Bool) => some (r0))
def g3_0 (x0 x1 : V7) (x2 : Int) (k0 : V7 → V7 → Int → Option R) : Option R :=
k0 x0 x1 x2
theorem t3_0 (x0 x1 x2) : exec cl N c3_0 (e58 x0 x1 x2) K = (g3_0 x0 x1 x2 (fun y0 y1 y2 => K .normal (e58 y0 y1 y2))) := by
  kernel_rfl
def g3_1 (S6 : Option (Bool)) (S7 : V7 → Int → Option (Bool)) (x0 x1 : V7) (x2 : Int) (k0 : V7 → V7 → Int → Bool → Option R) : Option R :=
(S6).bind fun r462 =>
brB (!r462) (k0 x0 x1 x2 true) ((S7 x0 (210 : Int)).bind fun r463 =>
brB (!r463) (k0 x0 x1 x2 true) ((S7 x1 (210 : Int)).bind fun r464 =>
k0 x0 x1 x2 (!r464)))
theorem t3_1 (S6) (S7) (h6 : (ctr6 S6).holds cl) (h7 : (ctr7 S7).holds cl) (x0 x1 x2) : exec cl N c3_1 (e58 x0 x1 x2) K = (g3_1 S6 S7 x0 x1 x2 (fun y0 y1 y2 y3 => K .normal (e63 y0 y1 y2 y3))) := by
  rw [← put_eq h6]
  rw [← put_eq h7]
  kernel_rfl
def g3_2 (S6 : Option (Bool)) (x0 x1 : V7) (x2 : Int) (x3 : Bool) (k0 : Bool → Option R) : Option R :=
(S6).bind fun r465 =>
k0 r465
theorem t3_2 (S6) (h6 : (ctr6 S6).holds cl) (x0 x1 x2 x3) : exec cl N c3_2 (e63 x0 x1 x2 x3) K = (g3_2 S6 x0 x1 x2 x3 (fun y0 => K .normal [(6, .v .bool y0)])) := by
  rw [← put_eq h6]
  kernel_rfl
theorem kp3_0 (x0) : keep [0, 1, 2, 6] [(6, .v .bool x0)] = (e148 x0) := by kernel_rfl
theorem kp3_1 (x0 x1 x2 x3) : keep [0, 1, 2, 6] (e63 x0 x1 x2 x3) = (e110 x0 x1 x2) := by kernel_rfl
theorem hb3_0 (x0 x1 x2 x3) : boolOf? (ent (e63 x0 x1 x2 x3) (.t 28)) = some x3 := by kernel_rfl
def g3_4 (S8 : V7 → V7 → Int → Option V11) (S9 : V7 → Option V8) (x0 x1 : V7) (x2 : Int) (k0 : V7 → V7 → Int → V7 → V7 → Int → Option R) : Option R :=
(S9 x0).bind fun r466 =>
(S9 x1).bind fun r467 =>
(S8 r466 r467 x2).bind fun r468 =>
k0 x0 x1 x2 r468.1 r468.2.1 r468.2.2
theorem t3_4 (S8) (S9) (h8 : (ctr8 S8).holds cl) (h9 : (ctr9 S9).holds cl) (x0 x1 x2) : exec cl N c3_4 (e110 x0 x1 x2) K = (g3_4 S8 S9 x0 x1 x2 (fun y0 y1 y2 y3 y4 y5 => K .normal (e149 y0 y1 y2 y3 y4 y5))) := by
  rw [← put_eq h8]
  rw [← put_eq h9]
  kernel_rfl
def g3_5 (S10 : V7 → V7 → Int → Option V11) (x0 x1 : V7) (x2 : Int) (x3 x4 : V7) (x5 : Int) (k0 : V7 → V7 → Int → V7 → V7 → Int → V7 → V7 → Int → Option R) : Option R :=
(S10 x0 x1 x2).bind fun r469 =>
k0 x0 x1 x2 x3 x4 x5 r469.1 r469.2.1 r469.2.2
theorem t3_5 (S10) (h10 : (ctr10 S10).holds cl) (x0 x1 x2 x3 x4 x5) : exec cl N c3_5 (e149 x0 x1 x2 x3 x4 x5) K = (g3_5 S10 x0 x1 x2 x3 x4 x5 (fun y0 y1 y2 y3 y4 y5 y6 y7 y8 => K .normal (e150 y0 y1 y2 y3 y4 y5 y6 y7 y8))) := by
  rw [← put_eq h10]
  kernel_rfl
def g3_6 (S9 : V7 → Option V8) (S11 : V7 → V7 → Int → Option V9) (x0 x1 : V7) (x2 : Int) (x3 x4 : V7) (x5 : Int) (x6 x7 : V7) (x8 : Int) (k0 : V7 → V7 → Int → V7 → V7 → Int → V7 → V7 → Int → V7 → Int → Option R) : Option R :=
(S9 x0).bind fun r470 =>
(S9 x1).bind fun r471 =>
(S11 r470 r471 x2).bind fun r472 =>
k0 x0 x1 x2 x3 x4 x5 x6 x7 x8 r472.1 r472.2
theorem t3_6 (S9) (S11) (h9 : (ctr9 S9).holds cl) (h11 : (ctr11 S11).holds cl) (x0 x1 x2 x3 x4 x5 x6 x7 x8) : exec cl N c3_6 (e150 x0 x1 x2 x3 x4 x5 x6 x7 x8) K = (g3_6 S9 S11 x0 x1 x2 x3 x4 x5 x6 x7 x8 (fun y0 y1 y2 y3 y4 y5 y6 y7 y8 y9 y10 => K .normal (e151 y0 y1 y2 y3 y4 y5 y6 y7 y8 y9 y10))) := by
  rw [← put_eq h9]
  rw [← put_eq h11]
  kernel_rfl
def g3_7 (S12 : V7 → V7 → Int → Option V9) (x0 x1 : V7) (x2 : Int) (x3 x4 : V7) (x5 : Int) (x6 x7 : V7) (x8 : Int) (x9 : V7) (x10 : Int) (k0 : V7 → V7 → Int → V7 → V7 → Int → V7 → Int → V7 → Int → Option R) : Option R :=
(S12 x0 x1 x2).bind fun r473 =>
k0 x3 x4 x5 x6 x7 x8 x9 x10 r473.1 r473.2
theorem t3_7 (S12) (h12 : (ctr12 S12).holds cl) (x0 x1 x2 x3 x4 x5 x6 x7 x8 x9 x10) : exec cl N c3_7 (e151 x0 x1 x2 x3 x4 x5 x6 x7 x8 x9 x10) K = (g3_7 S12 x0 x1 x2 x3 x4 x5 x6 x7 x8 x9 x10 (fun y0 y1 y2 y3 y4 y5 y6 y7 y8 y9 => K .normal (e152 y0 y1 y2 y3 y4 y5 y6 y7 y8 y9))) := by
  rw [← put_eq h12]
  kernel_rfl
def g3_8 (S13 : V7 → V7 → Option (Bool)) (x0 x1 : V7) (x2 : Int) (x3 x4 : V7) (x5 : Int) (x6 : V7) (x7 : Int) (x8 : V7) (x9 : Int) (k0 : Bool → Option R) : Option R :=
brB (x2 == x5) ((S13 x0 x3).bind fun r474 =>
brB r474 ((S13 x1 x4).bind fun r475 =>
brB r475 (brB (x7 == x9) ((S13 x6 x8).bind fun r476 =>
k0 r476) (k0 false)) (k0 false)) (k0 false)) (k0 false)
theorem t3_8 (S13) (h13 : (ctr13 S13).holds cl) (x0 x1 x2 x3 x4 x5 x6 x7 x8 x9) : exec cl N c3_8 (e152 x0 x1 x2 x3 x4 x5 x6 x7 x8 x9) K = (g3_8 S13 x0 x1 x2 x3 x4 x5 x6 x7 x8 x9 (fun y0 => K .normal [(6, .v .bool y0)])) := by
  rw [← put_eq h13]
  kernel_rfl
def g3_9 (S6 : Option (Bool)) (S7 : V7 → Int → Option (Bool)) (S8 : V7 → V7 → Int → Option V11) (S9 : V7 → Option V8) (S10 : V7 → V7 → Int → Option V11) (S11 : V7 → V7 → Int → Option V9) (S12 : V7 → V7 → Int → Option V9) (S13 : V7 → V7 → Option (Bool)) (x0 x1 : V7) (x2 : Int) (k0 : Bool → Option R) (k1 : Bool → Option R) : Option R :=
(g3_0 x0 x1 x2 (fun y0 y1 y2 => (g3_1 S6 S7 y0 y1 y2 (fun y0 y1 y2 y3 => brB y3 (g3_2 S6 y0 y1 y2 y3 (fun y0 => ((fun y0 => (k0 y0)) y0))) ((fun y0 y1 y2 => (g3_4 S8 S9 y0 y1 y2 (fun y0 y1 y2 y3 y4 y5 => (g3_5 S10 y0 y1 y2 y3 y4 y5 (fun y0 y1 y2 y3 y4 y5 y6 y7 y8 => (g3_6 S9 S11 y0 y1 y2 y3 y4 y5 y6 y7 y8 (fun y0 y1 y2 y3 y4 y5 y6 y7 y8 y9 y10 => (g3_7 S12 y0 y1 y2 y3 y4 y5 y6 y7 y8 y9 y10 (fun y0 y1 y2 y3 y4 y5 y6 y7 y8 y9 => (g3_8 S13 y0 y1 y2 y3 y4 y5 y6 y7 y8 y9 (fun y0 => (k1 y0)))))))))))) y0 y1 y2)))))
theorem t3_9 (S6) (S7) (S8) (S9) (S10) (S11) (S12) (S13) (h6 : (ctr6 S6).holds cl) (h7 : (ctr7 S7).holds cl) (h8 : (ctr8 S8).holds cl) (h9 : (ctr9 S9).holds cl) (h10 : (ctr10 S10).holds cl) (h11 : (ctr11 S11).holds cl) (h12 : (ctr12 S12).holds cl) (h13 : (ctr13 S13).holds cl) (x0 x1 x2) : exec cl N c3_9 (e58 x0 x1 x2) K = (g3_9 S6 S7 S8 S9 S10 S11 S12 S13 x0 x1 x2 (fun y0 => K .ret (e148 y0)) (fun y0 => K .ret [(6, .v .bool y0)])) := by
  simp only [c3_9, exec_seq, seqK_normal, seqK_exit, seqK_ret, t3_0, t3_1 S6 S7 h6 h7, c3_3, exec_out, exec_cond', hb3_0, Option.bind_some, brB_true, brB_false, t3_2 S6 h6, exec_ret, exec_skip, kp3_0, kp3_1, t3_4 S8 S9 h8 h9, t3_5 S10 h10, t3_6 S9 S11 h9 h11, t3_7 S12 h12, t3_8 S13 h13]
  rfl
theorem rk3_0 (y0) : retK d3 .ret (e148 y0) = some [.v .bool y0] := by kernel_rfl
theorem rk3_1 (y0) : retK d3 .ret [(6, .v .bool y0)] = some [.v .bool y0] := by kernel_rfl
def g3 (S6 : Option (Bool)) (S7 : V7 → Int → Option (Bool)) (S8 : V7 → V7 → Int → Option V11) (S9 : V7 → Option V8) (S10 : V7 → V7 → Int → Option V11) (S11 : V7 → V7 → Int → Option V9) (S12 : V7 → V7 → Int → Option V9) (S13 : V7 → V7 → Option (Bool)) (x0 x1 : V7) (x2 : Int) (k : Bool → Option R) : Option R :=
(g3_9 S6 S7 S8 S9 S10 S11 S12 S13 x0 x1 x2 (fun y0 => k y0) (fun y0 => k y0))
theorem gen3 {N : Nat} {cl : Cal} (S6 : Option (Bool)) (S7 : V7 → Int → Option (Bool)) (S8 : V7 → V7 → Int → Option V11) (S9 : V7 → Option V8) (S10 : V7 → V7 → Int → Option V11) (S11 : V7 → V7 → Int → Option V9) (S12 : V7 → V7 → Int → Option V9) (S13 : V7 → V7 → Option (Bool)) (h6 : (ctr6 S6).holds cl) (h7 : (ctr7 S7).holds cl) (h8 : (ctr8 S8).holds cl) (h9 : (ctr9 S9).holds cl) (h10 : (ctr10 S10).holds cl) (h11 : (ctr11 S11).holds cl) (h12 : (ctr12 S12).holds cl) (h13 : (ctr13 S13).holds cl) (x0 : V7) (x1 : V7) (x2 : Int) {R : Type} (k : List E → Option R) : exec cl N c3 (params 0 [.v U17 x0, .v U17 x1, .v U2 x2]) (fun e env => (retK d3 e env).bind k) = g3 S6 S7 S8 S9 S10 S11 S12 S13 x0 x1 x2 (fun (r0 : Bool) => k [.v .bool r0]) := by
  have e0 : params 0 [.v U17 x0, .v U17 x1, .v U2 x2] = (e58 x0 x1 x2) := by kernel_rfl
  simp only [c3, e0, t3_9 S6 S7 S8 S9 S10 S11 S12 S13 h6 h7 h8 h9 h10 h11 h12 h13, rk3_0, rk3_1, Option.bind_some]
  rfl
def ctr3 (S : V7 → V7 → Int → Option (Bool)) : Ctr := { A := V7 × V7 × Int × Unit, B := Bool, f := 3, enc := fun a => [.v U17 a.1, .v U17 a.2.1, .v U2 a.2.2.1], dec := (decC (decV U17) (decC (decV U17) (decC (decV U2) dec0))), S := fun a => S a.1 a.2.1 a.2.2.1, ent := fun b => [.v .bool b], ok := (decV_cons (T := U17) (decV_cons (T := U17) (decV_cons (T := U2) (fun es b h => dec0_some h)))) }
def S3 (N : Nat) (x0 : V7) (x1 : V7) (x2 : Int) : Option (Bool) := g3 (S6 N) (S7 N) (S8 N) (S9 N) (S10 N) (S11 N) (S12 N) (S13 N) x0 x1 x2 (fun (r0 : Bool) => some (r0))
end Go.Fw.L19
