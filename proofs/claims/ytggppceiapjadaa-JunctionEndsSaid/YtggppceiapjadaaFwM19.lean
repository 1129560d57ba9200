import Derived.Test.YtggppceiapjadaaFwY19
import Derived.Test.YtggppceiapjadaaFwP
set_option linter.unusedVariables false
set_option linter.unusedSimpArgs false
namespace Go.Fw.L19
open Go Go.Fw
set_option maxRecDepth 100000
set_option linter.unusedVariables false
set_option linter.unusedSimpArgs false
-- anceps/ancepsref11.Few
def g22_0 {R : Type} (x0 : D196) (x1 : Int) (k0 : D196 → Int → Option R) : Option R :=
k0 x0 x1
theorem ng22_0 {R R2 : Type} (x0 : D196) (x1 : Int) (k0 : D196 → Int → Option R) (h : R → Option R2) : ((g22_0 x0 x1 k0)).bind h = (g22_0 x0 x1 (fun y0 y1 => (k0 y0 y1).bind h)) := by
  simp only [g22_0, bind_brB, bind_ite, bind_none', Option.bind_assoc]
theorem t22_0 {N : Nat} {cl : Cal} {R : Type} (K : KE R) (x0 : D196) (x1 : Int) : exec cl N c22_0 [(0, .v T1914 x0), (1, .v T192 x1)] K = (g22_0 x0 x1 (fun y0 y1 => K .normal [(0, .v T1914 y0), (1, .v T192 y1)])) := by
  kernel_rfl
def g22_1 {R : Type} (x0 : D196) (x1 : Int) (k0 : D196 → Bool → Option R) : Option R :=
k0 x0 (decide ((x0.length : Int) > x1))
theorem ng22_1 {R R2 : Type} (x0 : D196) (x1 : Int) (k0 : D196 → Bool → Option R) (h : R → Option R2) : ((g22_1 x0 x1 k0)).bind h = (g22_1 x0 x1 (fun y0 y1 => (k0 y0 y1).bind h)) := by
  simp only [g22_1, bind_brB, bind_ite, bind_none', Option.bind_assoc]
theorem t22_1 {N : Nat} {cl : Cal} {R : Type} (K : KE R) (x0 : D196) (x1 : Int) : exec cl N c22_1 [(0, .v T1914 x0), (1, .v T192 x1)] K = (g22_1 x0 x1 (fun y0 y1 => K .normal [(0, .v T1914 y0), (9, .v .bool y1)])) := by
  kernel_rfl
def g22_2 {R : Type} (x0 : D196) (x1 : Bool) (k0 : Bool → Option R) : Option R :=
k0 false
theorem ng22_2 {R R2 : Type} (x0 : D196) (x1 : Bool) (k0 : Bool → Option R) (h : R → Option R2) : ((g22_2 x0 x1 k0)).bind h = (g22_2 x0 x1 (fun y0 => (k0 y0).bind h)) := by
  simp only [g22_2, bind_brB, bind_ite, bind_none', Option.bind_assoc]
theorem t22_2 {N : Nat} {cl : Cal} {R : Type} (K : KE R) (x0 : D196) (x1 : Bool) : exec cl N c22_2 [(0, .v T1914 x0), (9, .v .bool x1)] K = (g22_2 x0 x1 (fun y0 => K .normal [(4, .v .bool y0)])) := by
  kernel_rfl
theorem kp22_0 (x0 : Bool) : keep [0, 4] [(4, .v .bool x0)] = [(0, .dead), (4, .v .bool x0)] := by kernel_rfl
theorem kp22_1 (x0 : D196) (x1 : Bool) : keep [0, 4] [(0, .v T1914 x0), (9, .v .bool x1)] = [(0, .v T1914 x0), (4, .dead)] := by kernel_rfl
theorem hb22_0 (x0 : D196) (x1 : Bool) : boolOf? (ent [(0, .v T1914 x0), (9, .v .bool x1)] (.t 9)) = some x1 := by kernel_rfl
def g22_4 {R : Type} (x0 : D196) (k0 : D196 → Int → Option R) : Option R :=
k0 x0 (0 : Int)
theorem ng22_4 {R R2 : Type} (x0 : D196) (k0 : D196 → Int → Option R) (h : R → Option R2) : ((g22_4 x0 k0)).bind h = (g22_4 x0 (fun y0 y1 => (k0 y0 y1).bind h)) := by
  simp only [g22_4, bind_brB, bind_ite, bind_none', Option.bind_assoc]
theorem t22_4 {N : Nat} {cl : Cal} {R : Type} (K : KE R) (x0 : D196) : exec cl N c22_4 [(0, .v T1914 x0), (4, .dead)] K = (g22_4 x0 (fun y0 y1 => K .normal [(0, .v T1914 y0), (5, .v T192 y1)])) := by
  kernel_rfl
theorem kp22_2 (x0 : D196) (x1 : Int) : keep [0, 5] [(0, .v T1914 x0), (5, .v T192 x1)] = [(0, .v T1914 x0), (5, .v T192 x1)] := by kernel_rfl
def g22_5 {R : Type} (x0 : D196) (x1 : Int) (k0 : D196 → Int → Bool → Option R) : Option R :=
k0 x0 x1 (decide (x1 < (x0.length : Int)))
theorem ng22_5 {R R2 : Type} (x0 : D196) (x1 : Int) (k0 : D196 → Int → Bool → Option R) (h : R → Option R2) : ((g22_5 x0 x1 k0)).bind h = (g22_5 x0 x1 (fun y0 y1 y2 => (k0 y0 y1 y2).bind h)) := by
  simp only [g22_5, bind_brB, bind_ite, bind_none', Option.bind_assoc]
theorem t22_5 {N : Nat} {cl : Cal} {R : Type} (K : KE R) (x0 : D196) (x1 : Int) : exec cl N c22_5 [(0, .v T1914 x0), (5, .v T192 x1)] K = (g22_5 x0 x1 (fun y0 y1 y2 => K .normal [(0, .v T1914 y0), (5, .v T192 y1), (13, .v .bool y2)])) := by
  kernel_rfl
theorem kp22_3 (x0 : D196) (x1 : Int) (x2 : Bool) : keep [0, 5] [(0, .v T1914 x0), (5, .v T192 x1), (13, .v .bool x2)] = [(0, .v T1914 x0), (5, .v T192 x1)] := by kernel_rfl
theorem hb22_1 (x0 : D196) (x1 : Int) (x2 : Bool) : boolOf? (ent [(0, .v T1914 x0), (5, .v T192 x1), (13, .v .bool x2)] (.t 13)) = some x2 := by kernel_rfl
def g22_7 {R : Type} (x0 : D196) (x1 : Int) (k0 : D196 → Int → Bool → Option R) : Option R :=
if 0 ≤ x1 ∧ x1 < (x0.length : Int) then
k0 x0 x1 (decide ((((x0.getD x1.toNat ((0 : Int), ((0 : Int), ([], ())))).2.2.1).length : Int) > (40 : Int)))
else none
theorem ng22_7 {R R2 : Type} (x0 : D196) (x1 : Int) (k0 : D196 → Int → Bool → Option R) (h : R → Option R2) : ((g22_7 x0 x1 k0)).bind h = (g22_7 x0 x1 (fun y0 y1 y2 => (k0 y0 y1 y2).bind h)) := by
  simp only [g22_7, bind_brB, bind_ite, bind_none', Option.bind_assoc]
theorem t22_7 {N : Nat} {cl : Cal} {R : Type} (K : KE R) (x0 : D196) (x1 : Int) : exec cl N c22_7 [(0, .v T1914 x0), (5, .v T192 x1)] K = (g22_7 x0 x1 (fun y0 y1 y2 => K .normal [(0, .v T1914 y0), (5, .v T192 y1), (22, .v .bool y2)])) := by
  kernel_rfl
def g22_8 {R : Type} (x0 : D196) (x1 : Int) (x2 : Bool) (k0 : Bool → Option R) : Option R :=
k0 false
theorem ng22_8 {R R2 : Type} (x0 : D196) (x1 : Int) (x2 : Bool) (k0 : Bool → Option R) (h : R → Option R2) : ((g22_8 x0 x1 x2 k0)).bind h = (g22_8 x0 x1 x2 (fun y0 => (k0 y0).bind h)) := by
  simp only [g22_8, bind_brB, bind_ite, bind_none', Option.bind_assoc]
theorem t22_8 {N : Nat} {cl : Cal} {R : Type} (K : KE R) (x0 : D196) (x1 : Int) (x2 : Bool) : exec cl N c22_8 [(0, .v T1914 x0), (5, .v T192 x1), (22, .v .bool x2)] K = (g22_8 x0 x1 x2 (fun y0 => K .normal [(4, .v .bool y0)])) := by
  kernel_rfl
theorem kp22_4 (x0 : Bool) : keep [0, 4, 5] [(4, .v .bool x0)] = [(0, .dead), (4, .v .bool x0), (5, .dead)] := by kernel_rfl
theorem kp22_5 (x0 : D196) (x1 : Int) (x2 : Bool) : keep [0, 4, 5] [(0, .v T1914 x0), (5, .v T192 x1), (22, .v .bool x2)] = [(0, .v T1914 x0), (4, .dead), (5, .v T192 x1)] := by kernel_rfl
theorem hb22_2 (x0 : D196) (x1 : Int) (x2 : Bool) : boolOf? (ent [(0, .v T1914 x0), (5, .v T192 x1), (22, .v .bool x2)] (.t 22)) = some x2 := by kernel_rfl
theorem kp22_6 (x0 : Bool) : keep [0, 4, 5] [(0, .dead), (4, .v .bool x0), (5, .dead)] = [(0, .dead), (4, .v .bool x0), (5, .dead)] := by kernel_rfl
theorem kp22_7 (x0 : D196) (x1 : Int) : keep [0, 4, 5] [(0, .v T1914 x0), (4, .dead), (5, .v T192 x1)] = [(0, .v T1914 x0), (4, .dead), (5, .v T192 x1)] := by kernel_rfl
def g22_11 {R : Type} (x0 : D196) (x1 : Int) (k0 : D196 → Int → Option R) : Option R :=
k0 x0 (IntKind.i64.wrap (x1 + (1 : Int)))
theorem ng22_11 {R R2 : Type} (x0 : D196) (x1 : Int) (k0 : D196 → Int → Option R) (h : R → Option R2) : ((g22_11 x0 x1 k0)).bind h = (g22_11 x0 x1 (fun y0 y1 => (k0 y0 y1).bind h)) := by
  simp only [g22_11, bind_brB, bind_ite, bind_none', Option.bind_assoc]
theorem t22_11 {N : Nat} {cl : Cal} {R : Type} (K : KE R) (x0 : D196) (x1 : Int) : exec cl N c22_11 [(0, .v T1914 x0), (4, .dead), (5, .v T192 x1)] K = (g22_11 x0 x1 (fun y0 y1 => K .normal [(0, .v T1914 y0), (5, .v T192 y1)])) := by
  kernel_rfl
def g22_12 {R : Type} (x0 : D196) (x1 : Int) (k0 : Bool → Option R) (k1 : D196 → Int → Option R) (k2 : D196 → Int → Option R) : Option R :=
(g22_5 x0 x1 (fun y0 y1 y2 => brB y2 ((fun y0 y1 => (g22_7 y0 y1 (fun y0 y1 y2 => brB y2 (g22_8 y0 y1 y2 (fun y0 => ((fun y0 => (k0 y0)) y0))) (g22_11 y0 y1 k1)))) y0 y1) (k2 y0 y1)))
theorem ng22_12 {R R2 : Type} (x0 : D196) (x1 : Int) (k0 : Bool → Option R) (k1 : D196 → Int → Option R) (k2 : D196 → Int → Option R) (h : R → Option R2) : ((g22_12 x0 x1 k0 k1 k2)).bind h = (g22_12 x0 x1 (fun y0 => (k0 y0).bind h) (fun y0 y1 => (k1 y0 y1).bind h) (fun y0 y1 => (k2 y0 y1).bind h)) := by
  simp only [g22_12, ng22_11, ng22_5, ng22_7, ng22_8, bind_brB, bind_ite, bind_none', Option.bind_assoc]
theorem t22_12 {N : Nat} {cl : Cal} {R : Type} (K : KE R) (x0 : D196) (x1 : Int) : exec cl N c22_12 [(0, .v T1914 x0), (5, .v T192 x1)] K = (g22_12 x0 x1 (fun y0 => K .ret [(0, .dead), (4, .v .bool y0), (5, .dead)]) (fun y0 y1 => K .normal [(0, .v T1914 y0), (5, .v T192 y1)]) (fun y0 y1 => K (.exit 0) [(0, .v T1914 y0), (5, .v T192 y1)])) := by
  simp only [c22_12, exec_seq, seqK_normal, seqK_exit, seqK_ret, t22_5, c22_6, exec_out, exec_cond', hb22_1, Option.bind_some, brB_true, brB_false, exec_skip, exec_exit, kp22_3, c22_10, exec_block, t22_7, c22_9, hb22_2, t22_8, exec_ret, kp22_4, kp22_5, blockK_normal, blockK_ret, blockK_eq, kp22_6, kp22_7, t22_11]
  rfl

def l22_13 {R : Type} (k0 : Bool → Option R) (k1 : D196 → Int → Option R) : Nat → D196 → Int → Option R
  | 0, _, _ => none
  | m + 1, x0, x1 => (g22_12 x0 x1 k0 (fun y0 y1 => l22_13 k0 k1 m y0 y1) k1)
theorem nl22_13 {R R2 : Type} (k0 : Bool → Option R) (k1 : D196 → Int → Option R) (h : R → Option R2) : ∀ (m : Nat) (x0 : D196) (x1 : Int), (l22_13 k0 k1 m x0 x1).bind h = l22_13 (fun y0 => (k0 y0).bind h) (fun y0 y1 => (k1 y0 y1).bind h) m x0 x1 := by
  intro m
  induction m with
  | zero => intros; rfl
  | succ m ih =>
    intro x0 x1
    simp only [l22_13, ng22_12, bind_brB, bind_ite, bind_none', ih]
theorem lt22_13 {N : Nat} {cl : Cal} {R : Type} (K : KE R) : ∀ (m : Nat) (x0 : D196) (x1 : Int), iter [0, 5] (fun env K => exec cl N c22_12 env K) K m [(0, .v T1914 x0), (5, .v T192 x1)] = l22_13 (fun y0 => K .ret [(0, .dead), (4, .v .bool y0), (5, .dead)]) (fun y0 y1 => K (.exit 0) [(0, .v T1914 y0), (5, .v T192 y1)]) m x0 x1 := by
  intro m
  induction m with
  | zero => intros; rfl
  | succ m ih =>
    intro x0 x1
    simp only [iter_succ, t22_12, loopK_normal, loopK_exit, loopK_ret, kp22_2, ih]
    rfl

theorem kp22_8 (x0 : Bool) : keep [4] [(0, .dead), (4, .v .bool x0), (5, .dead)] = [(4, .v .bool x0)] := by kernel_rfl
theorem kp22_9 (x0 : D196) (x1 : Int) : keep [4] [(0, .v T1914 x0), (5, .v T192 x1)] = [(4, .dead)] := by kernel_rfl
def g22_13 {R : Type} (N : Nat) (x0 : D196) (x1 : Int) (k0 : Bool → Option R) (k1 : Option R) : Option R :=
l22_13 (fun y0 => k0 y0) (fun y0 y1 => k1) N x0 x1
theorem ng22_13 {R R2 : Type} (N : Nat) (x0 : D196) (x1 : Int) (k0 : Bool → Option R) (k1 : Option R) (h : R → Option R2) : ((g22_13 N x0 x1 k0 k1)).bind h = (g22_13 N x0 x1 (fun y0 => (k0 y0).bind h) ((k1).bind h)) := by
  simp only [g22_13, nl22_13, bind_brB, bind_ite, bind_none', Option.bind_assoc]
theorem t22_13 {N : Nat} {cl : Cal} {R : Type} (K : KE R) (x0 : D196) (x1 : Int) : exec cl N c22_13 [(0, .v T1914 x0), (5, .v T192 x1)] K = (g22_13 N x0 x1 (fun y0 => K .ret [(4, .v .bool y0)]) (K (.exit 0) [(4, .dead)])) := by
  simp only [c22_13, exec_out, exec_loop, kp22_2, lt22_13, kp22_8, kp22_9]
  rfl

theorem kp22_10 (x0 : Bool) : keep [4] [(4, .v .bool x0)] = [(4, .v .bool x0)] := by kernel_rfl
theorem kp22_11 : keep [4] [(4, .dead)] = [(4, .dead)] := by kernel_rfl
def g22_15 {R : Type} (k0 : Bool → Option R) : Option R :=
k0 true
theorem ng22_15 {R R2 : Type} (k0 : Bool → Option R) (h : R → Option R2) : ((g22_15 k0)).bind h = (g22_15 (fun y0 => (k0 y0).bind h)) := by
  simp only [g22_15, bind_brB, bind_ite, bind_none', Option.bind_assoc]
theorem t22_15 {N : Nat} {cl : Cal} {R : Type} (K : KE R) : exec cl N c22_15 [(4, .dead)] K = (g22_15 (fun y0 => K .normal [(4, .v .bool y0)])) := by
  kernel_rfl
def g22_16 {R : Type} (N : Nat) (x0 : D196) (x1 : Int) (k0 : Bool → Option R) (k1 : Bool → Option R) : Option R :=
(g22_0 x0 x1 (fun y0 y1 => (g22_1 y0 y1 (fun y0 y1 => brB y1 (g22_2 y0 y1 (fun y0 => ((fun y0 => (k0 y0)) y0))) ((fun y0 => (g22_4 y0 (fun y0 y1 => (g22_13 N y0 y1 (fun y0 => (k1 y0)) (g22_15 (fun y0 => (k1 y0))))))) y0)))))
theorem ng22_16 {R R2 : Type} (N : Nat) (x0 : D196) (x1 : Int) (k0 : Bool → Option R) (k1 : Bool → Option R) (h : R → Option R2) : ((g22_16 N x0 x1 k0 k1)).bind h = (g22_16 N x0 x1 (fun y0 => (k0 y0).bind h) (fun y0 => (k1 y0).bind h)) := by
  simp only [g22_16, ng22_0, ng22_1, ng22_13, ng22_15, ng22_2, ng22_4, bind_brB, bind_ite, bind_none', Option.bind_assoc]
theorem t22_16 {N : Nat} {cl : Cal} {R : Type} (K : KE R) (x0 : D196) (x1 : Int) : exec cl N c22_16 [(0, .v T1914 x0), (1, .v T192 x1)] K = (g22_16 N x0 x1 (fun y0 => K .ret [(0, .dead), (4, .v .bool y0)]) (fun y0 => K .ret [(4, .v .bool y0)])) := by
  simp only [c22_16, exec_seq, seqK_normal, seqK_exit, seqK_ret, t22_0, t22_1, c22_3, exec_out, exec_cond', hb22_0, Option.bind_some, brB_true, brB_false, t22_2, exec_ret, exec_skip, kp22_0, kp22_1, t22_4, c22_14, exec_block, t22_13, blockK_normal, blockK_ret, blockK_eq, kp22_10, kp22_11, t22_15]
  rfl

theorem rk22_0 (y0 : Bool) : retK d22 .ret [(0, .dead), (4, .v .bool y0)] = some [.v .bool y0] := by kernel_rfl
theorem rk22_1 (y0 : Bool) : retK d22 .ret [(4, .v .bool y0)] = some [.v .bool y0] := by kernel_rfl
def g22 {R : Type} (N : Nat) (x0 : D196) (x1 : Int) (k : Bool → Option R) : Option R :=
(g22_16 N x0 x1 (fun y0 => k y0) (fun y0 => k y0))
theorem gen22 {N : Nat} {cl : Cal} (x0 : D196) (x1 : Int) : exec cl N c22 (params 0 [.v T1914 x0, .v T192 x1]) (retK d22) = g22 N x0 x1 (fun (r0 : Bool) => some [.v .bool r0]) := by
  have e0 : params 0 [.v T1914 x0, .v T192 x1] = [(0, .v T1914 x0), (1, .v T192 x1)] := by kernel_rfl
  simp only [c22, e0, t22_16, rk22_0, rk22_1]
  rfl

def ctr22 (S : D196 → Int → Option (Bool)) : Ctr := { A := D196 × Int × Unit, B := Bool, f := 22, enc := fun a => [.v T1914 a.1, .v T192 a.2.1], dec := (decC (decV T1914) (decC (decV T192) dec0)), S := fun a => S a.1 a.2.1, ent := fun b => [.v .bool b], ok := (decV_cons (T := T1914) (decV_cons (T := T192) (fun es b h => dec0_some h))) }
def S22 (N : Nat) (x0 : D196) (x1 : Int) : Option (Bool) := g22 N x0 x1 (fun (r0 : Bool) => some (r0))
theorem ng22 {R R2 : Type} (N : Nat) (x0 : D196) (x1 : Int) (k : Bool → Option R) (h : R → Option R2) : (g22 N x0 x1 k).bind h = g22 N x0 x1 (fun (r0 : Bool) => (k r0).bind h) := by
  simp only [g22, ng22_16]
-- anceps/sound.Nucleus
def g43_0 {R : Type} (x0 : D195) (k0 : D195 → Option R) : Option R :=
k0 x0
theorem ng43_0 {R R2 : Type} (x0 : D195) (k0 : D195 → Option R) (h : R → Option R2) : ((g43_0 x0 k0)).bind h = (g43_0 x0 (fun y0 => (k0 y0).bind h)) := by
  simp only [g43_0, bind_brB, bind_ite, bind_none', Option.bind_assoc]
theorem t43_0 {N : Nat} {cl : Cal} {R : Type} (K : KE R) (x0 : D195) : exec cl N c43_0 [(0, .v T1911 x0)] K = (g43_0 x0 (fun y0 => K .normal [(1, .loc T1911 .no y0)])) := by
  kernel_rfl
def g43_1 {R : Type} (x0 : D195) (k0 : Bool → Option R) : Option R :=
brB (x0.1 == (1 : Int)) (k0 true) (k0 (x0.1 == (2 : Int)))
theorem ng43_1 {R R2 : Type} (x0 : D195) (k0 : Bool → Option R) (h : R → Option R2) : ((g43_1 x0 k0)).bind h = (g43_1 x0 (fun y0 => (k0 y0).bind h)) := by
  simp only [g43_1, bind_brB, bind_ite, bind_none', Option.bind_assoc]
theorem t43_1 {N : Nat} {cl : Cal} {R : Type} (K : KE R) (x0 : D195) : exec cl N c43_1 [(1, .loc T1911 .no x0)] K = (g43_1 x0 (fun y0 => K .normal [(2, .v .bool y0)])) := by
  kernel_rfl
def g43_2 {R : Type} (x0 : D195) (k0 : Bool → Option R) : Option R :=
(g43_0 x0 (fun y0 => (g43_1 y0 (fun y0 => (k0 y0)))))
theorem ng43_2 {R R2 : Type} (x0 : D195) (k0 : Bool → Option R) (h : R → Option R2) : ((g43_2 x0 k0)).bind h = (g43_2 x0 (fun y0 => (k0 y0).bind h)) := by
  simp only [g43_2, ng43_0, ng43_1, bind_brB, bind_ite, bind_none', Option.bind_assoc]
theorem t43_2 {N : Nat} {cl : Cal} {R : Type} (K : KE R) (x0 : D195) : exec cl N c43_2 [(0, .v T1911 x0)] K = (g43_2 x0 (fun y0 => K .ret [(2, .v .bool y0)])) := by
  simp only [c43_2, exec_seq, seqK_normal, seqK_exit, seqK_ret, t43_0, t43_1, exec_ret]
  rfl

theorem rk43_0 (y0 : Bool) : retK d43 .ret [(2, .v .bool y0)] = some [.v .bool y0] := by kernel_rfl
def g43 {R : Type} (x0 : D195) (k : Bool → Option R) : Option R :=
(g43_2 x0 (fun y0 => k y0))
theorem gen43 {N : Nat} {cl : Cal} (x0 : D195) : exec cl N c43 (params 0 [.v T1911 x0]) (retK d43) = g43 x0 (fun (r0 : Bool) => some [.v .bool r0]) := by
  have e0 : params 0 [.v T1911 x0] = [(0, .v T1911 x0)] := by kernel_rfl
  simp only [c43, e0, t43_2, rk43_0]
  rfl

def ctr43 (S : D195 → Option (Bool)) : Ctr := { A := D195 × Unit, B := Bool, f := 43, enc := fun a => [.v T1911 a.1], dec := (decC (decV T1911) dec0), S := fun a => S a.1, ent := fun b => [.v .bool b], ok := (decV_cons (T := T1911) (fun es b h => dec0_some h)) }
def S43 (N : Nat) (x0 : D195) : Option (Bool) := g43 x0 (fun (r0 : Bool) => some (r0))
theorem ng43 {R R2 : Type} (x0 : D195) (k : Bool → Option R) (h : R → Option R2) : (g43 x0 k).bind h = g43 x0 (fun (r0 : Bool) => (k r0).bind h) := by
  simp only [g43, ng43_2]
-- anceps/junction.Ends
def g14_0 {R : Type} (x0 : D196) (k0 : D196 → Option R) : Option R :=
k0 x0
theorem ng14_0 {R R2 : Type} (x0 : D196) (k0 : D196 → Option R) (h : R → Option R2) : ((g14_0 x0 k0)).bind h = (g14_0 x0 (fun y0 => (k0 y0).bind h)) := by
  simp only [g14_0, bind_brB, bind_ite, bind_none', Option.bind_assoc]
theorem t14_0 {N : Nat} {cl : Cal} {R : Type} (K : KE R) (x0 : D196) : exec cl N c14_0 [(0, .v T1914 x0)] K = (g14_0 x0 (fun y0 => K .normal [(0, .v T1914 y0)])) := by
  kernel_rfl
def g14_1 {R : Type} (x0 : D196) (k0 : D196 → Int → Option R) : Option R :=
k0 x0 (x0.length : Int)
theorem ng14_1 {R R2 : Type} (x0 : D196) (k0 : D196 → Int → Option R) (h : R → Option R2) : ((g14_1 x0 k0)).bind h = (g14_1 x0 (fun y0 y1 => (k0 y0 y1).bind h)) := by
  simp only [g14_1, bind_brB, bind_ite, bind_none', Option.bind_assoc]
theorem t14_1 {N : Nat} {cl : Cal} {R : Type} (K : KE R) (x0 : D196) : exec cl N c14_1 [(0, .v T1914 x0)] K = (g14_1 x0 (fun y0 y1 => K .normal [(0, .v T1914 y0), (3, .v T192 y1)])) := by
  kernel_rfl
def g14_2 {R : Type} (S43 : D195 → Option (Bool)) (x0 : D196) (x1 : Int) (k0 : D196 → Int → Bool → Option R) : Option R :=
brB (decide (x1 > (0 : Int))) (let v28 : Int := (IntKind.i64.wrap (x1 - (1 : Int)))
if 0 ≤ v28 ∧ v28 < (x0.length : Int) then
(S43 (x0.getD v28.toNat ((0 : Int), ((0 : Int), ([], ()))))).bind fun r29 =>
k0 x0 x1 r29
else none) (k0 x0 x1 false)
theorem ng14_2 {R R2 : Type} (S43 : D195 → Option (Bool)) (x0 : D196) (x1 : Int) (k0 : D196 → Int → Bool → Option R) (h : R → Option R2) : ((g14_2 S43 x0 x1 k0)).bind h = (g14_2 S43 x0 x1 (fun y0 y1 y2 => (k0 y0 y1 y2).bind h)) := by
  simp only [g14_2, bind_brB, bind_ite, bind_none', Option.bind_assoc]
theorem t14_2 {N : Nat} {cl : Cal} (S43 : D195 → Option (Bool)) (h43 : (ctr43 S43).holds cl) {R : Type} (K : KE R) (x0 : D196) (x1 : Int) : exec cl N c14_2 [(0, .v T1914 x0), (3, .v T192 x1)] K = (g14_2 S43 x0 x1 (fun y0 y1 y2 => K .normal [(0, .v T1914 y0), (3, .v T192 y1), (6, .v .bool y2)])) := by
  rw [← put_eq h43]
  kernel_rfl
def g14_3 {R : Type} (x0 : D196) (x1 : Int) (x2 : Bool) (k0 : Int → Option R) : Option R :=
k0 (1 : Int)
theorem ng14_3 {R R2 : Type} (x0 : D196) (x1 : Int) (x2 : Bool) (k0 : Int → Option R) (h : R → Option R2) : ((g14_3 x0 x1 x2 k0)).bind h = (g14_3 x0 x1 x2 (fun y0 => (k0 y0).bind h)) := by
  simp only [g14_3, bind_brB, bind_ite, bind_none', Option.bind_assoc]
theorem t14_3 {N : Nat} {cl : Cal} {R : Type} (K : KE R) (x0 : D196) (x1 : Int) (x2 : Bool) : exec cl N c14_3 [(0, .v T1914 x0), (3, .v T192 x1), (6, .v .bool x2)] K = (g14_3 x0 x1 x2 (fun y0 => K .normal [(2, .v T192 y0)])) := by
  kernel_rfl
theorem kp14_0 (x0 : Int) : keep [2] [(2, .v T192 x0)] = [(2, .v T192 x0)] := by kernel_rfl
def g14_4 {R : Type} (S43 : D195 → Option (Bool)) (x0 : D196) (x1 : Int) (x2 : Bool) (k0 : Bool → Option R) : Option R :=
brB (decide (x1 > (1 : Int))) (let v31 : Int := (IntKind.i64.wrap (x1 - (2 : Int)))
if 0 ≤ v31 ∧ v31 < (x0.length : Int) then
(S43 (x0.getD v31.toNat ((0 : Int), ((0 : Int), ([], ()))))).bind fun r32 =>
brB r32 (let v33 : Int := (IntKind.i64.wrap (x1 - (1 : Int)))
if 0 ≤ v33 ∧ v33 < (x0.length : Int) then
brB ((x0.getD v33.toNat ((0 : Int), ((0 : Int), ([], ())))).1 == (5 : Int)) (let v35 : Int := (IntKind.i64.wrap (x1 - (1 : Int)))
if 0 ≤ v35 ∧ v35 < (x0.length : Int) then
k0 ((x0.getD v35.toNat ((0 : Int), ((0 : Int), ([], ())))).2.2.1 == ([109] : List UInt8))
else none) (k0 false)
else none) (k0 false)
else none) (k0 false)
theorem ng14_4 {R R2 : Type} (S43 : D195 → Option (Bool)) (x0 : D196) (x1 : Int) (x2 : Bool) (k0 : Bool → Option R) (h : R → Option R2) : ((g14_4 S43 x0 x1 x2 k0)).bind h = (g14_4 S43 x0 x1 x2 (fun y0 => (k0 y0).bind h)) := by
  simp only [g14_4, bind_brB, bind_ite, bind_none', Option.bind_assoc]
theorem t14_4 {N : Nat} {cl : Cal} (S43 : D195 → Option (Bool)) (h43 : (ctr43 S43).holds cl) {R : Type} (K : KE R) (x0 : D196) (x1 : Int) (x2 : Bool) : exec cl N c14_4 [(0, .v T1914 x0), (3, .v T192 x1), (6, .v .bool x2)] K = (g14_4 S43 x0 x1 x2 (fun y0 => K .normal [(17, .v .bool y0)])) := by
  rw [← put_eq h43]
  kernel_rfl
def g14_5 {R : Type} (x0 : Bool) (k0 : Int → Option R) : Option R :=
k0 (2 : Int)
theorem ng14_5 {R R2 : Type} (x0 : Bool) (k0 : Int → Option R) (h : R → Option R2) : ((g14_5 x0 k0)).bind h = (g14_5 x0 (fun y0 => (k0 y0).bind h)) := by
  simp only [g14_5, bind_brB, bind_ite, bind_none', Option.bind_assoc]
theorem t14_5 {N : Nat} {cl : Cal} {R : Type} (K : KE R) (x0 : Bool) : exec cl N c14_5 [(17, .v .bool x0)] K = (g14_5 x0 (fun y0 => K .normal [(2, .v T192 y0)])) := by
  kernel_rfl
theorem kp14_1 (x0 : Bool) : keep [2] [(17, .v .bool x0)] = [(2, .dead)] := by kernel_rfl
theorem hb14_0 (x0 : Bool) : boolOf? (ent [(17, .v .bool x0)] (.t 17)) = some x0 := by kernel_rfl
theorem kp14_2 : keep [2] [(2, .dead)] = [(2, .dead)] := by kernel_rfl
theorem hb14_1 (x0 : D196) (x1 : Int) (x2 : Bool) : boolOf? (ent [(0, .v T1914 x0), (3, .v T192 x1), (6, .v .bool x2)] (.t 6)) = some x2 := by kernel_rfl
def g14_9 {R : Type} (k0 : Int → Option R) : Option R :=
k0 (0 : Int)
theorem ng14_9 {R R2 : Type} (k0 : Int → Option R) (h : R → Option R2) : ((g14_9 k0)).bind h = (g14_9 (fun y0 => (k0 y0).bind h)) := by
  simp only [g14_9, bind_brB, bind_ite, bind_none', Option.bind_assoc]
theorem t14_9 {N : Nat} {cl : Cal} {R : Type} (K : KE R) : exec cl N c14_9 [(2, .dead)] K = (g14_9 (fun y0 => K .normal [(2, .v T192 y0)])) := by
  kernel_rfl
def g14_10 {R : Type} (S43 : D195 → Option (Bool)) (x0 : D196) (k0 : Int → Option R) : Option R :=
(g14_0 x0 (fun y0 => (g14_1 y0 (fun y0 y1 => (g14_2 S43 y0 y1 (fun y0 y1 y2 => brB y2 (g14_3 y0 y1 y2 (fun y0 => ((fun y0 => (k0 y0)) y0))) (g14_4 S43 y0 y1 y2 (fun y0 => brB y0 (g14_5 y0 (fun y0 => ((fun y0 => (k0 y0)) y0))) (g14_9 (fun y0 => (k0 y0)))))))))))
theorem ng14_10 {R R2 : Type} (S43 : D195 → Option (Bool)) (x0 : D196) (k0 : Int → Option R) (h : R → Option R2) : ((g14_10 S43 x0 k0)).bind h = (g14_10 S43 x0 (fun y0 => (k0 y0).bind h)) := by
  simp only [g14_10, ng14_0, ng14_1, ng14_2, ng14_3, ng14_4, ng14_5, ng14_9, bind_brB, bind_ite, bind_none', Option.bind_assoc]
theorem t14_10 {N : Nat} {cl : Cal} (S43 : D195 → Option (Bool)) (h43 : (ctr43 S43).holds cl) {R : Type} (K : KE R) (x0 : D196) : exec cl N c14_10 [(0, .v T1914 x0)] K = (g14_10 S43 x0 (fun y0 => K .ret [(2, .v T192 y0)])) := by
  simp only [c14_10, exec_seq, seqK_normal, seqK_exit, seqK_ret, t14_0, t14_1, c14_8, exec_out, exec_block, t14_2 S43 h43, c14_7, exec_cond', hb14_1, Option.bind_some, brB_true, brB_false, t14_3, exec_ret, t14_4 S43 h43, c14_6, hb14_0, t14_5, exec_skip, kp14_0, kp14_1, kp14_2, blockK_normal, blockK_ret, blockK_eq, t14_9]
  rfl

theorem rk14_0 (y0 : Int) : retK d14 .ret [(2, .v T192 y0)] = some [.v T192 y0] := by kernel_rfl
def g14 {R : Type} (S43 : D195 → Option (Bool)) (x0 : D196) (k : Int → Option R) : Option R :=
(g14_10 S43 x0 (fun y0 => k y0))
theorem gen14 {N : Nat} {cl : Cal} (S43 : D195 → Option (Bool)) (h43 : (ctr43 S43).holds cl) (x0 : D196) : exec cl N c14 (params 0 [.v T1914 x0]) (retK d14) = g14 S43 x0 (fun (r0 : Int) => some [.v T192 r0]) := by
  have e0 : params 0 [.v T1914 x0] = [(0, .v T1914 x0)] := by kernel_rfl
  simp only [c14, e0, t14_10 S43 h43, rk14_0]
  rfl

def ctr14 (S : D196 → Option (Int)) : Ctr := { A := D196 × Unit, B := Int, f := 14, enc := fun a => [.v T1914 a.1], dec := (decC (decV T1914) dec0), S := fun a => S a.1, ent := fun b => [.v T192 b], ok := (decV_cons (T := T1914) (fun es b h => dec0_some h)) }
def S14 (N : Nat) (x0 : D196) : Option (Int) := g14 (S43 N) x0 (fun (r0 : Int) => some (r0))
theorem ng14 {R R2 : Type} (S43 : D195 → Option (Bool)) (x0 : D196) (k : Int → Option R) (h : R → Option R2) : (g14 S43 x0 k).bind h = g14 S43 x0 (fun (r0 : Int) => (k r0).bind h) := by
  simp only [g14, ng14_10]
-- anceps/ancepsref11.Nucleus
def g45_0 {R : Type} (x0 : D195) (k0 : D195 → Option R) : Option R :=
k0 x0
theorem ng45_0 {R R2 : Type} (x0 : D195) (k0 : D195 → Option R) (h : R → Option R2) : ((g45_0 x0 k0)).bind h = (g45_0 x0 (fun y0 => (k0 y0).bind h)) := by
  simp only [g45_0, bind_brB, bind_ite, bind_none', Option.bind_assoc]
theorem t45_0 {N : Nat} {cl : Cal} {R : Type} (K : KE R) (x0 : D195) : exec cl N c45_0 [(0, .v T1911 x0)] K = (g45_0 x0 (fun y0 => K .normal [(1, .loc T1911 .no y0)])) := by
  kernel_rfl
def g45_1 {R : Type} (x0 : D195) (k0 : Bool → Option R) : Option R :=
brB (x0.1 == (1 : Int)) (k0 true) (k0 (x0.1 == (2 : Int)))
theorem ng45_1 {R R2 : Type} (x0 : D195) (k0 : Bool → Option R) (h : R → Option R2) : ((g45_1 x0 k0)).bind h = (g45_1 x0 (fun y0 => (k0 y0).bind h)) := by
  simp only [g45_1, bind_brB, bind_ite, bind_none', Option.bind_assoc]
theorem t45_1 {N : Nat} {cl : Cal} {R : Type} (K : KE R) (x0 : D195) : exec cl N c45_1 [(1, .loc T1911 .no x0)] K = (g45_1 x0 (fun y0 => K .normal [(2, .v .bool y0)])) := by
  kernel_rfl
def g45_2 {R : Type} (x0 : D195) (k0 : Bool → Option R) : Option R :=
(g45_0 x0 (fun y0 => (g45_1 y0 (fun y0 => (k0 y0)))))
theorem ng45_2 {R R2 : Type} (x0 : D195) (k0 : Bool → Option R) (h : R → Option R2) : ((g45_2 x0 k0)).bind h = (g45_2 x0 (fun y0 => (k0 y0).bind h)) := by
  simp only [g45_2, ng45_0, ng45_1, bind_brB, bind_ite, bind_none', Option.bind_assoc]
theorem t45_2 {N : Nat} {cl : Cal} {R : Type} (K : KE R) (x0 : D195) : exec cl N c45_2 [(0, .v T1911 x0)] K = (g45_2 x0 (fun y0 => K .ret [(2, .v .bool y0)])) := by
  simp only [c45_2, exec_seq, seqK_normal, seqK_exit, seqK_ret, t45_0, t45_1, exec_ret]
  rfl

theorem rk45_0 (y0 : Bool) : retK d45 .ret [(2, .v .bool y0)] = some [.v .bool y0] := by kernel_rfl
def g45 {R : Type} (x0 : D195) (k : Bool → Option R) : Option R :=
(g45_2 x0 (fun y0 => k y0))
theorem gen45 {N : Nat} {cl : Cal} (x0 : D195) : exec cl N c45 (params 0 [.v T1911 x0]) (retK d45) = g45 x0 (fun (r0 : Bool) => some [.v .bool r0]) := by
  have e0 : params 0 [.v T1911 x0] = [(0, .v T1911 x0)] := by kernel_rfl
  simp only [c45, e0, t45_2, rk45_0]
  rfl

def ctr45 (S : D195 → Option (Bool)) : Ctr := { A := D195 × Unit, B := Bool, f := 45, enc := fun a => [.v T1911 a.1], dec := (decC (decV T1911) dec0), S := fun a => S a.1, ent := fun b => [.v .bool b], ok := (decV_cons (T := T1911) (fun es b h => dec0_some h)) }
def S45 (N : Nat) (x0 : D195) : Option (Bool) := g45 x0 (fun (r0 : Bool) => some (r0))
theorem ng45 {R R2 : Type} (x0 : D195) (k : Bool → Option R) (h : R → Option R2) : (g45 x0 k).bind h = g45 x0 (fun (r0 : Bool) => (k r0).bind h) := by
  simp only [g45, ng45_2]
-- anceps/ancepsref19.Ends
def g24_0 {R : Type} (x0 : D196) (k0 : D196 → Option R) : Option R :=
k0 x0
theorem ng24_0 {R R2 : Type} (x0 : D196) (k0 : D196 → Option R) (h : R → Option R2) : ((g24_0 x0 k0)).bind h = (g24_0 x0 (fun y0 => (k0 y0).bind h)) := by
  simp only [g24_0, bind_brB, bind_ite, bind_none', Option.bind_assoc]
theorem t24_0 {N : Nat} {cl : Cal} {R : Type} (K : KE R) (x0 : D196) : exec cl N c24_0 [(0, .v T1914 x0)] K = (g24_0 x0 (fun y0 => K .normal [(0, .v T1914 y0)])) := by
  kernel_rfl
def g24_1 {R : Type} (x0 : D196) (k0 : D196 → Int → Option R) : Option R :=
k0 x0 (x0.length : Int)
theorem ng24_1 {R R2 : Type} (x0 : D196) (k0 : D196 → Int → Option R) (h : R → Option R2) : ((g24_1 x0 k0)).bind h = (g24_1 x0 (fun y0 y1 => (k0 y0 y1).bind h)) := by
  simp only [g24_1, bind_brB, bind_ite, bind_none', Option.bind_assoc]
theorem t24_1 {N : Nat} {cl : Cal} {R : Type} (K : KE R) (x0 : D196) : exec cl N c24_1 [(0, .v T1914 x0)] K = (g24_1 x0 (fun y0 y1 => K .normal [(0, .v T1914 y0), (3, .v T192 y1)])) := by
  kernel_rfl
def g24_2 {R : Type} (S45 : D195 → Option (Bool)) (x0 : D196) (x1 : Int) (k0 : D196 → Int → Bool → Option R) : Option R :=
brB (decide (x1 > (0 : Int))) (let v53 : Int := (IntKind.i64.wrap (x1 - (1 : Int)))
if 0 ≤ v53 ∧ v53 < (x0.length : Int) then
(S45 (x0.getD v53.toNat ((0 : Int), ((0 : Int), ([], ()))))).bind fun r54 =>
k0 x0 x1 r54
else none) (k0 x0 x1 false)
theorem ng24_2 {R R2 : Type} (S45 : D195 → Option (Bool)) (x0 : D196) (x1 : Int) (k0 : D196 → Int → Bool → Option R) (h : R → Option R2) : ((g24_2 S45 x0 x1 k0)).bind h = (g24_2 S45 x0 x1 (fun y0 y1 y2 => (k0 y0 y1 y2).bind h)) := by
  simp only [g24_2, bind_brB, bind_ite, bind_none', Option.bind_assoc]
theorem t24_2 {N : Nat} {cl : Cal} (S45 : D195 → Option (Bool)) (h45 : (ctr45 S45).holds cl) {R : Type} (K : KE R) (x0 : D196) (x1 : Int) : exec cl N c24_2 [(0, .v T1914 x0), (3, .v T192 x1)] K = (g24_2 S45 x0 x1 (fun y0 y1 y2 => K .normal [(0, .v T1914 y0), (3, .v T192 y1), (15, .v .bool y2)])) := by
  rw [← put_eq h45]
  kernel_rfl
def g24_3 {R : Type} (x0 : D196) (x1 : Int) (x2 : Bool) (k0 : Int → Option R) : Option R :=
k0 (1 : Int)
theorem ng24_3 {R R2 : Type} (x0 : D196) (x1 : Int) (x2 : Bool) (k0 : Int → Option R) (h : R → Option R2) : ((g24_3 x0 x1 x2 k0)).bind h = (g24_3 x0 x1 x2 (fun y0 => (k0 y0).bind h)) := by
  simp only [g24_3, bind_brB, bind_ite, bind_none', Option.bind_assoc]
theorem t24_3 {N : Nat} {cl : Cal} {R : Type} (K : KE R) (x0 : D196) (x1 : Int) (x2 : Bool) : exec cl N c24_3 [(0, .v T1914 x0), (3, .v T192 x1), (15, .v .bool x2)] K = (g24_3 x0 x1 x2 (fun y0 => K .normal [(2, .v T192 y0)])) := by
  kernel_rfl
theorem kp24_0 (x0 : Int) : keep [0, 2, 3] [(2, .v T192 x0)] = [(0, .dead), (2, .v T192 x0), (3, .dead)] := by kernel_rfl
theorem kp24_1 (x0 : D196) (x1 : Int) (x2 : Bool) : keep [0, 2, 3] [(0, .v T1914 x0), (3, .v T192 x1), (15, .v .bool x2)] = [(0, .v T1914 x0), (2, .dead), (3, .v T192 x1)] := by kernel_rfl
theorem hb24_0 (x0 : D196) (x1 : Int) (x2 : Bool) : boolOf? (ent [(0, .v T1914 x0), (3, .v T192 x1), (15, .v .bool x2)] (.t 15)) = some x2 := by kernel_rfl
def g24_5 {R : Type} (S45 : D195 → Option (Bool)) (x0 : D196) (x1 : Int) (k0 : Bool → Option R) : Option R :=
brB (decide (x1 > (1 : Int))) (let v56 : Int := (IntKind.i64.wrap (x1 - (2 : Int)))
if 0 ≤ v56 ∧ v56 < (x0.length : Int) then
(S45 (x0.getD v56.toNat ((0 : Int), ((0 : Int), ([], ()))))).bind fun r57 =>
brB r57 (let v58 : Int := (IntKind.i64.wrap (x1 - (1 : Int)))
if 0 ≤ v58 ∧ v58 < (x0.length : Int) then
brB ((x0.getD v58.toNat ((0 : Int), ((0 : Int), ([], ())))).1 == (5 : Int)) (let v60 : Int := (IntKind.i64.wrap (x1 - (1 : Int)))
if 0 ≤ v60 ∧ v60 < (x0.length : Int) then
k0 ((x0.getD v60.toNat ((0 : Int), ((0 : Int), ([], ())))).2.2.1 == ([109] : List UInt8))
else none) (k0 false)
else none) (k0 false)
else none) (k0 false)
theorem ng24_5 {R R2 : Type} (S45 : D195 → Option (Bool)) (x0 : D196) (x1 : Int) (k0 : Bool → Option R) (h : R → Option R2) : ((g24_5 S45 x0 x1 k0)).bind h = (g24_5 S45 x0 x1 (fun y0 => (k0 y0).bind h)) := by
  simp only [g24_5, bind_brB, bind_ite, bind_none', Option.bind_assoc]
theorem t24_5 {N : Nat} {cl : Cal} (S45 : D195 → Option (Bool)) (h45 : (ctr45 S45).holds cl) {R : Type} (K : KE R) (x0 : D196) (x1 : Int) : exec cl N c24_5 [(0, .v T1914 x0), (2, .dead), (3, .v T192 x1)] K = (g24_5 S45 x0 x1 (fun y0 => K .normal [(43, .v .bool y0)])) := by
  rw [← put_eq h45]
  kernel_rfl
def g24_6 {R : Type} (x0 : Bool) (k0 : Int → Option R) : Option R :=
k0 (2 : Int)
theorem ng24_6 {R R2 : Type} (x0 : Bool) (k0 : Int → Option R) (h : R → Option R2) : ((g24_6 x0 k0)).bind h = (g24_6 x0 (fun y0 => (k0 y0).bind h)) := by
  simp only [g24_6, bind_brB, bind_ite, bind_none', Option.bind_assoc]
theorem t24_6 {N : Nat} {cl : Cal} {R : Type} (K : KE R) (x0 : Bool) : exec cl N c24_6 [(43, .v .bool x0)] K = (g24_6 x0 (fun y0 => K .normal [(2, .v T192 y0)])) := by
  kernel_rfl
theorem kp24_2 (x0 : Int) : keep [2] [(2, .v T192 x0)] = [(2, .v T192 x0)] := by kernel_rfl
theorem kp24_3 (x0 : Bool) : keep [2] [(43, .v .bool x0)] = [(2, .dead)] := by kernel_rfl
theorem hb24_1 (x0 : Bool) : boolOf? (ent [(43, .v .bool x0)] (.t 43)) = some x0 := by kernel_rfl
def g24_8 {R : Type} (k0 : Int → Option R) : Option R :=
k0 (0 : Int)
theorem ng24_8 {R R2 : Type} (k0 : Int → Option R) (h : R → Option R2) : ((g24_8 k0)).bind h = (g24_8 (fun y0 => (k0 y0).bind h)) := by
  simp only [g24_8, bind_brB, bind_ite, bind_none', Option.bind_assoc]
theorem t24_8 {N : Nat} {cl : Cal} {R : Type} (K : KE R) : exec cl N c24_8 [(2, .dead)] K = (g24_8 (fun y0 => K .normal [(2, .v T192 y0)])) := by
  kernel_rfl
def g24_9 {R : Type} (S45 : D195 → Option (Bool)) (x0 : D196) (k0 : Int → Option R) (k1 : Int → Option R) : Option R :=
(g24_0 x0 (fun y0 => (g24_1 y0 (fun y0 y1 => (g24_2 S45 y0 y1 (fun y0 y1 y2 => brB y2 (g24_3 y0 y1 y2 (fun y0 => ((fun y0 => (k0 y0)) y0))) ((fun y0 y1 => (g24_5 S45 y0 y1 (fun y0 => brB y0 (g24_6 y0 (fun y0 => ((fun y0 => (k1 y0)) y0))) (g24_8 (fun y0 => (k1 y0)))))) y0 y1)))))))
theorem ng24_9 {R R2 : Type} (S45 : D195 → Option (Bool)) (x0 : D196) (k0 : Int → Option R) (k1 : Int → Option R) (h : R → Option R2) : ((g24_9 S45 x0 k0 k1)).bind h = (g24_9 S45 x0 (fun y0 => (k0 y0).bind h) (fun y0 => (k1 y0).bind h)) := by
  simp only [g24_9, ng24_0, ng24_1, ng24_2, ng24_3, ng24_5, ng24_6, ng24_8, bind_brB, bind_ite, bind_none', Option.bind_assoc]
theorem t24_9 {N : Nat} {cl : Cal} (S45 : D195 → Option (Bool)) (h45 : (ctr45 S45).holds cl) {R : Type} (K : KE R) (x0 : D196) : exec cl N c24_9 [(0, .v T1914 x0)] K = (g24_9 S45 x0 (fun y0 => K .ret [(0, .dead), (2, .v T192 y0), (3, .dead)]) (fun y0 => K .ret [(2, .v T192 y0)])) := by
  simp only [c24_9, exec_seq, seqK_normal, seqK_exit, seqK_ret, t24_0, t24_1, t24_2 S45 h45, c24_4, exec_out, exec_cond', hb24_0, Option.bind_some, brB_true, brB_false, t24_3, exec_ret, exec_skip, kp24_0, kp24_1, t24_5 S45 h45, c24_7, hb24_1, t24_6, kp24_2, kp24_3, t24_8]
  rfl

theorem rk24_0 (y0 : Int) : retK d24 .ret [(0, .dead), (2, .v T192 y0), (3, .dead)] = some [.v T192 y0] := by kernel_rfl
theorem rk24_1 (y0 : Int) : retK d24 .ret [(2, .v T192 y0)] = some [.v T192 y0] := by kernel_rfl
def g24 {R : Type} (S45 : D195 → Option (Bool)) (x0 : D196) (k : Int → Option R) : Option R :=
(g24_9 S45 x0 (fun y0 => k y0) (fun y0 => k y0))
theorem gen24 {N : Nat} {cl : Cal} (S45 : D195 → Option (Bool)) (h45 : (ctr45 S45).holds cl) (x0 : D196) : exec cl N c24 (params 0 [.v T1914 x0]) (retK d24) = g24 S45 x0 (fun (r0 : Int) => some [.v T192 r0]) := by
  have e0 : params 0 [.v T1914 x0] = [(0, .v T1914 x0)] := by kernel_rfl
  simp only [c24, e0, t24_9 S45 h45, rk24_0, rk24_1]
  rfl

def ctr24 (S : D196 → Option (Int)) : Ctr := { A := D196 × Unit, B := Int, f := 24, enc := fun a => [.v T1914 a.1], dec := (decC (decV T1914) dec0), S := fun a => S a.1, ent := fun b => [.v T192 b], ok := (decV_cons (T := T1914) (fun es b h => dec0_some h)) }
def S24 (N : Nat) (x0 : D196) : Option (Int) := g24 (S45 N) x0 (fun (r0 : Int) => some (r0))
theorem ng24 {R R2 : Type} (S45 : D195 → Option (Bool)) (x0 : D196) (k : Int → Option R) (h : R → Option R2) : (g24 S45 x0 k).bind h = g24 S45 x0 (fun (r0 : Int) => (k r0).bind h) := by
  simp only [g24, ng24_9]
-- anceps/junction.first$1
def g62_0 {R : Type} (x0 : D195) (k0 : D195 → Option R) : Option R :=
k0 x0
theorem ng62_0 {R R2 : Type} (x0 : D195) (k0 : D195 → Option R) (h : R → Option R2) : ((g62_0 x0 k0)).bind h = (g62_0 x0 (fun y0 => (k0 y0).bind h)) := by
  simp only [g62_0, bind_brB, bind_ite, bind_none', Option.bind_assoc]
theorem t62_0 {N : Nat} {cl : Cal} {R : Type} (K : KE R) (x0 : D195) : exec cl N c62_0 [(0, .v T1911 x0)] K = (g62_0 x0 (fun y0 => K .normal [(1, .loc T1911 .no y0)])) := by
  kernel_rfl
def g62_1 {R : Type} (x0 : D195) (k0 : Bool → Option R) : Option R :=
k0 (x0.1 != (9 : Int))
theorem ng62_1 {R R2 : Type} (x0 : D195) (k0 : Bool → Option R) (h : R → Option R2) : ((g62_1 x0 k0)).bind h = (g62_1 x0 (fun y0 => (k0 y0).bind h)) := by
  simp only [g62_1, bind_brB, bind_ite, bind_none', Option.bind_assoc]
theorem t62_1 {N : Nat} {cl : Cal} {R : Type} (K : KE R) (x0 : D195) : exec cl N c62_1 [(1, .loc T1911 .no x0)] K = (g62_1 x0 (fun y0 => K .normal [(2, .v .bool y0)])) := by
  kernel_rfl
def g62_2 {R : Type} (x0 : D195) (k0 : Bool → Option R) : Option R :=
(g62_0 x0 (fun y0 => (g62_1 y0 (fun y0 => (k0 y0)))))
theorem ng62_2 {R R2 : Type} (x0 : D195) (k0 : Bool → Option R) (h : R → Option R2) : ((g62_2 x0 k0)).bind h = (g62_2 x0 (fun y0 => (k0 y0).bind h)) := by
  simp only [g62_2, ng62_0, ng62_1, bind_brB, bind_ite, bind_none', Option.bind_assoc]
theorem t62_2 {N : Nat} {cl : Cal} {R : Type} (K : KE R) (x0 : D195) : exec cl N c62_2 [(0, .v T1911 x0)] K = (g62_2 x0 (fun y0 => K .ret [(2, .v .bool y0)])) := by
  simp only [c62_2, exec_seq, seqK_normal, seqK_exit, seqK_ret, t62_0, t62_1, exec_ret]
  rfl

theorem rk62_0 (y0 : Bool) : retK d62 .ret [(2, .v .bool y0)] = some [.v .bool y0] := by kernel_rfl
def g62 {R : Type} (x0 : D195) (k : Bool → Option R) : Option R :=
(g62_2 x0 (fun y0 => k y0))
theorem gen62 {N : Nat} {cl : Cal} (x0 : D195) : exec cl N c62 (params 0 [.v T1911 x0]) (retK d62) = g62 x0 (fun (r0 : Bool) => some [.v .bool r0]) := by
  have e0 : params 0 [.v T1911 x0] = [(0, .v T1911 x0)] := by kernel_rfl
  simp only [c62, e0, t62_2, rk62_0]
  rfl

def ctr62 (S : D195 → Option (Bool)) : Ctr := { A := D195 × Unit, B := Bool, f := 62, enc := fun a => [.v T1911 a.1], dec := (decC (decV T1911) dec0), S := fun a => S a.1, ent := fun b => [.v .bool b], ok := (decV_cons (T := T1911) (fun es b h => dec0_some h)) }
def S62 (N : Nat) (x0 : D195) : Option (Bool) := g62 x0 (fun (r0 : Bool) => some (r0))
theorem ng62 {R R2 : Type} (x0 : D195) (k : Bool → Option R) (h : R → Option R2) : (g62 x0 k).bind h = g62 x0 (fun (r0 : Bool) => (k r0).bind h) := by
  simp only [g62, ng62_2]
-- slices.IndexFunc[[]anceps/api.Sound,anceps/api.Sound]
def g61_0 {R : Type} (x0 : D196) (x1 : D198) (k0 : D196 → D198 → Option R) : Option R :=
k0 x0 x1
theorem ng61_0 {R R2 : Type} (x0 : D196) (x1 : D198) (k0 : D196 → D198 → Option R) (h : R → Option R2) : ((g61_0 x0 x1 k0)).bind h = (g61_0 x0 x1 (fun y0 y1 => (k0 y0 y1).bind h)) := by
  simp only [g61_0, bind_brB, bind_ite, bind_none', Option.bind_assoc]
theorem t61_0 {N : Nat} {cl : Cal} {R : Type} (K : KE R) (x0 : D196) (x1 : D198) : exec cl N c61_0 [(0, .v T1914 x0), (1, .v T1918 x1)] K = (g61_0 x0 x1 (fun y0 y1 => K .normal [(0, .v T1914 y0), (1, .v T1918 y1)])) := by
  kernel_rfl
def g61_1 {R : Type} (x0 : D196) (x1 : D198) (k0 : D196 → D198 → Int → Int → Option R) : Option R :=
k0 x0 x1 (x0.length : Int) (0 : Int)
theorem ng61_1 {R R2 : Type} (x0 : D196) (x1 : D198) (k0 : D196 → D198 → Int → Int → Option R) (h : R → Option R2) : ((g61_1 x0 x1 k0)).bind h = (g61_1 x0 x1 (fun y0 y1 y2 y3 => (k0 y0 y1 y2 y3).bind h)) := by
  simp only [g61_1, bind_brB, bind_ite, bind_none', Option.bind_assoc]
theorem t61_1 {N : Nat} {cl : Cal} {R : Type} (K : KE R) (x0 : D196) (x1 : D198) : exec cl N c61_1 [(0, .v T1914 x0), (1, .v T1918 x1)] K = (g61_1 x0 x1 (fun y0 y1 y2 y3 => K .normal [(0, .v T1914 y0), (1, .v T1918 y1), (7, .v T192 y2), (8, .v T192 y3)])) := by
  kernel_rfl
theorem kp61_0 (x0 : D196) (x1 : D198) (x2 : Int) (x3 : Int) : keep [0, 1, 7, 8] [(0, .v T1914 x0), (1, .v T1918 x1), (7, .v T192 x2), (8, .v T192 x3)] = [(0, .v T1914 x0), (1, .v T1918 x1), (7, .v T192 x2), (8, .v T192 x3)] := by kernel_rfl
def g61_2 {R : Type} (x0 : D196) (x1 : D198) (x2 : Int) (x3 : Int) (k0 : D196 → D198 → Int → Int → Bool → Option R) : Option R :=
k0 x0 x1 x2 x3 (decide (x3 < x2))
theorem ng61_2 {R R2 : Type} (x0 : D196) (x1 : D198) (x2 : Int) (x3 : Int) (k0 : D196 → D198 → Int → Int → Bool → Option R) (h : R → Option R2) : ((g61_2 x0 x1 x2 x3 k0)).bind h = (g61_2 x0 x1 x2 x3 (fun y0 y1 y2 y3 y4 => (k0 y0 y1 y2 y3 y4).bind h)) := by
  simp only [g61_2, bind_brB, bind_ite, bind_none', Option.bind_assoc]
theorem t61_2 {N : Nat} {cl : Cal} {R : Type} (K : KE R) (x0 : D196) (x1 : D198) (x2 : Int) (x3 : Int) : exec cl N c61_2 [(0, .v T1914 x0), (1, .v T1918 x1), (7, .v T192 x2), (8, .v T192 x3)] K = (g61_2 x0 x1 x2 x3 (fun y0 y1 y2 y3 y4 => K .normal [(0, .v T1914 y0), (1, .v T1918 y1), (7, .v T192 y2), (8, .v T192 y3), (9, .v .bool y4)])) := by
  kernel_rfl
theorem kp61_1 (x0 : D196) (x1 : D198) (x2 : Int) (x3 : Int) (x4 : Bool) : keep [0, 1, 7, 8] [(0, .v T1914 x0), (1, .v T1918 x1), (7, .v T192 x2), (8, .v T192 x3), (9, .v .bool x4)] = [(0, .v T1914 x0), (1, .v T1918 x1), (7, .v T192 x2), (8, .v T192 x3)] := by kernel_rfl
theorem hb61_0 (x0 : D196) (x1 : D198) (x2 : Int) (x3 : Int) (x4 : Bool) : boolOf? (ent [(0, .v T1914 x0), (1, .v T1918 x1), (7, .v T192 x2), (8, .v T192 x3), (9, .v .bool x4)] (.t 9)) = some x4 := by kernel_rfl
def g61_4 {R : Type} (x0 : D196) (x1 : D198) (x2 : Int) (x3 : Int) (k0 : D196 → D198 → Int → Int → Int → Option R) : Option R :=
k0 x0 x1 x3 x2 x3
theorem ng61_4 {R R2 : Type} (x0 : D196) (x1 : D198) (x2 : Int) (x3 : Int) (k0 : D196 → D198 → Int → Int → Int → Option R) (h : R → Option R2) : ((g61_4 x0 x1 x2 x3 k0)).bind h = (g61_4 x0 x1 x2 x3 (fun y0 y1 y2 y3 y4 => (k0 y0 y1 y2 y3 y4).bind h)) := by
  simp only [g61_4, bind_brB, bind_ite, bind_none', Option.bind_assoc]
theorem t61_4 {N : Nat} {cl : Cal} {R : Type} (K : KE R) (x0 : D196) (x1 : D198) (x2 : Int) (x3 : Int) : exec cl N c61_4 [(0, .v T1914 x0), (1, .v T1918 x1), (7, .v T192 x2), (8, .v T192 x3)] K = (g61_4 x0 x1 x2 x3 (fun y0 y1 y2 y3 y4 => K .normal [(0, .v T1914 y0), (1, .v T1918 y1), (5, .v T192 y2), (7, .v T192 y3), (8, .v T192 y4)])) := by
  kernel_rfl
def g61_5 {R : Type} (x0 : D196) (x1 : D198) (x2 : Int) (x3 : Int) (x4 : Int) (k0 : D196 → D198 → Int → Int → Int → Bool → Option R) : Option R :=
if 0 ≤ x2 ∧ x2 < (x0.length : Int) then
(x1 ((x0.getD x2.toNat ((0 : Int), ((0 : Int), ([], ())))), ())).bind fun r72 =>
k0 x0 x1 x2 x3 x4 r72
else none
theorem ng61_5 {R R2 : Type} (x0 : D196) (x1 : D198) (x2 : Int) (x3 : Int) (x4 : Int) (k0 : D196 → D198 → Int → Int → Int → Bool → Option R) (h : R → Option R2) : ((g61_5 x0 x1 x2 x3 x4 k0)).bind h = (g61_5 x0 x1 x2 x3 x4 (fun y0 y1 y2 y3 y4 y5 => (k0 y0 y1 y2 y3 y4 y5).bind h)) := by
  simp only [g61_5, bind_brB, bind_ite, bind_none', Option.bind_assoc]
theorem t61_5 {N : Nat} {cl : Cal} {R : Type} (K : KE R) (x0 : D196) (x1 : D198) (x2 : Int) (x3 : Int) (x4 : Int) : exec cl N c61_5 [(0, .v T1914 x0), (1, .v T1918 x1), (5, .v T192 x2), (7, .v T192 x3), (8, .v T192 x4)] K = (g61_5 x0 x1 x2 x3 x4 (fun y0 y1 y2 y3 y4 y5 => K .normal [(0, .v T1914 y0), (1, .v T1918 y1), (5, .v T192 y2), (7, .v T192 y3), (8, .v T192 y4), (16, .v .bool y5)])) := by
  kernel_rfl
def g61_6 {R : Type} (x0 : D196) (x1 : D198) (x2 : Int) (x3 : Int) (x4 : Int) (x5 : Bool) (k0 : Int → Option R) : Option R :=
k0 x2
theorem ng61_6 {R R2 : Type} (x0 : D196) (x1 : D198) (x2 : Int) (x3 : Int) (x4 : Int) (x5 : Bool) (k0 : Int → Option R) (h : R → Option R2) : ((g61_6 x0 x1 x2 x3 x4 x5 k0)).bind h = (g61_6 x0 x1 x2 x3 x4 x5 (fun y0 => (k0 y0).bind h)) := by
  simp only [g61_6, bind_brB, bind_ite, bind_none', Option.bind_assoc]
theorem t61_6 {N : Nat} {cl : Cal} {R : Type} (K : KE R) (x0 : D196) (x1 : D198) (x2 : Int) (x3 : Int) (x4 : Int) (x5 : Bool) : exec cl N c61_6 [(0, .v T1914 x0), (1, .v T1918 x1), (5, .v T192 x2), (7, .v T192 x3), (8, .v T192 x4), (16, .v .bool x5)] K = (g61_6 x0 x1 x2 x3 x4 x5 (fun y0 => K .normal [(4, .v T192 y0)])) := by
  kernel_rfl
theorem kp61_2 (x0 : Int) : keep [0, 1, 4, 7, 8] [(4, .v T192 x0)] = [(0, .dead), (1, .dead), (4, .v T192 x0), (7, .dead), (8, .dead)] := by kernel_rfl
theorem kp61_3 (x0 : D196) (x1 : D198) (x2 : Int) (x3 : Int) (x4 : Int) (x5 : Bool) : keep [0, 1, 4, 7, 8] [(0, .v T1914 x0), (1, .v T1918 x1), (5, .v T192 x2), (7, .v T192 x3), (8, .v T192 x4), (16, .v .bool x5)] = [(0, .v T1914 x0), (1, .v T1918 x1), (4, .dead), (7, .v T192 x3), (8, .v T192 x4)] := by kernel_rfl
theorem hb61_1 (x0 : D196) (x1 : D198) (x2 : Int) (x3 : Int) (x4 : Int) (x5 : Bool) : boolOf? (ent [(0, .v T1914 x0), (1, .v T1918 x1), (5, .v T192 x2), (7, .v T192 x3), (8, .v T192 x4), (16, .v .bool x5)] (.t 16)) = some x5 := by kernel_rfl
theorem kp61_4 (x0 : Int) : keep [0, 1, 4, 7, 8] [(0, .dead), (1, .dead), (4, .v T192 x0), (7, .dead), (8, .dead)] = [(0, .dead), (1, .dead), (4, .v T192 x0), (7, .dead), (8, .dead)] := by kernel_rfl
theorem kp61_5 (x0 : D196) (x1 : D198) (x2 : Int) (x3 : Int) : keep [0, 1, 4, 7, 8] [(0, .v T1914 x0), (1, .v T1918 x1), (4, .dead), (7, .v T192 x2), (8, .v T192 x3)] = [(0, .v T1914 x0), (1, .v T1918 x1), (4, .dead), (7, .v T192 x2), (8, .v T192 x3)] := by kernel_rfl
def g61_9 {R : Type} (x0 : D196) (x1 : D198) (x2 : Int) (x3 : Int) (k0 : D196 → D198 → Int → Int → Option R) : Option R :=
k0 x0 x1 x2 (IntKind.i64.wrap (x3 + (1 : Int)))
theorem ng61_9 {R R2 : Type} (x0 : D196) (x1 : D198) (x2 : Int) (x3 : Int) (k0 : D196 → D198 → Int → Int → Option R) (h : R → Option R2) : ((g61_9 x0 x1 x2 x3 k0)).bind h = (g61_9 x0 x1 x2 x3 (fun y0 y1 y2 y3 => (k0 y0 y1 y2 y3).bind h)) := by
  simp only [g61_9, bind_brB, bind_ite, bind_none', Option.bind_assoc]
theorem t61_9 {N : Nat} {cl : Cal} {R : Type} (K : KE R) (x0 : D196) (x1 : D198) (x2 : Int) (x3 : Int) : exec cl N c61_9 [(0, .v T1914 x0), (1, .v T1918 x1), (4, .dead), (7, .v T192 x2), (8, .v T192 x3)] K = (g61_9 x0 x1 x2 x3 (fun y0 y1 y2 y3 => K .normal [(0, .v T1914 y0), (1, .v T1918 y1), (7, .v T192 y2), (8, .v T192 y3)])) := by
  kernel_rfl
def g61_10 {R : Type} (x0 : D196) (x1 : D198) (x2 : Int) (x3 : Int) (k0 : Int → Option R) (k1 : D196 → D198 → Int → Int → Option R) (k2 : D196 → D198 → Int → Int → Option R) : Option R :=
(g61_2 x0 x1 x2 x3 (fun y0 y1 y2 y3 y4 => brB y4 ((fun y0 y1 y2 y3 => (g61_4 y0 y1 y2 y3 (fun y0 y1 y2 y3 y4 => (g61_5 y0 y1 y2 y3 y4 (fun y0 y1 y2 y3 y4 y5 => brB y5 (g61_6 y0 y1 y2 y3 y4 y5 (fun y0 => ((fun y0 => (k0 y0)) y0))) (g61_9 y0 y1 y3 y4 k1)))))) y0 y1 y2 y3) (k2 y0 y1 y2 y3)))
theorem ng61_10 {R R2 : Type} (x0 : D196) (x1 : D198) (x2 : Int) (x3 : Int) (k0 : Int → Option R) (k1 : D196 → D198 → Int → Int → Option R) (k2 : D196 → D198 → Int → Int → Option R) (h : R → Option R2) : ((g61_10 x0 x1 x2 x3 k0 k1 k2)).bind h = (g61_10 x0 x1 x2 x3 (fun y0 => (k0 y0).bind h) (fun y0 y1 y2 y3 => (k1 y0 y1 y2 y3).bind h) (fun y0 y1 y2 y3 => (k2 y0 y1 y2 y3).bind h)) := by
  simp only [g61_10, ng61_2, ng61_4, ng61_5, ng61_6, ng61_9, bind_brB, bind_ite, bind_none', Option.bind_assoc]
theorem t61_10 {N : Nat} {cl : Cal} {R : Type} (K : KE R) (x0 : D196) (x1 : D198) (x2 : Int) (x3 : Int) : exec cl N c61_10 [(0, .v T1914 x0), (1, .v T1918 x1), (7, .v T192 x2), (8, .v T192 x3)] K = (g61_10 x0 x1 x2 x3 (fun y0 => K .ret [(0, .dead), (1, .dead), (4, .v T192 y0), (7, .dead), (8, .dead)]) (fun y0 y1 y2 y3 => K .normal [(0, .v T1914 y0), (1, .v T1918 y1), (7, .v T192 y2), (8, .v T192 y3)]) (fun y0 y1 y2 y3 => K (.exit 0) [(0, .v T1914 y0), (1, .v T1918 y1), (7, .v T192 y2), (8, .v T192 y3)])) := by
  simp only [c61_10, exec_seq, seqK_normal, seqK_exit, seqK_ret, t61_2, c61_3, exec_out, exec_cond', hb61_0, Option.bind_some, brB_true, brB_false, exec_skip, exec_exit, kp61_1, c61_8, exec_block, t61_4, t61_5, c61_7, hb61_1, t61_6, exec_ret, kp61_2, kp61_3, blockK_normal, blockK_ret, blockK_eq, kp61_4, kp61_5, t61_9]
  rfl

def l61_11 {R : Type} (k0 : Int → Option R) (k1 : D196 → D198 → Int → Int → Option R) : Nat → D196 → D198 → Int → Int → Option R
  | 0, _, _, _, _ => none
  | m + 1, x0, x1, x2, x3 => (g61_10 x0 x1 x2 x3 k0 (fun y0 y1 y2 y3 => l61_11 k0 k1 m y0 y1 y2 y3) k1)
theorem nl61_11 {R R2 : Type} (k0 : Int → Option R) (k1 : D196 → D198 → Int → Int → Option R) (h : R → Option R2) : ∀ (m : Nat) (x0 : D196) (x1 : D198) (x2 : Int) (x3 : Int), (l61_11 k0 k1 m x0 x1 x2 x3).bind h = l61_11 (fun y0 => (k0 y0).bind h) (fun y0 y1 y2 y3 => (k1 y0 y1 y2 y3).bind h) m x0 x1 x2 x3 := by
  intro m
  induction m with
  | zero => intros; rfl
  | succ m ih =>
    intro x0 x1 x2 x3
    simp only [l61_11, ng61_10, bind_brB, bind_ite, bind_none', ih]
theorem lt61_11 {N : Nat} {cl : Cal} {R : Type} (K : KE R) : ∀ (m : Nat) (x0 : D196) (x1 : D198) (x2 : Int) (x3 : Int), iter [0, 1, 7, 8] (fun env K => exec cl N c61_10 env K) K m [(0, .v T1914 x0), (1, .v T1918 x1), (7, .v T192 x2), (8, .v T192 x3)] = l61_11 (fun y0 => K .ret [(0, .dead), (1, .dead), (4, .v T192 y0), (7, .dead), (8, .dead)]) (fun y0 y1 y2 y3 => K (.exit 0) [(0, .v T1914 y0), (1, .v T1918 y1), (7, .v T192 y2), (8, .v T192 y3)]) m x0 x1 x2 x3 := by
  intro m
  induction m with
  | zero => intros; rfl
  | succ m ih =>
    intro x0 x1 x2 x3
    simp only [iter_succ, t61_10, loopK_normal, loopK_exit, loopK_ret, kp61_0, ih]
    rfl

theorem kp61_6 (x0 : Int) : keep [4] [(0, .dead), (1, .dead), (4, .v T192 x0), (7, .dead), (8, .dead)] = [(4, .v T192 x0)] := by kernel_rfl
theorem kp61_7 (x0 : D196) (x1 : D198) (x2 : Int) (x3 : Int) : keep [4] [(0, .v T1914 x0), (1, .v T1918 x1), (7, .v T192 x2), (8, .v T192 x3)] = [(4, .dead)] := by kernel_rfl
def g61_11 {R : Type} (N : Nat) (x0 : D196) (x1 : D198) (x2 : Int) (x3 : Int) (k0 : Int → Option R) (k1 : Option R) : Option R :=
l61_11 (fun y0 => k0 y0) (fun y0 y1 y2 y3 => k1) N x0 x1 x2 x3
theorem ng61_11 {R R2 : Type} (N : Nat) (x0 : D196) (x1 : D198) (x2 : Int) (x3 : Int) (k0 : Int → Option R) (k1 : Option R) (h : R → Option R2) : ((g61_11 N x0 x1 x2 x3 k0 k1)).bind h = (g61_11 N x0 x1 x2 x3 (fun y0 => (k0 y0).bind h) ((k1).bind h)) := by
  simp only [g61_11, nl61_11, bind_brB, bind_ite, bind_none', Option.bind_assoc]
theorem t61_11 {N : Nat} {cl : Cal} {R : Type} (K : KE R) (x0 : D196) (x1 : D198) (x2 : Int) (x3 : Int) : exec cl N c61_11 [(0, .v T1914 x0), (1, .v T1918 x1), (7, .v T192 x2), (8, .v T192 x3)] K = (g61_11 N x0 x1 x2 x3 (fun y0 => K .ret [(4, .v T192 y0)]) (K (.exit 0) [(4, .dead)])) := by
  simp only [c61_11, exec_out, exec_loop, kp61_0, lt61_11, kp61_6, kp61_7]
  rfl

theorem kp61_8 (x0 : Int) : keep [4] [(4, .v T192 x0)] = [(4, .v T192 x0)] := by kernel_rfl
theorem kp61_9 : keep [4] [(4, .dead)] = [(4, .dead)] := by kernel_rfl
def g61_13 {R : Type} (k0 : Int → Option R) : Option R :=
k0 (-1 : Int)
theorem ng61_13 {R R2 : Type} (k0 : Int → Option R) (h : R → Option R2) : ((g61_13 k0)).bind h = (g61_13 (fun y0 => (k0 y0).bind h)) := by
  simp only [g61_13, bind_brB, bind_ite, bind_none', Option.bind_assoc]
theorem t61_13 {N : Nat} {cl : Cal} {R : Type} (K : KE R) : exec cl N c61_13 [(4, .dead)] K = (g61_13 (fun y0 => K .normal [(4, .v T192 y0)])) := by
  kernel_rfl
def g61_14 {R : Type} (N : Nat) (x0 : D196) (x1 : D198) (k0 : Int → Option R) : Option R :=
(g61_0 x0 x1 (fun y0 y1 => (g61_1 y0 y1 (fun y0 y1 y2 y3 => (g61_11 N y0 y1 y2 y3 (fun y0 => (k0 y0)) (g61_13 (fun y0 => (k0 y0))))))))
theorem ng61_14 {R R2 : Type} (N : Nat) (x0 : D196) (x1 : D198) (k0 : Int → Option R) (h : R → Option R2) : ((g61_14 N x0 x1 k0)).bind h = (g61_14 N x0 x1 (fun y0 => (k0 y0).bind h)) := by
  simp only [g61_14, ng61_0, ng61_1, ng61_11, ng61_13, bind_brB, bind_ite, bind_none', Option.bind_assoc]
theorem t61_14 {N : Nat} {cl : Cal} {R : Type} (K : KE R) (x0 : D196) (x1 : D198) : exec cl N c61_14 [(0, .v T1914 x0), (1, .v T1918 x1)] K = (g61_14 N x0 x1 (fun y0 => K .ret [(4, .v T192 y0)])) := by
  simp only [c61_14, exec_seq, seqK_normal, seqK_exit, seqK_ret, t61_0, t61_1, c61_12, exec_out, exec_block, t61_11, blockK_normal, blockK_ret, blockK_eq, kp61_8, kp61_9, t61_13, exec_ret]
  rfl

theorem rk61_0 (y0 : Int) : retK d61 .ret [(4, .v T192 y0)] = some [.v T192 y0] := by kernel_rfl
def g61 {R : Type} (N : Nat) (x0 : D196) (x1 : D198) (k : Int → Option R) : Option R :=
(g61_14 N x0 x1 (fun y0 => k y0))
theorem gen61 {N : Nat} {cl : Cal} (x0 : D196) (x1 : D198) : exec cl N c61 (params 0 [.v T1914 x0, .v T1918 x1]) (retK d61) = g61 N x0 x1 (fun (r0 : Int) => some [.v T192 r0]) := by
  have e0 : params 0 [.v T1914 x0, .v T1918 x1] = [(0, .v T1914 x0), (1, .v T1918 x1)] := by kernel_rfl
  simp only [c61, e0, t61_14, rk61_0]
  rfl

def ctr61 (S : D196 → D198 → Option (Int)) : Ctr := { A := D196 × D198 × Unit, B := Int, f := 61, enc := fun a => [.v T1914 a.1, .v T1918 a.2.1], dec := (decC (decV T1914) (decC (decV T1918) dec0)), S := fun a => S a.1 a.2.1, ent := fun b => [.v T192 b], ok := (decV_cons (T := T1914) (decV_cons (T := T1918) (fun es b h => dec0_some h))) }
def S61 (N : Nat) (x0 : D196) (x1 : D198) : Option (Int) := g61 N x0 x1 (fun (r0 : Int) => some (r0))
theorem ng61 {R R2 : Type} (N : Nat) (x0 : D196) (x1 : D198) (k : Int → Option R) (h : R → Option R2) : (g61 N x0 x1 k).bind h = g61 N x0 x1 (fun (r0 : Int) => (k r0).bind h) := by
  simp only [g61, ng61_14]
-- anceps/junction.first
def g42_0 {R : Type} (x0 : D196) (k0 : D196 → Option R) : Option R :=
k0 x0
theorem ng42_0 {R R2 : Type} (x0 : D196) (k0 : D196 → Option R) (h : R → Option R2) : ((g42_0 x0 k0)).bind h = (g42_0 x0 (fun y0 => (k0 y0).bind h)) := by
  simp only [g42_0, bind_brB, bind_ite, bind_none', Option.bind_assoc]
theorem t42_0 {N : Nat} {cl : Cal} {R : Type} (K : KE R) (x0 : D196) : exec cl N c42_0 [(0, .v T1914 x0)] K = (g42_0 x0 (fun y0 => K .normal [(0, .v T1914 y0)])) := by
  kernel_rfl
def g42_1 {R : Type} (S61 : D196 → D198 → Option (Int)) (S62 : D195 → Option (Bool)) (x0 : D196) (k0 : D196 → Int → Option R) : Option R :=
(S61 x0 (fun (x76 : (D195 × Unit)) => ((S62 x76.1).bind fun b77 => some [.v .bool b77]).bind (unE .bool))).bind fun r78 =>
k0 x0 r78
theorem ng42_1 {R R2 : Type} (S61 : D196 → D198 → Option (Int)) (S62 : D195 → Option (Bool)) (x0 : D196) (k0 : D196 → Int → Option R) (h : R → Option R2) : ((g42_1 S61 S62 x0 k0)).bind h = (g42_1 S61 S62 x0 (fun y0 y1 => (k0 y0 y1).bind h)) := by
  simp only [g42_1, bind_brB, bind_ite, bind_none', Option.bind_assoc]
theorem t42_1 {N : Nat} {cl : Cal} (S61 : D196 → D198 → Option (Int)) (S62 : D195 → Option (Bool)) (h61 : (ctr61 S61).holds cl) (h62 : (ctr62 S62).holds cl) {R : Type} (K : KE R) (x0 : D196) : exec cl N c42_1 [(0, .v T1914 x0)] K = (g42_1 S61 S62 x0 (fun y0 y1 => K .normal [(0, .v T1914 y0), (3, .v T192 y1)])) := by
  rw [← put_eq h61]
  rw [← put_eq h62]
  kernel_rfl
def g42_2 {R : Type} (x0 : D196) (x1 : Int) (k0 : D196 → Int → Bool → Option R) : Option R :=
k0 x0 x1 (decide (x1 < (0 : Int)))
theorem ng42_2 {R R2 : Type} (x0 : D196) (x1 : Int) (k0 : D196 → Int → Bool → Option R) (h : R → Option R2) : ((g42_2 x0 x1 k0)).bind h = (g42_2 x0 x1 (fun y0 y1 y2 => (k0 y0 y1 y2).bind h)) := by
  simp only [g42_2, bind_brB, bind_ite, bind_none', Option.bind_assoc]
theorem t42_2 {N : Nat} {cl : Cal} {R : Type} (K : KE R) (x0 : D196) (x1 : Int) : exec cl N c42_2 [(0, .v T1914 x0), (3, .v T192 x1)] K = (g42_2 x0 x1 (fun y0 y1 y2 => K .normal [(0, .v T1914 y0), (3, .v T192 y1), (7, .v .bool y2)])) := by
  kernel_rfl
def g42_3 {R : Type} (x0 : D196) (x1 : Int) (x2 : Bool) (k0 : Int → Option R) : Option R :=
k0 (x0.length : Int)
theorem ng42_3 {R R2 : Type} (x0 : D196) (x1 : Int) (x2 : Bool) (k0 : Int → Option R) (h : R → Option R2) : ((g42_3 x0 x1 x2 k0)).bind h = (g42_3 x0 x1 x2 (fun y0 => (k0 y0).bind h)) := by
  simp only [g42_3, bind_brB, bind_ite, bind_none', Option.bind_assoc]
theorem t42_3 {N : Nat} {cl : Cal} {R : Type} (K : KE R) (x0 : D196) (x1 : Int) (x2 : Bool) : exec cl N c42_3 [(0, .v T1914 x0), (3, .v T192 x1), (7, .v .bool x2)] K = (g42_3 x0 x1 x2 (fun y0 => K .normal [(2, .v T192 y0)])) := by
  kernel_rfl
theorem kp42_0 (x0 : Int) : keep [2, 3] [(2, .v T192 x0)] = [(2, .v T192 x0), (3, .dead)] := by kernel_rfl
theorem kp42_1 (x0 : D196) (x1 : Int) (x2 : Bool) : keep [2, 3] [(0, .v T1914 x0), (3, .v T192 x1), (7, .v .bool x2)] = [(2, .dead), (3, .v T192 x1)] := by kernel_rfl
theorem hb42_0 (x0 : D196) (x1 : Int) (x2 : Bool) : boolOf? (ent [(0, .v T1914 x0), (3, .v T192 x1), (7, .v .bool x2)] (.t 7)) = some x2 := by kernel_rfl
def g42_5 {R : Type} (x0 : Int) (k0 : Int → Option R) : Option R :=
k0 x0
theorem ng42_5 {R R2 : Type} (x0 : Int) (k0 : Int → Option R) (h : R → Option R2) : ((g42_5 x0 k0)).bind h = (g42_5 x0 (fun y0 => (k0 y0).bind h)) := by
  simp only [g42_5, bind_brB, bind_ite, bind_none', Option.bind_assoc]
theorem t42_5 {N : Nat} {cl : Cal} {R : Type} (K : KE R) (x0 : Int) : exec cl N c42_5 [(2, .dead), (3, .v T192 x0)] K = (g42_5 x0 (fun y0 => K .normal [(2, .v T192 y0)])) := by
  kernel_rfl
def g42_6 {R : Type} (S61 : D196 → D198 → Option (Int)) (S62 : D195 → Option (Bool)) (x0 : D196) (k0 : Int → Option R) (k1 : Int → Option R) : Option R :=
(g42_0 x0 (fun y0 => (g42_1 S61 S62 y0 (fun y0 y1 => (g42_2 y0 y1 (fun y0 y1 y2 => brB y2 (g42_3 y0 y1 y2 (fun y0 => ((fun y0 => (k0 y0)) y0))) ((fun y0 => (g42_5 y0 (fun y0 => (k1 y0)))) y1)))))))
theorem ng42_6 {R R2 : Type} (S61 : D196 → D198 → Option (Int)) (S62 : D195 → Option (Bool)) (x0 : D196) (k0 : Int → Option R) (k1 : Int → Option R) (h : R → Option R2) : ((g42_6 S61 S62 x0 k0 k1)).bind h = (g42_6 S61 S62 x0 (fun y0 => (k0 y0).bind h) (fun y0 => (k1 y0).bind h)) := by
  simp only [g42_6, ng42_0, ng42_1, ng42_2, ng42_3, ng42_5, bind_brB, bind_ite, bind_none', Option.bind_assoc]
theorem t42_6 {N : Nat} {cl : Cal} (S61 : D196 → D198 → Option (Int)) (S62 : D195 → Option (Bool)) (h61 : (ctr61 S61).holds cl) (h62 : (ctr62 S62).holds cl) {R : Type} (K : KE R) (x0 : D196) : exec cl N c42_6 [(0, .v T1914 x0)] K = (g42_6 S61 S62 x0 (fun y0 => K .ret [(2, .v T192 y0), (3, .dead)]) (fun y0 => K .ret [(2, .v T192 y0)])) := by
  simp only [c42_6, exec_seq, seqK_normal, seqK_exit, seqK_ret, t42_0, t42_1 S61 S62 h61 h62, t42_2, c42_4, exec_out, exec_cond', hb42_0, Option.bind_some, brB_true, brB_false, t42_3, exec_ret, exec_skip, kp42_0, kp42_1, t42_5]
  rfl

theorem rk42_0 (y0 : Int) : retK d42 .ret [(2, .v T192 y0), (3, .dead)] = some [.v T192 y0] := by kernel_rfl
theorem rk42_1 (y0 : Int) : retK d42 .ret [(2, .v T192 y0)] = some [.v T192 y0] := by kernel_rfl
def g42 {R : Type} (S61 : D196 → D198 → Option (Int)) (S62 : D195 → Option (Bool)) (x0 : D196) (k : Int → Option R) : Option R :=
(g42_6 S61 S62 x0 (fun y0 => k y0) (fun y0 => k y0))
theorem gen42 {N : Nat} {cl : Cal} (S61 : D196 → D198 → Option (Int)) (S62 : D195 → Option (Bool)) (h61 : (ctr61 S61).holds cl) (h62 : (ctr62 S62).holds cl) (x0 : D196) : exec cl N c42 (params 0 [.v T1914 x0]) (retK d42) = g42 S61 S62 x0 (fun (r0 : Int) => some [.v T192 r0]) := by
  have e0 : params 0 [.v T1914 x0] = [(0, .v T1914 x0)] := by kernel_rfl
  simp only [c42, e0, t42_6 S61 S62 h61 h62, rk42_0, rk42_1]
  rfl

def ctr42 (S : D196 → Option (Int)) : Ctr := { A := D196 × Unit, B := Int, f := 42, enc := fun a => [.v T1914 a.1], dec := (decC (decV T1914) dec0), S := fun a => S a.1, ent := fun b => [.v T192 b], ok := (decV_cons (T := T1914) (fun es b h => dec0_some h)) }
def S42 (N : Nat) (x0 : D196) : Option (Int) := g42 (S61 N) (S62 N) x0 (fun (r0 : Int) => some (r0))
theorem ng42 {R R2 : Type} (S61 : D196 → D198 → Option (Int)) (S62 : D195 → Option (Bool)) (x0 : D196) (k : Int → Option R) (h : R → Option R2) : (g42 S61 S62 x0 k).bind h = g42 S61 S62 x0 (fun (r0 : Int) => (k r0).bind h) := by
  simp only [g42, ng42_6]
-- anceps/junction.Begins
def g13_0 {R : Type} (x0 : D196) (k0 : D196 → Option R) : Option R :=
k0 x0
theorem ng13_0 {R R2 : Type} (x0 : D196) (k0 : D196 → Option R) (h : R → Option R2) : ((g13_0 x0 k0)).bind h = (g13_0 x0 (fun y0 => (k0 y0).bind h)) := by
  simp only [g13_0, bind_brB, bind_ite, bind_none', Option.bind_assoc]
theorem t13_0 {N : Nat} {cl : Cal} {R : Type} (K : KE R) (x0 : D196) : exec cl N c13_0 [(0, .v T1914 x0)] K = (g13_0 x0 (fun y0 => K .normal [(0, .v T1914 y0)])) := by
  kernel_rfl
def g13_1 {R : Type} (S42 : D196 → Option (Int)) (x0 : D196) (k0 : D196 → Int → Option R) : Option R :=
(S42 x0).bind fun r83 =>
k0 x0 r83
theorem ng13_1 {R R2 : Type} (S42 : D196 → Option (Int)) (x0 : D196) (k0 : D196 → Int → Option R) (h : R → Option R2) : ((g13_1 S42 x0 k0)).bind h = (g13_1 S42 x0 (fun y0 y1 => (k0 y0 y1).bind h)) := by
  simp only [g13_1, bind_brB, bind_ite, bind_none', Option.bind_assoc]
theorem t13_1 {N : Nat} {cl : Cal} (S42 : D196 → Option (Int)) (h42 : (ctr42 S42).holds cl) {R : Type} (K : KE R) (x0 : D196) : exec cl N c13_1 [(0, .v T1914 x0)] K = (g13_1 S42 x0 (fun y0 y1 => K .normal [(0, .v T1914 y0), (3, .v T192 y1)])) := by
  rw [← put_eq h42]
  kernel_rfl
def g13_2 {R : Type} (S43 : D195 → Option (Bool)) (x0 : D196) (x1 : Int) (k0 : Bool → Option R) : Option R :=
brB (decide (x1 < (x0.length : Int))) (if 0 ≤ x1 ∧ x1 < (x0.length : Int) then
(S43 (x0.getD x1.toNat ((0 : Int), ((0 : Int), ([], ()))))).bind fun r85 =>
k0 r85
else none) (k0 false)
theorem ng13_2 {R R2 : Type} (S43 : D195 → Option (Bool)) (x0 : D196) (x1 : Int) (k0 : Bool → Option R) (h : R → Option R2) : ((g13_2 S43 x0 x1 k0)).bind h = (g13_2 S43 x0 x1 (fun y0 => (k0 y0).bind h)) := by
  simp only [g13_2, bind_brB, bind_ite, bind_none', Option.bind_assoc]
theorem t13_2 {N : Nat} {cl : Cal} (S43 : D195 → Option (Bool)) (h43 : (ctr43 S43).holds cl) {R : Type} (K : KE R) (x0 : D196) (x1 : Int) : exec cl N c13_2 [(0, .v T1914 x0), (3, .v T192 x1)] K = (g13_2 S43 x0 x1 (fun y0 => K .normal [(2, .v .bool y0)])) := by
  rw [← put_eq h43]
  kernel_rfl
def g13_3 {R : Type} (S42 : D196 → Option (Int)) (S43 : D195 → Option (Bool)) (x0 : D196) (k0 : Bool → Option R) : Option R :=
(g13_0 x0 (fun y0 => (g13_1 S42 y0 (fun y0 y1 => (g13_2 S43 y0 y1 (fun y0 => (k0 y0)))))))
theorem ng13_3 {R R2 : Type} (S42 : D196 → Option (Int)) (S43 : D195 → Option (Bool)) (x0 : D196) (k0 : Bool → Option R) (h : R → Option R2) : ((g13_3 S42 S43 x0 k0)).bind h = (g13_3 S42 S43 x0 (fun y0 => (k0 y0).bind h)) := by
  simp only [g13_3, ng13_0, ng13_1, ng13_2, bind_brB, bind_ite, bind_none', Option.bind_assoc]
theorem t13_3 {N : Nat} {cl : Cal} (S42 : D196 → Option (Int)) (S43 : D195 → Option (Bool)) (h42 : (ctr42 S42).holds cl) (h43 : (ctr43 S43).holds cl) {R : Type} (K : KE R) (x0 : D196) : exec cl N c13_3 [(0, .v T1914 x0)] K = (g13_3 S42 S43 x0 (fun y0 => K .ret [(2, .v .bool y0)])) := by
  simp only [c13_3, exec_seq, seqK_normal, seqK_exit, seqK_ret, t13_0, t13_1 S42 h42, t13_2 S43 h43, exec_ret]
  rfl

theorem rk13_0 (y0 : Bool) : retK d13 .ret [(2, .v .bool y0)] = some [.v .bool y0] := by kernel_rfl
def g13 {R : Type} (S42 : D196 → Option (Int)) (S43 : D195 → Option (Bool)) (x0 : D196) (k : Bool → Option R) : Option R :=
(g13_3 S42 S43 x0 (fun y0 => k y0))
theorem gen13 {N : Nat} {cl : Cal} (S42 : D196 → Option (Int)) (S43 : D195 → Option (Bool)) (h42 : (ctr42 S42).holds cl) (h43 : (ctr43 S43).holds cl) (x0 : D196) : exec cl N c13 (params 0 [.v T1914 x0]) (retK d13) = g13 S42 S43 x0 (fun (r0 : Bool) => some [.v .bool r0]) := by
  have e0 : params 0 [.v T1914 x0] = [(0, .v T1914 x0)] := by kernel_rfl
  simp only [c13, e0, t13_3 S42 S43 h42 h43, rk13_0]
  rfl

def ctr13 (S : D196 → Option (Bool)) : Ctr := { A := D196 × Unit, B := Bool, f := 13, enc := fun a => [.v T1914 a.1], dec := (decC (decV T1914) dec0), S := fun a => S a.1, ent := fun b => [.v .bool b], ok := (decV_cons (T := T1914) (fun es b h => dec0_some h)) }
def S13 (N : Nat) (x0 : D196) : Option (Bool) := g13 (S42 N) (S43 N) x0 (fun (r0 : Bool) => some (r0))
theorem ng13 {R R2 : Type} (S42 : D196 → Option (Int)) (S43 : D195 → Option (Bool)) (x0 : D196) (k : Bool → Option R) (h : R → Option R2) : (g13 S42 S43 x0 k).bind h = g13 S42 S43 x0 (fun (r0 : Bool) => (k r0).bind h) := by
  simp only [g13, ng13_3]
-- anceps/ancepsref19.first
def g47_0 {R : Type} (x0 : D196) (k0 : D196 → Option R) : Option R :=
k0 x0
theorem ng47_0 {R R2 : Type} (x0 : D196) (k0 : D196 → Option R) (h : R → Option R2) : ((g47_0 x0 k0)).bind h = (g47_0 x0 (fun y0 => (k0 y0).bind h)) := by
  simp only [g47_0, bind_brB, bind_ite, bind_none', Option.bind_assoc]
theorem t47_0 {N : Nat} {cl : Cal} {R : Type} (K : KE R) (x0 : D196) : exec cl N c47_0 [(0, .v T1914 x0)] K = (g47_0 x0 (fun y0 => K .normal [(0, .v T1914 y0)])) := by
  kernel_rfl
def g47_1 {R : Type} (x0 : D196) (k0 : D196 → Int → Option R) : Option R :=
k0 x0 (0 : Int)
theorem ng47_1 {R R2 : Type} (x0 : D196) (k0 : D196 → Int → Option R) (h : R → Option R2) : ((g47_1 x0 k0)).bind h = (g47_1 x0 (fun y0 y1 => (k0 y0 y1).bind h)) := by
  simp only [g47_1, bind_brB, bind_ite, bind_none', Option.bind_assoc]
theorem t47_1 {N : Nat} {cl : Cal} {R : Type} (K : KE R) (x0 : D196) : exec cl N c47_1 [(0, .v T1914 x0)] K = (g47_1 x0 (fun y0 y1 => K .normal [(0, .v T1914 y0), (3, .v T192 y1)])) := by
  kernel_rfl
theorem kp47_0 (x0 : D196) (x1 : Int) : keep [0, 3] [(0, .v T1914 x0), (3, .v T192 x1)] = [(0, .v T1914 x0), (3, .v T192 x1)] := by kernel_rfl
def g47_2 {R : Type} (x0 : D196) (x1 : Int) (k0 : D196 → Int → Bool → Option R) : Option R :=
k0 x0 x1 (decide (x1 < (x0.length : Int)))
theorem ng47_2 {R R2 : Type} (x0 : D196) (x1 : Int) (k0 : D196 → Int → Bool → Option R) (h : R → Option R2) : ((g47_2 x0 x1 k0)).bind h = (g47_2 x0 x1 (fun y0 y1 y2 => (k0 y0 y1 y2).bind h)) := by
  simp only [g47_2, bind_brB, bind_ite, bind_none', Option.bind_assoc]
theorem t47_2 {N : Nat} {cl : Cal} {R : Type} (K : KE R) (x0 : D196) (x1 : Int) : exec cl N c47_2 [(0, .v T1914 x0), (3, .v T192 x1)] K = (g47_2 x0 x1 (fun y0 y1 y2 => K .normal [(0, .v T1914 y0), (3, .v T192 y1), (7, .v .bool y2)])) := by
  kernel_rfl
theorem kp47_1 (x0 : D196) (x1 : Int) (x2 : Bool) : keep [0, 3] [(0, .v T1914 x0), (3, .v T192 x1), (7, .v .bool x2)] = [(0, .v T1914 x0), (3, .v T192 x1)] := by kernel_rfl
theorem hb47_0 (x0 : D196) (x1 : Int) (x2 : Bool) : boolOf? (ent [(0, .v T1914 x0), (3, .v T192 x1), (7, .v .bool x2)] (.t 7)) = some x2 := by kernel_rfl
def g47_4 {R : Type} (S45 : D195 → Option (Bool)) (x0 : D196) (x1 : Int) (k0 : D196 → Int → Bool → Option R) : Option R :=
if 0 ≤ x1 ∧ x1 < (x0.length : Int) then
(S45 (x0.getD x1.toNat ((0 : Int), ((0 : Int), ([], ()))))).bind fun r92 =>
k0 x0 x1 r92
else none
theorem ng47_4 {R R2 : Type} (S45 : D195 → Option (Bool)) (x0 : D196) (x1 : Int) (k0 : D196 → Int → Bool → Option R) (h : R → Option R2) : ((g47_4 S45 x0 x1 k0)).bind h = (g47_4 S45 x0 x1 (fun y0 y1 y2 => (k0 y0 y1 y2).bind h)) := by
  simp only [g47_4, bind_brB, bind_ite, bind_none', Option.bind_assoc]
theorem t47_4 {N : Nat} {cl : Cal} (S45 : D195 → Option (Bool)) (h45 : (ctr45 S45).holds cl) {R : Type} (K : KE R) (x0 : D196) (x1 : Int) : exec cl N c47_4 [(0, .v T1914 x0), (3, .v T192 x1)] K = (g47_4 S45 x0 x1 (fun y0 y1 y2 => K .normal [(0, .v T1914 y0), (3, .v T192 y1), (14, .v .bool y2)])) := by
  rw [← put_eq h45]
  kernel_rfl
def g47_5 {R : Type} (x0 : D196) (x1 : Int) (x2 : Bool) (k0 : Int → Option R) : Option R :=
k0 x1
theorem ng47_5 {R R2 : Type} (x0 : D196) (x1 : Int) (x2 : Bool) (k0 : Int → Option R) (h : R → Option R2) : ((g47_5 x0 x1 x2 k0)).bind h = (g47_5 x0 x1 x2 (fun y0 => (k0 y0).bind h)) := by
  simp only [g47_5, bind_brB, bind_ite, bind_none', Option.bind_assoc]
theorem t47_5 {N : Nat} {cl : Cal} {R : Type} (K : KE R) (x0 : D196) (x1 : Int) (x2 : Bool) : exec cl N c47_5 [(0, .v T1914 x0), (3, .v T192 x1), (14, .v .bool x2)] K = (g47_5 x0 x1 x2 (fun y0 => K .normal [(2, .v T192 y0)])) := by
  kernel_rfl
theorem kp47_2 (x0 : Int) : keep [0, 2, 3] [(2, .v T192 x0)] = [(0, .dead), (2, .v T192 x0), (3, .dead)] := by kernel_rfl
theorem kp47_3 (x0 : D196) (x1 : Int) (x2 : Bool) : keep [0, 2, 3] [(0, .v T1914 x0), (3, .v T192 x1), (14, .v .bool x2)] = [(0, .v T1914 x0), (2, .dead), (3, .v T192 x1)] := by kernel_rfl
theorem hb47_1 (x0 : D196) (x1 : Int) (x2 : Bool) : boolOf? (ent [(0, .v T1914 x0), (3, .v T192 x1), (14, .v .bool x2)] (.t 14)) = some x2 := by kernel_rfl
def g47_7 {R : Type} (x0 : D196) (x1 : Int) (k0 : D196 → Int → Bool → Option R) : Option R :=
if 0 ≤ x1 ∧ x1 < (x0.length : Int) then
k0 x0 x1 ((x0.getD x1.toNat ((0 : Int), ((0 : Int), ([], ())))).1 != (9 : Int))
else none
theorem ng47_7 {R R2 : Type} (x0 : D196) (x1 : Int) (k0 : D196 → Int → Bool → Option R) (h : R → Option R2) : ((g47_7 x0 x1 k0)).bind h = (g47_7 x0 x1 (fun y0 y1 y2 => (k0 y0 y1 y2).bind h)) := by
  simp only [g47_7, bind_brB, bind_ite, bind_none', Option.bind_assoc]
theorem t47_7 {N : Nat} {cl : Cal} {R : Type} (K : KE R) (x0 : D196) (x1 : Int) : exec cl N c47_7 [(0, .v T1914 x0), (2, .dead), (3, .v T192 x1)] K = (g47_7 x0 x1 (fun y0 y1 y2 => K .normal [(0, .v T1914 y0), (3, .v T192 y1), (21, .v .bool y2)])) := by
  kernel_rfl
def g47_8 {R : Type} (x0 : D196) (x1 : Int) (x2 : Bool) (k0 : Int → Option R) : Option R :=
k0 (-1 : Int)
theorem ng47_8 {R R2 : Type} (x0 : D196) (x1 : Int) (x2 : Bool) (k0 : Int → Option R) (h : R → Option R2) : ((g47_8 x0 x1 x2 k0)).bind h = (g47_8 x0 x1 x2 (fun y0 => (k0 y0).bind h)) := by
  simp only [g47_8, bind_brB, bind_ite, bind_none', Option.bind_assoc]
theorem t47_8 {N : Nat} {cl : Cal} {R : Type} (K : KE R) (x0 : D196) (x1 : Int) (x2 : Bool) : exec cl N c47_8 [(0, .v T1914 x0), (3, .v T192 x1), (21, .v .bool x2)] K = (g47_8 x0 x1 x2 (fun y0 => K .normal [(2, .v T192 y0)])) := by
  kernel_rfl
theorem kp47_4 (x0 : D196) (x1 : Int) (x2 : Bool) : keep [0, 2, 3] [(0, .v T1914 x0), (3, .v T192 x1), (21, .v .bool x2)] = [(0, .v T1914 x0), (2, .dead), (3, .v T192 x1)] := by kernel_rfl
theorem hb47_2 (x0 : D196) (x1 : Int) (x2 : Bool) : boolOf? (ent [(0, .v T1914 x0), (3, .v T192 x1), (21, .v .bool x2)] (.t 21)) = some x2 := by kernel_rfl
theorem kp47_5 (x0 : Int) : keep [0, 2, 3] [(0, .dead), (2, .v T192 x0), (3, .dead)] = [(0, .dead), (2, .v T192 x0), (3, .dead)] := by kernel_rfl
theorem kp47_6 (x0 : D196) (x1 : Int) : keep [0, 2, 3] [(0, .v T1914 x0), (2, .dead), (3, .v T192 x1)] = [(0, .v T1914 x0), (2, .dead), (3, .v T192 x1)] := by kernel_rfl
def g47_11 {R : Type} (x0 : D196) (x1 : Int) (k0 : D196 → Int → Option R) : Option R :=
k0 x0 (IntKind.i64.wrap (x1 + (1 : Int)))
theorem ng47_11 {R R2 : Type} (x0 : D196) (x1 : Int) (k0 : D196 → Int → Option R) (h : R → Option R2) : ((g47_11 x0 x1 k0)).bind h = (g47_11 x0 x1 (fun y0 y1 => (k0 y0 y1).bind h)) := by
  simp only [g47_11, bind_brB, bind_ite, bind_none', Option.bind_assoc]
theorem t47_11 {N : Nat} {cl : Cal} {R : Type} (K : KE R) (x0 : D196) (x1 : Int) : exec cl N c47_11 [(0, .v T1914 x0), (2, .dead), (3, .v T192 x1)] K = (g47_11 x0 x1 (fun y0 y1 => K .normal [(0, .v T1914 y0), (3, .v T192 y1)])) := by
  kernel_rfl
def g47_12 {R : Type} (S45 : D195 → Option (Bool)) (x0 : D196) (x1 : Int) (k0 : Int → Option R) (k1 : D196 → Int → Option R) (k2 : D196 → Int → Option R) : Option R :=
(g47_2 x0 x1 (fun y0 y1 y2 => brB y2 ((fun y0 y1 => (g47_4 S45 y0 y1 (fun y0 y1 y2 => brB y2 (g47_5 y0 y1 y2 (fun y0 => ((fun y0 => (k0 y0)) y0))) ((fun y0 y1 => (g47_7 y0 y1 (fun y0 y1 y2 => brB y2 (g47_8 y0 y1 y2 (fun y0 => ((fun y0 => (k0 y0)) y0))) (g47_11 y0 y1 k1)))) y0 y1)))) y0 y1) (k2 y0 y1)))
theorem ng47_12 {R R2 : Type} (S45 : D195 → Option (Bool)) (x0 : D196) (x1 : Int) (k0 : Int → Option R) (k1 : D196 → Int → Option R) (k2 : D196 → Int → Option R) (h : R → Option R2) : ((g47_12 S45 x0 x1 k0 k1 k2)).bind h = (g47_12 S45 x0 x1 (fun y0 => (k0 y0).bind h) (fun y0 y1 => (k1 y0 y1).bind h) (fun y0 y1 => (k2 y0 y1).bind h)) := by
  simp only [g47_12, ng47_11, ng47_2, ng47_4, ng47_5, ng47_7, ng47_8, bind_brB, bind_ite, bind_none', Option.bind_assoc]
theorem t47_12 {N : Nat} {cl : Cal} (S45 : D195 → Option (Bool)) (h45 : (ctr45 S45).holds cl) {R : Type} (K : KE R) (x0 : D196) (x1 : Int) : exec cl N c47_12 [(0, .v T1914 x0), (3, .v T192 x1)] K = (g47_12 S45 x0 x1 (fun y0 => K .ret [(0, .dead), (2, .v T192 y0), (3, .dead)]) (fun y0 y1 => K .normal [(0, .v T1914 y0), (3, .v T192 y1)]) (fun y0 y1 => K (.exit 0) [(0, .v T1914 y0), (3, .v T192 y1)])) := by
  simp only [c47_12, exec_seq, seqK_normal, seqK_exit, seqK_ret, t47_2, c47_3, exec_out, exec_cond', hb47_0, Option.bind_some, brB_true, brB_false, exec_skip, exec_exit, kp47_1, c47_10, exec_block, t47_4 S45 h45, c47_6, hb47_1, t47_5, exec_ret, kp47_2, kp47_3, t47_7, c47_9, hb47_2, t47_8, kp47_4, blockK_normal, blockK_ret, blockK_eq, kp47_5, kp47_6, t47_11]
  rfl

def l47_13 {R : Type} (S45 : D195 → Option (Bool)) (k0 : Int → Option R) (k1 : D196 → Int → Option R) : Nat → D196 → Int → Option R
  | 0, _, _ => none
  | m + 1, x0, x1 => (g47_12 S45 x0 x1 k0 (fun y0 y1 => l47_13 S45 k0 k1 m y0 y1) k1)
theorem nl47_13 {R R2 : Type} (S45 : D195 → Option (Bool)) (k0 : Int → Option R) (k1 : D196 → Int → Option R) (h : R → Option R2) : ∀ (m : Nat) (x0 : D196) (x1 : Int), (l47_13 S45 k0 k1 m x0 x1).bind h = l47_13 S45 (fun y0 => (k0 y0).bind h) (fun y0 y1 => (k1 y0 y1).bind h) m x0 x1 := by
  intro m
  induction m with
  | zero => intros; rfl
  | succ m ih =>
    intro x0 x1
    simp only [l47_13, ng47_12, bind_brB, bind_ite, bind_none', ih]
theorem lt47_13 {N : Nat} {cl : Cal} (S45 : D195 → Option (Bool)) (h45 : (ctr45 S45).holds cl) {R : Type} (K : KE R) : ∀ (m : Nat) (x0 : D196) (x1 : Int), iter [0, 3] (fun env K => exec cl N c47_12 env K) K m [(0, .v T1914 x0), (3, .v T192 x1)] = l47_13 S45 (fun y0 => K .ret [(0, .dead), (2, .v T192 y0), (3, .dead)]) (fun y0 y1 => K (.exit 0) [(0, .v T1914 y0), (3, .v T192 y1)]) m x0 x1 := by
  intro m
  induction m with
  | zero => intros; rfl
  | succ m ih =>
    intro x0 x1
    simp only [iter_succ, t47_12 S45 h45, loopK_normal, loopK_exit, loopK_ret, kp47_0, ih]
    rfl

theorem kp47_7 (x0 : Int) : keep [2] [(0, .dead), (2, .v T192 x0), (3, .dead)] = [(2, .v T192 x0)] := by kernel_rfl
theorem kp47_8 (x0 : D196) (x1 : Int) : keep [2] [(0, .v T1914 x0), (3, .v T192 x1)] = [(2, .dead)] := by kernel_rfl
def g47_13 {R : Type} (N : Nat) (S45 : D195 → Option (Bool)) (x0 : D196) (x1 : Int) (k0 : Int → Option R) (k1 : Option R) : Option R :=
l47_13 S45 (fun y0 => k0 y0) (fun y0 y1 => k1) N x0 x1
theorem ng47_13 {R R2 : Type} (N : Nat) (S45 : D195 → Option (Bool)) (x0 : D196) (x1 : Int) (k0 : Int → Option R) (k1 : Option R) (h : R → Option R2) : ((g47_13 N S45 x0 x1 k0 k1)).bind h = (g47_13 N S45 x0 x1 (fun y0 => (k0 y0).bind h) ((k1).bind h)) := by
  simp only [g47_13, nl47_13, bind_brB, bind_ite, bind_none', Option.bind_assoc]
theorem t47_13 {N : Nat} {cl : Cal} (S45 : D195 → Option (Bool)) (h45 : (ctr45 S45).holds cl) {R : Type} (K : KE R) (x0 : D196) (x1 : Int) : exec cl N c47_13 [(0, .v T1914 x0), (3, .v T192 x1)] K = (g47_13 N S45 x0 x1 (fun y0 => K .ret [(2, .v T192 y0)]) (K (.exit 0) [(2, .dead)])) := by
  simp only [c47_13, exec_out, exec_loop, kp47_0, lt47_13 S45 h45, kp47_7, kp47_8]
  rfl

theorem kp47_9 (x0 : Int) : keep [2] [(2, .v T192 x0)] = [(2, .v T192 x0)] := by kernel_rfl
theorem kp47_10 : keep [2] [(2, .dead)] = [(2, .dead)] := by kernel_rfl
def g47_15 {R : Type} (k0 : Int → Option R) : Option R :=
k0 (-1 : Int)
theorem ng47_15 {R R2 : Type} (k0 : Int → Option R) (h : R → Option R2) : ((g47_15 k0)).bind h = (g47_15 (fun y0 => (k0 y0).bind h)) := by
  simp only [g47_15, bind_brB, bind_ite, bind_none', Option.bind_assoc]
theorem t47_15 {N : Nat} {cl : Cal} {R : Type} (K : KE R) : exec cl N c47_15 [(2, .dead)] K = (g47_15 (fun y0 => K .normal [(2, .v T192 y0)])) := by
  kernel_rfl
def g47_16 {R : Type} (N : Nat) (S45 : D195 → Option (Bool)) (x0 : D196) (k0 : Int → Option R) : Option R :=
(g47_0 x0 (fun y0 => (g47_1 y0 (fun y0 y1 => (g47_13 N S45 y0 y1 (fun y0 => (k0 y0)) (g47_15 (fun y0 => (k0 y0))))))))
theorem ng47_16 {R R2 : Type} (N : Nat) (S45 : D195 → Option (Bool)) (x0 : D196) (k0 : Int → Option R) (h : R → Option R2) : ((g47_16 N S45 x0 k0)).bind h = (g47_16 N S45 x0 (fun y0 => (k0 y0).bind h)) := by
  simp only [g47_16, ng47_0, ng47_1, ng47_13, ng47_15, bind_brB, bind_ite, bind_none', Option.bind_assoc]
theorem t47_16 {N : Nat} {cl : Cal} (S45 : D195 → Option (Bool)) (h45 : (ctr45 S45).holds cl) {R : Type} (K : KE R) (x0 : D196) : exec cl N c47_16 [(0, .v T1914 x0)] K = (g47_16 N S45 x0 (fun y0 => K .ret [(2, .v T192 y0)])) := by
  simp only [c47_16, exec_seq, seqK_normal, seqK_exit, seqK_ret, t47_0, t47_1, c47_14, exec_out, exec_block, t47_13 S45 h45, blockK_normal, blockK_ret, blockK_eq, kp47_10, kp47_9, t47_15, exec_ret]
  rfl

theorem rk47_0 (y0 : Int) : retK d47 .ret [(2, .v T192 y0)] = some [.v T192 y0] := by kernel_rfl
def g47 {R : Type} (N : Nat) (S45 : D195 → Option (Bool)) (x0 : D196) (k : Int → Option R) : Option R :=
(g47_16 N S45 x0 (fun y0 => k y0))
theorem gen47 {N : Nat} {cl : Cal} (S45 : D195 → Option (Bool)) (h45 : (ctr45 S45).holds cl) (x0 : D196) : exec cl N c47 (params 0 [.v T1914 x0]) (retK d47) = g47 N S45 x0 (fun (r0 : Int) => some [.v T192 r0]) := by
  have e0 : params 0 [.v T1914 x0] = [(0, .v T1914 x0)] := by kernel_rfl
  simp only [c47, e0, t47_16 S45 h45, rk47_0]
  rfl

def ctr47 (S : D196 → Option (Int)) : Ctr := { A := D196 × Unit, B := Int, f := 47, enc := fun a => [.v T1914 a.1], dec := (decC (decV T1914) dec0), S := fun a => S a.1, ent := fun b => [.v T192 b], ok := (decV_cons (T := T1914) (fun es b h => dec0_some h)) }
def S47 (N : Nat) (x0 : D196) : Option (Int) := g47 N (S45 N) x0 (fun (r0 : Int) => some (r0))
theorem ng47 {R R2 : Type} (N : Nat) (S45 : D195 → Option (Bool)) (x0 : D196) (k : Int → Option R) (h : R → Option R2) : (g47 N S45 x0 k).bind h = g47 N S45 x0 (fun (r0 : Int) => (k r0).bind h) := by
  simp only [g47, ng47_16]
-- anceps/ancepsref19.Begins
def g25_0 {R : Type} (x0 : D196) (k0 : D196 → Option R) : Option R :=
k0 x0
theorem ng25_0 {R R2 : Type} (x0 : D196) (k0 : D196 → Option R) (h : R → Option R2) : ((g25_0 x0 k0)).bind h = (g25_0 x0 (fun y0 => (k0 y0).bind h)) := by
  simp only [g25_0, bind_brB, bind_ite, bind_none', Option.bind_assoc]
theorem t25_0 {N : Nat} {cl : Cal} {R : Type} (K : KE R) (x0 : D196) : exec cl N c25_0 [(0, .v T1914 x0)] K = (g25_0 x0 (fun y0 => K .normal [(0, .v T1914 y0)])) := by
  kernel_rfl
def g25_1 {R : Type} (S47 : D196 → Option (Int)) (x0 : D196) (k0 : Bool → Option R) : Option R :=
(S47 x0).bind fun r97 =>
k0 (decide (r97 ≥ (0 : Int)))
theorem ng25_1 {R R2 : Type} (S47 : D196 → Option (Int)) (x0 : D196) (k0 : Bool → Option R) (h : R → Option R2) : ((g25_1 S47 x0 k0)).bind h = (g25_1 S47 x0 (fun y0 => (k0 y0).bind h)) := by
  simp only [g25_1, bind_brB, bind_ite, bind_none', Option.bind_assoc]
theorem t25_1 {N : Nat} {cl : Cal} (S47 : D196 → Option (Int)) (h47 : (ctr47 S47).holds cl) {R : Type} (K : KE R) (x0 : D196) : exec cl N c25_1 [(0, .v T1914 x0)] K = (g25_1 S47 x0 (fun y0 => K .normal [(2, .v .bool y0)])) := by
  rw [← put_eq h47]
  kernel_rfl
def g25_2 {R : Type} (S47 : D196 → Option (Int)) (x0 : D196) (k0 : Bool → Option R) : Option R :=
(g25_0 x0 (fun y0 => (g25_1 S47 y0 (fun y0 => (k0 y0)))))
theorem ng25_2 {R R2 : Type} (S47 : D196 → Option (Int)) (x0 : D196) (k0 : Bool → Option R) (h : R → Option R2) : ((g25_2 S47 x0 k0)).bind h = (g25_2 S47 x0 (fun y0 => (k0 y0).bind h)) := by
  simp only [g25_2, ng25_0, ng25_1, bind_brB, bind_ite, bind_none', Option.bind_assoc]
theorem t25_2 {N : Nat} {cl : Cal} (S47 : D196 → Option (Int)) (h47 : (ctr47 S47).holds cl) {R : Type} (K : KE R) (x0 : D196) : exec cl N c25_2 [(0, .v T1914 x0)] K = (g25_2 S47 x0 (fun y0 => K .ret [(2, .v .bool y0)])) := by
  simp only [c25_2, exec_seq, seqK_normal, seqK_exit, seqK_ret, t25_0, t25_1 S47 h47, exec_ret]
  rfl

theorem rk25_0 (y0 : Bool) : retK d25 .ret [(2, .v .bool y0)] = some [.v .bool y0] := by kernel_rfl
def g25 {R : Type} (S47 : D196 → Option (Int)) (x0 : D196) (k : Bool → Option R) : Option R :=
(g25_2 S47 x0 (fun y0 => k y0))
theorem gen25 {N : Nat} {cl : Cal} (S47 : D196 → Option (Int)) (h47 : (ctr47 S47).holds cl) (x0 : D196) : exec cl N c25 (params 0 [.v T1914 x0]) (retK d25) = g25 S47 x0 (fun (r0 : Bool) => some [.v .bool r0]) := by
  have e0 : params 0 [.v T1914 x0] = [(0, .v T1914 x0)] := by kernel_rfl
  simp only [c25, e0, t25_2 S47 h47, rk25_0]
  rfl

def ctr25 (S : D196 → Option (Bool)) : Ctr := { A := D196 × Unit, B := Bool, f := 25, enc := fun a => [.v T1914 a.1], dec := (decC (decV T1914) dec0), S := fun a => S a.1, ent := fun b => [.v .bool b], ok := (decV_cons (T := T1914) (fun es b h => dec0_some h)) }
def S25 (N : Nat) (x0 : D196) : Option (Bool) := g25 (S47 N) x0 (fun (r0 : Bool) => some (r0))
theorem ng25 {R R2 : Type} (S47 : D196 → Option (Int)) (x0 : D196) (k : Bool → Option R) (h : R → Option R2) : (g25 S47 x0 k).bind h = g25 S47 x0 (fun (r0 : Bool) => (k r0).bind h) := by
  simp only [g25, ng25_2]
-- anceps/junction.Explain
def g26_0 {R : Type} (x0 : Int) (k0 : Int → Option R) : Option R :=
k0 x0
theorem ng26_0 {R R2 : Type} (x0 : Int) (k0 : Int → Option R) (h : R → Option R2) : ((g26_0 x0 k0)).bind h = (g26_0 x0 (fun y0 => (k0 y0).bind h)) := by
  simp only [g26_0, bind_brB, bind_ite, bind_none', Option.bind_assoc]
theorem t26_0 {N : Nat} {cl : Cal} {R : Type} (K : KE R) (x0 : Int) : exec cl N c26_0 [(0, .v T192 x0)] K = (g26_0 x0 (fun y0 => K .normal [(0, .v T192 y0)])) := by
  kernel_rfl
def g26_1 {R : Type} (x0 : Int) (k0 : Int → Option R) : Option R :=
k0 x0
theorem ng26_1 {R R2 : Type} (x0 : Int) (k0 : Int → Option R) (h : R → Option R2) : ((g26_1 x0 k0)).bind h = (g26_1 x0 (fun y0 => (k0 y0).bind h)) := by
  simp only [g26_1, bind_brB, bind_ite, bind_none', Option.bind_assoc]
theorem t26_1 {N : Nat} {cl : Cal} {R : Type} (K : KE R) (x0 : Int) : exec cl N c26_1 [(0, .v T192 x0)] K = (g26_1 x0 (fun y0 => K .normal [(3, .v T192 y0)])) := by
  kernel_rfl
def g26_2 {R : Type} (x0 : Int) (k0 : Int → Bool → Option R) : Option R :=
k0 x0 (x0 == (0 : Int))
theorem ng26_2 {R R2 : Type} (x0 : Int) (k0 : Int → Bool → Option R) (h : R → Option R2) : ((g26_2 x0 k0)).bind h = (g26_2 x0 (fun y0 y1 => (k0 y0 y1).bind h)) := by
  simp only [g26_2, bind_brB, bind_ite, bind_none', Option.bind_assoc]
theorem t26_2 {N : Nat} {cl : Cal} {R : Type} (K : KE R) (x0 : Int) : exec cl N c26_2 [(3, .v T192 x0)] K = (g26_2 x0 (fun y0 y1 => K .normal [(3, .v T192 y0), (4, .v .bool y1)])) := by
  kernel_rfl
def g26_3 {R : Type} (x0 : Int) (x1 : Bool) (k0 : D190 → Option R) : Option R :=
k0 ([112, 108, 97, 105, 110] : List UInt8)
theorem ng26_3 {R R2 : Type} (x0 : Int) (x1 : Bool) (k0 : D190 → Option R) (h : R → Option R2) : ((g26_3 x0 x1 k0)).bind h = (g26_3 x0 x1 (fun y0 => (k0 y0).bind h)) := by
  simp only [g26_3, bind_brB, bind_ite, bind_none', Option.bind_assoc]
theorem t26_3 {N : Nat} {cl : Cal} {R : Type} (K : KE R) (x0 : Int) (x1 : Bool) : exec cl N c26_3 [(3, .v T192 x0), (4, .v .bool x1)] K = (g26_3 x0 x1 (fun y0 => K .normal [(2, .v .str y0)])) := by
  kernel_rfl
theorem kp26_0 (x0 : D190) : keep [2] [(2, .v .str x0)] = [(2, .v .str x0)] := by kernel_rfl
def g26_4 {R : Type} (x0 : Int) (x1 : Bool) (k0 : Int → Bool → Option R) : Option R :=
k0 x0 (x0 == (1 : Int))
theorem ng26_4 {R R2 : Type} (x0 : Int) (x1 : Bool) (k0 : Int → Bool → Option R) (h : R → Option R2) : ((g26_4 x0 x1 k0)).bind h = (g26_4 x0 x1 (fun y0 y1 => (k0 y0 y1).bind h)) := by
  simp only [g26_4, bind_brB, bind_ite, bind_none', Option.bind_assoc]
theorem t26_4 {N : Nat} {cl : Cal} {R : Type} (K : KE R) (x0 : Int) (x1 : Bool) : exec cl N c26_4 [(3, .v T192 x0), (4, .v .bool x1)] K = (g26_4 x0 x1 (fun y0 y1 => K .normal [(3, .v T192 y0), (6, .v .bool y1)])) := by
  kernel_rfl
def g26_5 {R : Type} (x0 : Int) (x1 : Bool) (k0 : D190 → Option R) : Option R :=
k0 ([101, 108, 105, 115, 105, 111, 110] : List UInt8)
theorem ng26_5 {R R2 : Type} (x0 : Int) (x1 : Bool) (k0 : D190 → Option R) (h : R → Option R2) : ((g26_5 x0 x1 k0)).bind h = (g26_5 x0 x1 (fun y0 => (k0 y0).bind h)) := by
  simp only [g26_5, bind_brB, bind_ite, bind_none', Option.bind_assoc]
theorem t26_5 {N : Nat} {cl : Cal} {R : Type} (K : KE R) (x0 : Int) (x1 : Bool) : exec cl N c26_5 [(3, .v T192 x0), (6, .v .bool x1)] K = (g26_5 x0 x1 (fun y0 => K .normal [(2, .v .str y0)])) := by
  kernel_rfl
def g26_6 {R : Type} (x0 : Int) (x1 : Bool) (k0 : Int → Bool → Option R) : Option R :=
k0 x0 (x0 == (2 : Int))
theorem ng26_6 {R R2 : Type} (x0 : Int) (x1 : Bool) (k0 : Int → Bool → Option R) (h : R → Option R2) : ((g26_6 x0 x1 k0)).bind h = (g26_6 x0 x1 (fun y0 y1 => (k0 y0 y1).bind h)) := by
  simp only [g26_6, bind_brB, bind_ite, bind_none', Option.bind_assoc]
theorem t26_6 {N : Nat} {cl : Cal} {R : Type} (K : KE R) (x0 : Int) (x1 : Bool) : exec cl N c26_6 [(3, .v T192 x0), (6, .v .bool x1)] K = (g26_6 x0 x1 (fun y0 y1 => K .normal [(3, .v T192 y0), (8, .v .bool y1)])) := by
  kernel_rfl
def g26_7 {R : Type} (x0 : Int) (x1 : Bool) (k0 : D190 → Option R) : Option R :=
k0 ([112, 114, 111, 100, 101, 108, 105, 115, 105, 111, 110] : List UInt8)
theorem ng26_7 {R R2 : Type} (x0 : Int) (x1 : Bool) (k0 : D190 → Option R) (h : R → Option R2) : ((g26_7 x0 x1 k0)).bind h = (g26_7 x0 x1 (fun y0 => (k0 y0).bind h)) := by
  simp only [g26_7, bind_brB, bind_ite, bind_none', Option.bind_assoc]
theorem t26_7 {N : Nat} {cl : Cal} {R : Type} (K : KE R) (x0 : Int) (x1 : Bool) : exec cl N c26_7 [(3, .v T192 x0), (8, .v .bool x1)] K = (g26_7 x0 x1 (fun y0 => K .normal [(2, .v .str y0)])) := by
  kernel_rfl
def g26_8 {R : Type} (x0 : Int) (x1 : Bool) (k0 : Int → Bool → Option R) : Option R :=
k0 x0 (x0 == (3 : Int))
theorem ng26_8 {R R2 : Type} (x0 : Int) (x1 : Bool) (k0 : Int → Bool → Option R) (h : R → Option R2) : ((g26_8 x0 x1 k0)).bind h = (g26_8 x0 x1 (fun y0 y1 => (k0 y0 y1).bind h)) := by
  simp only [g26_8, bind_brB, bind_ite, bind_none', Option.bind_assoc]
theorem t26_8 {N : Nat} {cl : Cal} {R : Type} (K : KE R) (x0 : Int) (x1 : Bool) : exec cl N c26_8 [(3, .v T192 x0), (8, .v .bool x1)] K = (g26_8 x0 x1 (fun y0 y1 => K .normal [(3, .v T192 y0), (10, .v .bool y1)])) := by
  kernel_rfl
def g26_9 {R : Type} (x0 : Int) (x1 : Bool) (k0 : D190 → Option R) : Option R :=
k0 ([104, 105, 97, 116, 117, 115] : List UInt8)
theorem ng26_9 {R R2 : Type} (x0 : Int) (x1 : Bool) (k0 : D190 → Option R) (h : R → Option R2) : ((g26_9 x0 x1 k0)).bind h = (g26_9 x0 x1 (fun y0 => (k0 y0).bind h)) := by
  simp only [g26_9, bind_brB, bind_ite, bind_none', Option.bind_assoc]
theorem t26_9 {N : Nat} {cl : Cal} {R : Type} (K : KE R) (x0 : Int) (x1 : Bool) : exec cl N c26_9 [(3, .v T192 x0), (10, .v .bool x1)] K = (g26_9 x0 x1 (fun y0 => K .normal [(2, .v .str y0)])) := by
  kernel_rfl
def g26_10 {R : Type} (x0 : Int) (x1 : Bool) (k0 : Bool → Option R) : Option R :=
k0 (x0 == (4 : Int))
theorem ng26_10 {R R2 : Type} (x0 : Int) (x1 : Bool) (k0 : Bool → Option R) (h : R → Option R2) : ((g26_10 x0 x1 k0)).bind h = (g26_10 x0 x1 (fun y0 => (k0 y0).bind h)) := by
  simp only [g26_10, bind_brB, bind_ite, bind_none', Option.bind_assoc]
theorem t26_10 {N : Nat} {cl : Cal} {R : Type} (K : KE R) (x0 : Int) (x1 : Bool) : exec cl N c26_10 [(3, .v T192 x0), (10, .v .bool x1)] K = (g26_10 x0 x1 (fun y0 => K .normal [(12, .v .bool y0)])) := by
  kernel_rfl
def g26_11 {R : Type} (x0 : Bool) (k0 : D190 → Option R) : Option R :=
k0 ([99, 111, 114, 114, 101, 112, 116, 105, 111, 110] : List UInt8)
theorem ng26_11 {R R2 : Type} (x0 : Bool) (k0 : D190 → Option R) (h : R → Option R2) : ((g26_11 x0 k0)).bind h = (g26_11 x0 (fun y0 => (k0 y0).bind h)) := by
  simp only [g26_11, bind_brB, bind_ite, bind_none', Option.bind_assoc]
theorem t26_11 {N : Nat} {cl : Cal} {R : Type} (K : KE R) (x0 : Bool) : exec cl N c26_11 [(12, .v .bool x0)] K = (g26_11 x0 (fun y0 => K .normal [(2, .v .str y0)])) := by
  kernel_rfl
theorem kp26_1 (x0 : Bool) : keep [2] [(12, .v .bool x0)] = [(2, .dead)] := by kernel_rfl
theorem hb26_0 (x0 : Bool) : boolOf? (ent [(12, .v .bool x0)] (.t 12)) = some x0 := by kernel_rfl
theorem kp26_2 : keep [2] [(2, .dead)] = [(2, .dead)] := by kernel_rfl
theorem hb26_1 (x0 : Int) (x1 : Bool) : boolOf? (ent [(3, .v T192 x0), (10, .v .bool x1)] (.t 10)) = some x1 := by kernel_rfl
theorem hb26_2 (x0 : Int) (x1 : Bool) : boolOf? (ent [(3, .v T192 x0), (8, .v .bool x1)] (.t 8)) = some x1 := by kernel_rfl
theorem hb26_3 (x0 : Int) (x1 : Bool) : boolOf? (ent [(3, .v T192 x0), (6, .v .bool x1)] (.t 6)) = some x1 := by kernel_rfl
theorem hb26_4 (x0 : Int) (x1 : Bool) : boolOf? (ent [(3, .v T192 x0), (4, .v .bool x1)] (.t 4)) = some x1 := by kernel_rfl
def g26_18 {R : Type} (k0 : D190 → Option R) : Option R :=
k0 ([] : List UInt8)
theorem ng26_18 {R R2 : Type} (k0 : D190 → Option R) (h : R → Option R2) : ((g26_18 k0)).bind h = (g26_18 (fun y0 => (k0 y0).bind h)) := by
  simp only [g26_18, bind_brB, bind_ite, bind_none', Option.bind_assoc]
theorem t26_18 {N : Nat} {cl : Cal} {R : Type} (K : KE R) : exec cl N c26_18 [(2, .dead)] K = (g26_18 (fun y0 => K .normal [(2, .v .str y0)])) := by
  kernel_rfl
def g26_19 {R : Type} (x0 : Int) (k0 : D190 → Option R) : Option R :=
(g26_0 x0 (fun y0 => (g26_1 y0 (fun y0 => (g26_2 y0 (fun y0 y1 => brB y1 (g26_3 y0 y1 (fun y0 => ((fun y0 => (k0 y0)) y0))) (g26_4 y0 y1 (fun y0 y1 => brB y1 (g26_5 y0 y1 (fun y0 => ((fun y0 => (k0 y0)) y0))) (g26_6 y0 y1 (fun y0 y1 => brB y1 (g26_7 y0 y1 (fun y0 => ((fun y0 => (k0 y0)) y0))) (g26_8 y0 y1 (fun y0 y1 => brB y1 (g26_9 y0 y1 (fun y0 => ((fun y0 => (k0 y0)) y0))) (g26_10 y0 y1 (fun y0 => brB y0 (g26_11 y0 (fun y0 => ((fun y0 => (k0 y0)) y0))) (g26_18 (fun y0 => (k0 y0)))))))))))))))))
theorem ng26_19 {R R2 : Type} (x0 : Int) (k0 : D190 → Option R) (h : R → Option R2) : ((g26_19 x0 k0)).bind h = (g26_19 x0 (fun y0 => (k0 y0).bind h)) := by
  simp only [g26_19, ng26_0, ng26_1, ng26_10, ng26_11, ng26_18, ng26_2, ng26_3, ng26_4, ng26_5, ng26_6, ng26_7, ng26_8, ng26_9, bind_brB, bind_ite, bind_none', Option.bind_assoc]
theorem t26_19 {N : Nat} {cl : Cal} {R : Type} (K : KE R) (x0 : Int) : exec cl N c26_19 [(0, .v T192 x0)] K = (g26_19 x0 (fun y0 => K .ret [(2, .v .str y0)])) := by
  simp only [c26_19, exec_seq, seqK_normal, seqK_exit, seqK_ret, t26_0, t26_1, c26_17, exec_out, exec_block, t26_2, c26_16, exec_cond', hb26_4, Option.bind_some, brB_true, brB_false, t26_3, exec_ret, t26_4, c26_15, hb26_3, t26_5, t26_6, c26_14, hb26_2, t26_7, t26_8, c26_13, hb26_1, t26_9, t26_10, c26_12, hb26_0, t26_11, exec_skip, kp26_0, kp26_1, kp26_2, blockK_normal, blockK_ret, blockK_eq, t26_18]
  rfl

theorem rk26_0 (y0 : D190) : retK d26 .ret [(2, .v .str y0)] = some [.v .str y0] := by kernel_rfl
def g26 {R : Type} (x0 : Int) (k : D190 → Option R) : Option R :=
(g26_19 x0 (fun y0 => k y0))
theorem gen26 {N : Nat} {cl : Cal} (x0 : Int) : exec cl N c26 (params 0 [.v T192 x0]) (retK d26) = g26 x0 (fun (r0 : D190) => some [.v .str r0]) := by
  have e0 : params 0 [.v T192 x0] = [(0, .v T192 x0)] := by kernel_rfl
  simp only [c26, e0, t26_19, rk26_0]
  rfl

def ctr26 (S : Int → Option D191) : Ctr := { A := Int × Unit, B := D190, f := 26, enc := fun a => [.v T192 a.1], dec := (decC (decV T192) dec0), S := fun a => S a.1, ent := fun b => [.v .str b], ok := (decV_cons (T := T192) (fun es b h => dec0_some h)) }
def S26 (N : Nat) (x0 : Int) : Option D191 := g26 x0 (fun (r0 : D190) => some (r0))
theorem ng26 {R R2 : Type} (x0 : Int) (k : D190 → Option R) (h : R → Option R2) : (g26 x0 k).bind h = g26 x0 (fun (r0 : D190) => (k r0).bind h) := by
  simp only [g26, ng26_19]
-- anceps/ancepsref19.Explain
def g27_0 {R : Type} (x0 : Int) (k0 : Int → Option R) : Option R :=
k0 x0
theorem ng27_0 {R R2 : Type} (x0 : Int) (k0 : Int → Option R) (h : R → Option R2) : ((g27_0 x0 k0)).bind h = (g27_0 x0 (fun y0 => (k0 y0).bind h)) := by
  simp only [g27_0, bind_brB, bind_ite, bind_none', Option.bind_assoc]
theorem t27_0 {N : Nat} {cl : Cal} {R : Type} (K : KE R) (x0 : Int) : exec cl N c27_0 [(0, .v T192 x0)] K = (g27_0 x0 (fun y0 => K .normal [(0, .v T192 y0)])) := by
  kernel_rfl
def g27_1 {R : Type} (x0 : Int) (k0 : Int → D192 → Option R) : Option R :=
k0 x0 [([112, 108, 97, 105, 110] : List UInt8), ([101, 108, 105, 115, 105, 111, 110] : List UInt8), ([112, 114, 111, 100, 101, 108, 105, 115, 105, 111, 110] : List UInt8), ([104, 105, 97, 116, 117, 115] : List UInt8), ([99, 111, 114, 114, 101, 112, 116, 105, 111, 110] : List UInt8)]
theorem ng27_1 {R R2 : Type} (x0 : Int) (k0 : Int → D192 → Option R) (h : R → Option R2) : ((g27_1 x0 k0)).bind h = (g27_1 x0 (fun y0 y1 => (k0 y0 y1).bind h)) := by
  simp only [g27_1, bind_brB, bind_ite, bind_none', Option.bind_assoc]
theorem t27_1 {N : Nat} {cl : Cal} {R : Type} (K : KE R) (x0 : Int) : exec cl N c27_1 [(0, .v T192 x0)] K = (g27_1 x0 (fun y0 y1 => K .normal [(0, .v T192 y0), (3, .own true 9 .str .no y1)])) := by
  kernel_rfl
def g27_2 {R : Type} (x0 : Int) (x1 : D192) (k0 : Int → D192 → Bool → Option R) : Option R :=
brB (decide (x0 < (0 : Int))) (k0 x0 x1 true) (k0 x0 x1 (decide (x0 ≥ (x1.length : Int))))
theorem ng27_2 {R R2 : Type} (x0 : Int) (x1 : D192) (k0 : Int → D192 → Bool → Option R) (h : R → Option R2) : ((g27_2 x0 x1 k0)).bind h = (g27_2 x0 x1 (fun y0 y1 y2 => (k0 y0 y1 y2).bind h)) := by
  simp only [g27_2, bind_brB, bind_ite, bind_none', Option.bind_assoc]
theorem t27_2 {N : Nat} {cl : Cal} {R : Type} (K : KE R) (x0 : Int) (x1 : D192) : exec cl N c27_2 [(0, .v T192 x0), (3, .own true 9 .str .no x1)] K = (g27_2 x0 x1 (fun y0 y1 y2 => K .normal [(0, .v T192 y0), (3, .own true 9 .str .no y1), (12, .v .bool y2)])) := by
  kernel_rfl
def g27_3 {R : Type} (x0 : Int) (x1 : D192) (x2 : Bool) (k0 : D190 → Option R) : Option R :=
k0 ([] : List UInt8)
theorem ng27_3 {R R2 : Type} (x0 : Int) (x1 : D192) (x2 : Bool) (k0 : D190 → Option R) (h : R → Option R2) : ((g27_3 x0 x1 x2 k0)).bind h = (g27_3 x0 x1 x2 (fun y0 => (k0 y0).bind h)) := by
  simp only [g27_3, bind_brB, bind_ite, bind_none', Option.bind_assoc]
theorem t27_3 {N : Nat} {cl : Cal} {R : Type} (K : KE R) (x0 : Int) (x1 : D192) (x2 : Bool) : exec cl N c27_3 [(0, .v T192 x0), (3, .own true 9 .str .no x1), (12, .v .bool x2)] K = (g27_3 x0 x1 x2 (fun y0 => K .normal [(2, .v .str y0)])) := by
  kernel_rfl
theorem kp27_0 (x0 : D190) : keep [0, 2, 3] [(2, .v .str x0)] = [(0, .dead), (2, .v .str x0), (3, .dead)] := by kernel_rfl
theorem kp27_1 (x0 : Int) (x1 : D192) (x2 : Bool) : keep [0, 2, 3] [(0, .v T192 x0), (3, .own true 9 .str .no x1), (12, .v .bool x2)] = [(0, .v T192 x0), (2, .dead), (3, .own true 9 .str .no x1)] := by kernel_rfl
theorem hb27_0 (x0 : Int) (x1 : D192) (x2 : Bool) : boolOf? (ent [(0, .v T192 x0), (3, .own true 9 .str .no x1), (12, .v .bool x2)] (.t 12)) = some x2 := by kernel_rfl
def g27_5 {R : Type} (x0 : Int) (x1 : D192) (k0 : D190 → Option R) : Option R :=
if 0 ≤ x0 ∧ x0 < (x1.length : Int) then
if x0.toNat < x1.length then
k0 (x1.getD x0.toNat [])
else none
else none
theorem ng27_5 {R R2 : Type} (x0 : Int) (x1 : D192) (k0 : D190 → Option R) (h : R → Option R2) : ((g27_5 x0 x1 k0)).bind h = (g27_5 x0 x1 (fun y0 => (k0 y0).bind h)) := by
  simp only [g27_5, bind_brB, bind_ite, bind_none', Option.bind_assoc]
theorem t27_5 {N : Nat} {cl : Cal} {R : Type} (K : KE R) (x0 : Int) (x1 : D192) : exec cl N c27_5 [(0, .v T192 x0), (2, .dead), (3, .own true 9 .str .no x1)] K = (g27_5 x0 x1 (fun y0 => K .normal [(2, .v .str y0)])) := by
  kernel_rfl
def g27_6 {R : Type} (x0 : Int) (k0 : D190 → Option R) (k1 : D190 → Option R) : Option R :=
(g27_0 x0 (fun y0 => (g27_1 y0 (fun y0 y1 => (g27_2 y0 y1 (fun y0 y1 y2 => brB y2 (g27_3 y0 y1 y2 (fun y0 => ((fun y0 => (k0 y0)) y0))) ((fun y0 y1 => (g27_5 y0 y1 (fun y0 => (k1 y0)))) y0 y1)))))))
theorem ng27_6 {R R2 : Type} (x0 : Int) (k0 : D190 → Option R) (k1 : D190 → Option R) (h : R → Option R2) : ((g27_6 x0 k0 k1)).bind h = (g27_6 x0 (fun y0 => (k0 y0).bind h) (fun y0 => (k1 y0).bind h)) := by
  simp only [g27_6, ng27_0, ng27_1, ng27_2, ng27_3, ng27_5, bind_brB, bind_ite, bind_none', Option.bind_assoc]
theorem t27_6 {N : Nat} {cl : Cal} {R : Type} (K : KE R) (x0 : Int) : exec cl N c27_6 [(0, .v T192 x0)] K = (g27_6 x0 (fun y0 => K .ret [(0, .dead), (2, .v .str y0), (3, .dead)]) (fun y0 => K .ret [(2, .v .str y0)])) := by
  simp only [c27_6, exec_seq, seqK_normal, seqK_exit, seqK_ret, t27_0, t27_1, t27_2, c27_4, exec_out, exec_cond', hb27_0, Option.bind_some, brB_true, brB_false, t27_3, exec_ret, exec_skip, kp27_0, kp27_1, t27_5]
  rfl

theorem rk27_0 (y0 : D190) : retK d27 .ret [(0, .dead), (2, .v .str y0), (3, .dead)] = some [.v .str y0] := by kernel_rfl
theorem rk27_1 (y0 : D190) : retK d27 .ret [(2, .v .str y0)] = some [.v .str y0] := by kernel_rfl
def g27 {R : Type} (x0 : Int) (k : D190 → Option R) : Option R :=
(g27_6 x0 (fun y0 => k y0) (fun y0 => k y0))
theorem gen27 {N : Nat} {cl : Cal} (x0 : Int) : exec cl N c27 (params 0 [.v T192 x0]) (retK d27) = g27 x0 (fun (r0 : D190) => some [.v .str r0]) := by
  have e0 : params 0 [.v T192 x0] = [(0, .v T192 x0)] := by kernel_rfl
  simp only [c27, e0, t27_6, rk27_0, rk27_1]
  rfl

def ctr27 (S : Int → Option D191) : Ctr := { A := Int × Unit, B := D190, f := 27, enc := fun a => [.v T192 a.1], dec := (decC (decV T192) dec0), S := fun a => S a.1, ent := fun b => [.v .str b], ok := (decV_cons (T := T192) (fun es b h => dec0_some h)) }
def S27 (N : Nat) (x0 : Int) : Option D191 := g27 x0 (fun (r0 : D190) => some (r0))
theorem ng27 {R R2 : Type} (x0 : Int) (k : D190 → Option R) (h : R → Option R2) : (g27 x0 k).bind h = g27 x0 (fun (r0 : D190) => (k r0).bind h) := by
  simp only [g27, ng27_6]
-- anceps/ancepslaw19.JunctionEnds
def g6_0 {R : Type} (x0 : D196) (x1 : Int) (k0 : D196 → Int → Option R) : Option R :=
k0 x0 x1
theorem ng6_0 {R R2 : Type} (x0 : D196) (x1 : Int) (k0 : D196 → Int → Option R) (h : R → Option R2) : ((g6_0 x0 x1 k0)).bind h = (g6_0 x0 x1 (fun y0 y1 => (k0 y0 y1).bind h)) := by
  simp only [g6_0, bind_brB, bind_ite, bind_none', Option.bind_assoc]
theorem t6_0 {N : Nat} {cl : Cal} {R : Type} (K : KE R) (x0 : D196) (x1 : Int) : exec cl N c6_0 [(0, .v T1914 x0), (1, .v T192 x1)] K = (g6_0 x0 x1 (fun y0 y1 => K .normal [(0, .v T1914 y0), (1, .v T192 y1)])) := by
  kernel_rfl
def g6_1 {R : Type} (S8 : Option (Bool)) (S22 : D196 → Int → Option (Bool)) (x0 : D196) (x1 : Int) (k0 : D196 → Int → Bool → Option R) : Option R :=
(S8).bind fun r119 =>
brB (!r119) (k0 x0 x1 true) ((S22 x0 (210 : Int)).bind fun r120 =>
k0 x0 x1 (!r120))
theorem ng6_1 {R R2 : Type} (S8 : Option (Bool)) (S22 : D196 → Int → Option (Bool)) (x0 : D196) (x1 : Int) (k0 : D196 → Int → Bool → Option R) (h : R → Option R2) : ((g6_1 S8 S22 x0 x1 k0)).bind h = (g6_1 S8 S22 x0 x1 (fun y0 y1 y2 => (k0 y0 y1 y2).bind h)) := by
  simp only [g6_1, bind_brB, bind_ite, bind_none', Option.bind_assoc]
theorem t6_1 {N : Nat} {cl : Cal} (S8 : Option (Bool)) (S22 : D196 → Int → Option (Bool)) (h8 : (ctr8 S8).holds cl) (h22 : (ctr22 S22).holds cl) {R : Type} (K : KE R) (x0 : D196) (x1 : Int) : exec cl N c6_1 [(0, .v T1914 x0), (1, .v T192 x1)] K = (g6_1 S8 S22 x0 x1 (fun y0 y1 y2 => K .normal [(0, .v T1914 y0), (1, .v T192 y1), (11, .v .bool y2)])) := by
  rw [← put_eq h8]
  rw [← put_eq h22]
  kernel_rfl
def g6_2 {R : Type} (S8 : Option (Bool)) (x0 : D196) (x1 : Int) (x2 : Bool) (k0 : Bool → Option R) : Option R :=
(S8).bind fun r121 =>
k0 r121
theorem ng6_2 {R R2 : Type} (S8 : Option (Bool)) (x0 : D196) (x1 : Int) (x2 : Bool) (k0 : Bool → Option R) (h : R → Option R2) : ((g6_2 S8 x0 x1 x2 k0)).bind h = (g6_2 S8 x0 x1 x2 (fun y0 => (k0 y0).bind h)) := by
  simp only [g6_2, bind_brB, bind_ite, bind_none', Option.bind_assoc]
theorem t6_2 {N : Nat} {cl : Cal} (S8 : Option (Bool)) (h8 : (ctr8 S8).holds cl) {R : Type} (K : KE R) (x0 : D196) (x1 : Int) (x2 : Bool) : exec cl N c6_2 [(0, .v T1914 x0), (1, .v T192 x1), (11, .v .bool x2)] K = (g6_2 S8 x0 x1 x2 (fun y0 => K .normal [(4, .v .bool y0)])) := by
  rw [← put_eq h8]
  kernel_rfl
theorem kp6_0 (x0 : Bool) : keep [0, 1, 4] [(4, .v .bool x0)] = [(0, .dead), (1, .dead), (4, .v .bool x0)] := by kernel_rfl
theorem kp6_1 (x0 : D196) (x1 : Int) (x2 : Bool) : keep [0, 1, 4] [(0, .v T1914 x0), (1, .v T192 x1), (11, .v .bool x2)] = [(0, .v T1914 x0), (1, .v T192 x1), (4, .dead)] := by kernel_rfl
theorem hb6_0 (x0 : D196) (x1 : Int) (x2 : Bool) : boolOf? (ent [(0, .v T1914 x0), (1, .v T192 x1), (11, .v .bool x2)] (.t 11)) = some x2 := by kernel_rfl
def g6_4 {R : Type} (S13 : D196 → Option (Bool)) (S14 : D196 → Option (Int)) (S23 : D196 → Option D197) (S24 : D196 → Option (Int)) (S25 : D196 → Option (Bool)) (S26 : Int → Option D191) (S27 : Int → Option D191) (x0 : D196) (x1 : Int) (k0 : Bool → Option R) : Option R :=
(S23 x0).bind fun r122 =>
(S14 r122).bind fun r123 =>
(S24 x0).bind fun r124 =>
brB (r123 == r124) ((S23 x0).bind fun r126 =>
(S13 r126).bind fun r127 =>
(S25 x0).bind fun r128 =>
brB (r127 == r128) ((S26 x1).bind fun r130 =>
(S27 x1).bind fun r131 =>
k0 (r130 == r131)) (k0 false)) (k0 false)
theorem ng6_4 {R R2 : Type} (S13 : D196 → Option (Bool)) (S14 : D196 → Option (Int)) (S23 : D196 → Option D197) (S24 : D196 → Option (Int)) (S25 : D196 → Option (Bool)) (S26 : Int → Option D191) (S27 : Int → Option D191) (x0 : D196) (x1 : Int) (k0 : Bool → Option R) (h : R → Option R2) : ((g6_4 S13 S14 S23 S24 S25 S26 S27 x0 x1 k0)).bind h = (g6_4 S13 S14 S23 S24 S25 S26 S27 x0 x1 (fun y0 => (k0 y0).bind h)) := by
  simp only [g6_4, bind_brB, bind_ite, bind_none', Option.bind_assoc]
theorem t6_4 {N : Nat} {cl : Cal} (S13 : D196 → Option (Bool)) (S14 : D196 → Option (Int)) (S23 : D196 → Option D197) (S24 : D196 → Option (Int)) (S25 : D196 → Option (Bool)) (S26 : Int → Option D191) (S27 : Int → Option D191) (h13 : (ctr13 S13).holds cl) (h14 : (ctr14 S14).holds cl) (h23 : (ctr23 S23).holds cl) (h24 : (ctr24 S24).holds cl) (h25 : (ctr25 S25).holds cl) (h26 : (ctr26 S26).holds cl) (h27 : (ctr27 S27).holds cl) {R : Type} (K : KE R) (x0 : D196) (x1 : Int) : exec cl N c6_4 [(0, .v T1914 x0), (1, .v T192 x1), (4, .dead)] K = (g6_4 S13 S14 S23 S24 S25 S26 S27 x0 x1 (fun y0 => K .normal [(4, .v .bool y0)])) := by
  rw [← put_eq h13]
  rw [← put_eq h14]
  rw [← put_eq h23]
  rw [← put_eq h24]
  rw [← put_eq h25]
  rw [← put_eq h26]
  rw [← put_eq h27]
  kernel_rfl
def g6_5 {R : Type} (S8 : Option (Bool)) (S13 : D196 → Option (Bool)) (S14 : D196 → Option (Int)) (S22 : D196 → Int → Option (Bool)) (S23 : D196 → Option D197) (S24 : D196 → Option (Int)) (S25 : D196 → Option (Bool)) (S26 : Int → Option D191) (S27 : Int → Option D191) (x0 : D196) (x1 : Int) (k0 : Bool → Option R) (k1 : Bool → Option R) : Option R :=
(g6_0 x0 x1 (fun y0 y1 => (g6_1 S8 S22 y0 y1 (fun y0 y1 y2 => brB y2 (g6_2 S8 y0 y1 y2 (fun y0 => ((fun y0 => (k0 y0)) y0))) ((fun y0 y1 => (g6_4 S13 S14 S23 S24 S25 S26 S27 y0 y1 (fun y0 => (k1 y0)))) y0 y1)))))
theorem ng6_5 {R R2 : Type} (S8 : Option (Bool)) (S13 : D196 → Option (Bool)) (S14 : D196 → Option (Int)) (S22 : D196 → Int → Option (Bool)) (S23 : D196 → Option D197) (S24 : D196 → Option (Int)) (S25 : D196 → Option (Bool)) (S26 : Int → Option D191) (S27 : Int → Option D191) (x0 : D196) (x1 : Int) (k0 : Bool → Option R) (k1 : Bool → Option R) (h : R → Option R2) : ((g6_5 S8 S13 S14 S22 S23 S24 S25 S26 S27 x0 x1 k0 k1)).bind h = (g6_5 S8 S13 S14 S22 S23 S24 S25 S26 S27 x0 x1 (fun y0 => (k0 y0).bind h) (fun y0 => (k1 y0).bind h)) := by
  simp only [g6_5, ng6_0, ng6_1, ng6_2, ng6_4, bind_brB, bind_ite, bind_none', Option.bind_assoc]
theorem t6_5 {N : Nat} {cl : Cal} (S8 : Option (Bool)) (S13 : D196 → Option (Bool)) (S14 : D196 → Option (Int)) (S22 : D196 → Int → Option (Bool)) (S23 : D196 → Option D197) (S24 : D196 → Option (Int)) (S25 : D196 → Option (Bool)) (S26 : Int → Option D191) (S27 : Int → Option D191) (h8 : (ctr8 S8).holds cl) (h13 : (ctr13 S13).holds cl) (h14 : (ctr14 S14).holds cl) (h22 : (ctr22 S22).holds cl) (h23 : (ctr23 S23).holds cl) (h24 : (ctr24 S24).holds cl) (h25 : (ctr25 S25).holds cl) (h26 : (ctr26 S26).holds cl) (h27 : (ctr27 S27).holds cl) {R : Type} (K : KE R) (x0 : D196) (x1 : Int) : exec cl N c6_5 [(0, .v T1914 x0), (1, .v T192 x1)] K = (g6_5 S8 S13 S14 S22 S23 S24 S25 S26 S27 x0 x1 (fun y0 => K .ret [(0, .dead), (1, .dead), (4, .v .bool y0)]) (fun y0 => K .ret [(4, .v .bool y0)])) := by
  simp only [c6_5, exec_seq, seqK_normal, seqK_exit, seqK_ret, t6_0, t6_1 S8 S22 h8 h22, c6_3, exec_out, exec_cond', hb6_0, Option.bind_some, brB_true, brB_false, t6_2 S8 h8, exec_ret, exec_skip, kp6_0, kp6_1, t6_4 S13 S14 S23 S24 S25 S26 S27 h13 h14 h23 h24 h25 h26 h27]
  rfl

theorem rk6_0 (y0 : Bool) : retK d6 .ret [(0, .dead), (1, .dead), (4, .v .bool y0)] = some [.v .bool y0] := by kernel_rfl
theorem rk6_1 (y0 : Bool) : retK d6 .ret [(4, .v .bool y0)] = some [.v .bool y0] := by kernel_rfl
def g6 {R : Type} (S8 : Option (Bool)) (S13 : D196 → Option (Bool)) (S14 : D196 → Option (Int)) (S22 : D196 → Int → Option (Bool)) (S23 : D196 → Option D197) (S24 : D196 → Option (Int)) (S25 : D196 → Option (Bool)) (S26 : Int → Option D191) (S27 : Int → Option D191) (x0 : D196) (x1 : Int) (k : Bool → Option R) : Option R :=
(g6_5 S8 S13 S14 S22 S23 S24 S25 S26 S27 x0 x1 (fun y0 => k y0) (fun y0 => k y0))
theorem gen6 {N : Nat} {cl : Cal} (S8 : Option (Bool)) (S13 : D196 → Option (Bool)) (S14 : D196 → Option (Int)) (S22 : D196 → Int → Option (Bool)) (S23 : D196 → Option D197) (S24 : D196 → Option (Int)) (S25 : D196 → Option (Bool)) (S26 : Int → Option D191) (S27 : Int → Option D191) (h8 : (ctr8 S8).holds cl) (h13 : (ctr13 S13).holds cl) (h14 : (ctr14 S14).holds cl) (h22 : (ctr22 S22).holds cl) (h23 : (ctr23 S23).holds cl) (h24 : (ctr24 S24).holds cl) (h25 : (ctr25 S25).holds cl) (h26 : (ctr26 S26).holds cl) (h27 : (ctr27 S27).holds cl) (x0 : D196) (x1 : Int) : exec cl N c6 (params 0 [.v T1914 x0, .v T192 x1]) (retK d6) = g6 S8 S13 S14 S22 S23 S24 S25 S26 S27 x0 x1 (fun (r0 : Bool) => some [.v .bool r0]) := by
  have e0 : params 0 [.v T1914 x0, .v T192 x1] = [(0, .v T1914 x0), (1, .v T192 x1)] := by kernel_rfl
  simp only [c6, e0, t6_5 S8 S13 S14 S22 S23 S24 S25 S26 S27 h8 h13 h14 h22 h23 h24 h25 h26 h27, rk6_0, rk6_1]
  rfl

def ctr6 (S : D196 → Int → Option (Bool)) : Ctr := { A := D196 × Int × Unit, B := Bool, f := 6, enc := fun a => [.v T1914 a.1, .v T192 a.2.1], dec := (decC (decV T1914) (decC (decV T192) dec0)), S := fun a => S a.1 a.2.1, ent := fun b => [.v .bool b], ok := (decV_cons (T := T1914) (decV_cons (T := T192) (fun es b h => dec0_some h))) }
def S6 (N : Nat) (x0 : D196) (x1 : Int) : Option (Bool) := g6 (S8 N) (S13 N) (S14 N) (S22 N) (S23 N) (S24 N) (S25 N) (S26 N) (S27 N) x0 x1 (fun (r0 : Bool) => some (r0))
theorem ng6 {R R2 : Type} (S8 : Option (Bool)) (S13 : D196 → Option (Bool)) (S14 : D196 → Option (Int)) (S22 : D196 → Int → Option (Bool)) (S23 : D196 → Option D197) (S24 : D196 → Option (Int)) (S25 : D196 → Option (Bool)) (S26 : Int → Option D191) (S27 : Int → Option D191) (x0 : D196) (x1 : Int) (k : Bool → Option R) (h : R → Option R2) : (g6 S8 S13 S14 S22 S23 S24 S25 S26 S27 x0 x1 k).bind h = g6 S8 S13 S14 S22 S23 S24 S25 S26 S27 x0 x1 (fun (r0 : Bool) => (k r0).bind h) := by
  simp only [g6, ng6_5]
end Go.Fw.L19
