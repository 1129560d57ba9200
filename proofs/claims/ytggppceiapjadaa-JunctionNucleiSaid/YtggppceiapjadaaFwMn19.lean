import Derived.Test.YtggppceiapjadaaFwYn19
import Derived.Test.YtggppceiapjadaaFwP
set_option linter.unusedVariables false
set_option linter.unusedSimpArgs false
namespace Go.Fw.L19
open Go Go.Fw
set_option maxRecDepth 100000
set_option linter.unusedVariables false
set_option linter.unusedSimpArgs false
-- anceps/ancepsref11.Made
def g34_0 {R : Type} (x0 : Int) (k0 : Int → Dn196 → Option R) : Option R :=
k0 x0 ((0 : Int), ((0 : Int), ([], ())))
theorem t34_0 {N : Nat} {cl : Cal} {R : Type} (K : KE R) (x0 : Int) : exec cl N c34_0 [(0, .v Tn190 x0)] K = (g34_0 x0 (fun y0 y1 => K .normal [(0, .v Tn190 y0), (2, .loc Tn1915 .no y1)])) := by
  kernel_rfl
def g34_1 {R : Type} (x0 : Int) (x1 : Dn196) (k0 : Int → Dn196 → Dn198 → Option R) : Option R :=
k0 x0 x1 [((1 : Int), (3 : Int), ([97] : List UInt8), ()), ((1 : Int), (1 : Int), ([101] : List UInt8), ()), ((1 : Int), (2 : Int), ([111] : List UInt8), ()), ((1 : Int), (3 : Int), ([105] : List UInt8), ()), ((2 : Int), (2 : Int), ([97, 101] : List UInt8), ()), ((3 : Int), (0 : Int), ([116] : List UInt8), ()), ((3 : Int), (0 : Int), ([98] : List UInt8), ()), ((4 : Int), (0 : Int), ([114] : List UInt8), ()), ((4 : Int), (0 : Int), ([108] : List UInt8), ()), ((5 : Int), (0 : Int), ([109] : List UInt8), ()), ((5 : Int), (0 : Int), ([110] : List UInt8), ()), ((6 : Int), (0 : Int), ([115] : List UInt8), ()), ((7 : Int), (0 : Int), ([120] : List UInt8), ()), ((8 : Int), (0 : Int), ([118] : List UInt8), ()), ((9 : Int), (0 : Int), ([104] : List UInt8), ()), ((1 : Int), (3 : Int), ([117] : List UInt8), ())]
theorem t34_1 {N : Nat} {cl : Cal} {R : Type} (K : KE R) (x0 : Int) (x1 : Dn196) : exec cl N c34_1 [(0, .v Tn190 x0), (2, .loc Tn1915 .no x1)] K = (g34_1 x0 x1 (fun y0 y1 y2 => K .normal [(0, .v Tn190 y0), (2, .loc Tn1915 .no y1), (3, .own true 55 Tn1915 .no y2)])) := by
  kernel_rfl
def g34_2 {R : Type} (x0 : Int) (x1 : Dn196) (x2 : Dn198) (k0 : Dn196 → Option R) : Option R :=
if (x2.length : Int) = 0 then none else
let v42 : Int := (Int.tmod (IntKind.i64.wrap x0) (x2.length : Int))
if 0 ≤ v42 ∧ v42 < (x2.length : Int) then
if v42.toNat < x2.length then
k0 (x2.getD v42.toNat ((0 : Int), ((0 : Int), ([], ()))))
else none
else none
theorem t34_2 {N : Nat} {cl : Cal} {R : Type} (K : KE R) (x0 : Int) (x1 : Dn196) (x2 : Dn198) : exec cl N c34_2 [(0, .v Tn190 x0), (2, .loc Tn1915 .no x1), (3, .own true 55 Tn1915 .no x2)] K = (g34_2 x0 x1 x2 (fun y0 => K .normal [(2, .loc Tn1915 .no y0)])) := by
  kernel_rfl
def g34_3 {R : Type} (x0 : Int) (k0 : Dn196 → Option R) : Option R :=
(g34_0 x0 (fun y0 y1 => (g34_1 y0 y1 (fun y0 y1 y2 => (g34_2 y0 y1 y2 (fun y0 => (k0 y0)))))))
theorem t34_3 {N : Nat} {cl : Cal} {R : Type} (K : KE R) (x0 : Int) : exec cl N c34_3 [(0, .v Tn190 x0)] K = (g34_3 x0 (fun y0 => K .ret [(2, .loc Tn1915 .no y0)])) := by
  simp only [c34_3, exec_seq, seqK_normal, seqK_exit, seqK_ret, t34_0, t34_1, t34_2, exec_ret]
  rfl

theorem rk34_0 (y0 : Dn196) : retK d34 .ret [(2, .loc Tn1915 .no y0)] = some [.v Tn1915 y0] := by kernel_rfl
def g34 {R : Type} (x0 : Int) (k : Dn196 → Option R) : Option R :=
(g34_3 x0 (fun y0 => k y0))
theorem gen34 {N : Nat} {cl : Cal} (x0 : Int) {R : Type} (k : List E → Option R) : exec cl N c34 (params 0 [.v Tn190 x0]) (fun e env => (retK d34 e env).bind k) = g34 x0 (fun (r0 : Dn196) => k [.v Tn1915 r0]) := by
  have e0 : params 0 [.v Tn190 x0] = [(0, .v Tn190 x0)] := by kernel_rfl
  simp only [c34, e0, t34_3, rk34_0, Option.bind_some]
  rfl

def ctr34 (S : Int → Option Dn197) : Ctr := { A := Int × Unit, B := Dn196, f := 34, enc := fun a => [.v Tn190 a.1], dec := (decC (decV Tn190) dec0), S := fun a => S a.1, ent := fun b => [.v Tn1915 b], ok := (decV_cons (T := Tn190) (fun es b h => dec0_some h)) }
def S34 (N : Nat) (x0 : Int) : Option Dn197 := g34 x0 (fun (r0 : Dn196) => some (r0))
-- anceps/ancepsref11.All
def g10_0 {R : Type} (x0 : Dn190) (k0 : Dn190 → Option R) : Option R :=
k0 x0
theorem t10_0 {N : Nat} {cl : Cal} {R : Type} (K : KE R) (x0 : Dn190) : exec cl N c10_0 [(0, .v Tn194 x0)] K = (g10_0 x0 (fun y0 => K .normal [(0, .v Tn194 y0)])) := by
  kernel_rfl
def g10_1 {R : Type} (x0 : Dn190) (k0 : Dn190 → Dn198 → Option R) : Option R :=
k0 x0 []
theorem t10_1 {N : Nat} {cl : Cal} {R : Type} (K : KE R) (x0 : Dn190) : exec cl N c10_1 [(0, .v Tn194 x0)] K = (g10_1 x0 (fun y0 y1 => K .normal [(0, .v Tn194 y0), (3, .own true 55 Tn1915 .no y1)])) := by
  kernel_rfl
def g10_2 {R : Type} (x0 : Dn190) (x1 : Dn198) (k0 : Dn190 → Dn198 → Int → Option R) : Option R :=
k0 x0 x1 (0 : Int)
theorem t10_2 {N : Nat} {cl : Cal} {R : Type} (K : KE R) (x0 : Dn190) (x1 : Dn198) : exec cl N c10_2 [(0, .v Tn194 x0), (3, .own true 55 Tn1915 .no x1)] K = (g10_2 x0 x1 (fun y0 y1 y2 => K .normal [(0, .v Tn194 y0), (3, .own true 55 Tn1915 .no y1), (4, .v Tn192 y2)])) := by
  kernel_rfl
theorem kp10_0 (x0 : Dn190) (x1 : Dn198) (x2 : Int) : keep [0, 3, 4] [(0, .v Tn194 x0), (3, .own true 55 Tn1915 .no x1), (4, .v Tn192 x2)] = [(0, .v Tn194 x0), (3, .own true 55 Tn1915 .no x1), (4, .v Tn192 x2)] := by kernel_rfl
def g10_3 {R : Type} (x0 : Dn190) (x1 : Dn198) (x2 : Int) (k0 : Dn190 → Dn198 → Int → Bool → Option R) : Option R :=
k0 x0 x1 x2 (decide (x2 < (x0.length : Int)))
theorem t10_3 {N : Nat} {cl : Cal} {R : Type} (K : KE R) (x0 : Dn190) (x1 : Dn198) (x2 : Int) : exec cl N c10_3 [(0, .v Tn194 x0), (3, .own true 55 Tn1915 .no x1), (4, .v Tn192 x2)] K = (g10_3 x0 x1 x2 (fun y0 y1 y2 y3 => K .normal [(0, .v Tn194 y0), (3, .own true 55 Tn1915 .no y1), (4, .v Tn192 y2), (8, .v .bool y3)])) := by
  kernel_rfl
theorem kp10_1 (x0 : Dn190) (x1 : Dn198) (x2 : Int) (x3 : Bool) : keep [0, 3, 4] [(0, .v Tn194 x0), (3, .own true 55 Tn1915 .no x1), (4, .v Tn192 x2), (8, .v .bool x3)] = [(0, .v Tn194 x0), (3, .own true 55 Tn1915 .no x1), (4, .v Tn192 x2)] := by kernel_rfl
theorem hb10_0 (x0 : Dn190) (x1 : Dn198) (x2 : Int) (x3 : Bool) : boolOf? (ent [(0, .v Tn194 x0), (3, .own true 55 Tn1915 .no x1), (4, .v Tn192 x2), (8, .v .bool x3)] (.t 8)) = some x3 := by kernel_rfl
def g10_5 {R : Type} (S34 : Int → Option Dn197) (x0 : Dn190) (x1 : Dn198) (x2 : Int) (k0 : Dn190 → Dn198 → Int → Option R) : Option R :=
if 0 ≤ x2 ∧ x2 < (x0.length : Int) then
(S34 (x0.getD x2.toNat (0 : Int))).bind fun r47 =>
if x1.length + [r47].length ≤ 4398046511104 then
k0 x0 (x1 ++ [r47]) x2
else none
else none
theorem t10_5 {N : Nat} {cl : Cal} (S34 : Int → Option Dn197) (h34 : (ctr34 S34).holds cl) {R : Type} (K : KE R) (x0 : Dn190) (x1 : Dn198) (x2 : Int) : exec cl N c10_5 [(0, .v Tn194 x0), (3, .own true 55 Tn1915 .no x1), (4, .v Tn192 x2)] K = (g10_5 S34 x0 x1 x2 (fun y0 y1 y2 => K .normal [(0, .v Tn194 y0), (3, .own true 55 Tn1915 .no y1), (4, .v Tn192 y2)])) := by
  rw [← put_eq h34]
  kernel_rfl
def g10_7 {R : Type} (x0 : Dn190) (x1 : Dn198) (x2 : Int) (k0 : Dn190 → Dn198 → Int → Option R) : Option R :=
k0 x0 x1 (IntKind.i64.wrap (x2 + (1 : Int)))
theorem t10_7 {N : Nat} {cl : Cal} {R : Type} (K : KE R) (x0 : Dn190) (x1 : Dn198) (x2 : Int) : exec cl N c10_7 [(0, .v Tn194 x0), (3, .own true 55 Tn1915 .no x1), (4, .v Tn192 x2)] K = (g10_7 x0 x1 x2 (fun y0 y1 y2 => K .normal [(0, .v Tn194 y0), (3, .own true 55 Tn1915 .no y1), (4, .v Tn192 y2)])) := by
  kernel_rfl
def g10_8 {R : Type} (S34 : Int → Option Dn197) (x0 : Dn190) (x1 : Dn198) (x2 : Int) (k0 : Dn190 → Dn198 → Int → Option R) (k1 : Dn190 → Dn198 → Int → Option R) : Option R :=
(g10_3 x0 x1 x2 (fun y0 y1 y2 y3 => brB y3 ((fun y0 y1 y2 => (g10_5 S34 y0 y1 y2 (fun y0 y1 y2 => (g10_7 y0 y1 y2 k0)))) y0 y1 y2) (k1 y0 y1 y2)))
theorem t10_8 {N : Nat} {cl : Cal} (S34 : Int → Option Dn197) (h34 : (ctr34 S34).holds cl) {R : Type} (K : KE R) (x0 : Dn190) (x1 : Dn198) (x2 : Int) : exec cl N c10_8 [(0, .v Tn194 x0), (3, .own true 55 Tn1915 .no x1), (4, .v Tn192 x2)] K = (g10_8 S34 x0 x1 x2 (fun y0 y1 y2 => K .normal [(0, .v Tn194 y0), (3, .own true 55 Tn1915 .no y1), (4, .v Tn192 y2)]) (fun y0 y1 y2 => K (.exit 0) [(0, .v Tn194 y0), (3, .own true 55 Tn1915 .no y1), (4, .v Tn192 y2)])) := by
  simp only [c10_8, exec_seq, seqK_normal, seqK_exit, seqK_ret, t10_3, c10_4, exec_out, exec_cond', hb10_0, Option.bind_some, brB_true, brB_false, exec_skip, exec_exit, kp10_1, c10_6, exec_block, t10_5 S34 h34, blockK_normal, blockK_ret, blockK_eq, kp10_0, t10_7]
  rfl

def l10_9 {R : Type} (S34 : Int → Option Dn197) (k0 : Dn190 → Dn198 → Int → Option R) : Nat → Dn190 → Dn198 → Int → Option R
  | 0, _, _, _ => none
  | m + 1, x0, x1, x2 => (g10_8 S34 x0 x1 x2 (fun y0 y1 y2 => l10_9 S34 k0 m y0 y1 y2) k0)
theorem lt10_9 {N : Nat} {cl : Cal} (S34 : Int → Option Dn197) (h34 : (ctr34 S34).holds cl) {R : Type} (K : KE R) : ∀ (m : Nat) (x0 : Dn190) (x1 : Dn198) (x2 : Int), iter [0, 3, 4] (fun env K => exec cl N c10_8 env K) K m [(0, .v Tn194 x0), (3, .own true 55 Tn1915 .no x1), (4, .v Tn192 x2)] = l10_9 S34 (fun y0 y1 y2 => K (.exit 0) [(0, .v Tn194 y0), (3, .own true 55 Tn1915 .no y1), (4, .v Tn192 y2)]) m x0 x1 x2 := by
  intro m
  induction m with
  | zero => intros; rfl
  | succ m ih =>
    intro x0 x1 x2
    simp only [iter_succ, t10_8 S34 h34, loopK_normal, loopK_exit, loopK_ret, kp10_0, ih]
    rfl

theorem kp10_2 (x0 : Dn190) (x1 : Dn198) (x2 : Int) : keep [3] [(0, .v Tn194 x0), (3, .own true 55 Tn1915 .no x1), (4, .v Tn192 x2)] = [(3, .own true 55 Tn1915 .no x1)] := by kernel_rfl
def g10_9 {R : Type} (N : Nat) (S34 : Int → Option Dn197) (x0 : Dn190) (x1 : Dn198) (x2 : Int) (k0 : Dn198 → Option R) : Option R :=
l10_9 S34 (fun y0 y1 y2 => k0 y1) N x0 x1 x2
theorem t10_9 {N : Nat} {cl : Cal} (S34 : Int → Option Dn197) (h34 : (ctr34 S34).holds cl) {R : Type} (K : KE R) (x0 : Dn190) (x1 : Dn198) (x2 : Int) : exec cl N c10_9 [(0, .v Tn194 x0), (3, .own true 55 Tn1915 .no x1), (4, .v Tn192 x2)] K = (g10_9 N S34 x0 x1 x2 (fun y0 => K (.exit 0) [(3, .own true 55 Tn1915 .no y0)])) := by
  simp only [c10_9, exec_out, exec_loop, kp10_0, lt10_9 S34 h34, kp10_2]
  rfl

theorem kp10_3 (x0 : Dn198) : keep [3] [(3, .own true 55 Tn1915 .no x0)] = [(3, .own true 55 Tn1915 .no x0)] := by kernel_rfl
def g10_11 {R : Type} (x0 : Dn198) (k0 : Dn198 → Option R) : Option R :=
k0 x0
theorem t10_11 {N : Nat} {cl : Cal} {R : Type} (K : KE R) (x0 : Dn198) : exec cl N c10_11 [(3, .own true 55 Tn1915 .no x0)] K = (g10_11 x0 (fun y0 => K .normal [(2, .ref 3 []), (3, .own true 55 Tn1915 .no y0)])) := by
  kernel_rfl
def g10_12 {R : Type} (N : Nat) (S34 : Int → Option Dn197) (x0 : Dn190) (k0 : Dn198 → Option R) : Option R :=
(g10_0 x0 (fun y0 => (g10_1 y0 (fun y0 y1 => (g10_2 y0 y1 (fun y0 y1 y2 => (g10_9 N S34 y0 y1 y2 (fun y0 => ((fun y0 => (g10_11 y0 (fun y0 => (k0 y0)))) y0)))))))))
theorem t10_12 {N : Nat} {cl : Cal} (S34 : Int → Option Dn197) (h34 : (ctr34 S34).holds cl) {R : Type} (K : KE R) (x0 : Dn190) : exec cl N c10_12 [(0, .v Tn194 x0)] K = (g10_12 N S34 x0 (fun y0 => K .ret [(2, .ref 3 []), (3, .own true 55 Tn1915 .no y0)])) := by
  simp only [c10_12, exec_seq, seqK_normal, seqK_exit, seqK_ret, t10_0, t10_1, t10_2, c10_10, exec_out, exec_block, t10_9 S34 h34, blockK_normal, blockK_ret, blockK_eq, kp10_3, t10_11, exec_ret]
  rfl

theorem rk10_0 (y0 : Dn198) : retK d10 .ret [(2, .ref 3 []), (3, .own true 55 Tn1915 .no y0)] = some [.own true 55 Tn1915 .no y0] := by kernel_rfl
def g10 {R : Type} (N : Nat) (S34 : Int → Option Dn197) (x0 : Dn190) (k : Dn198 → Option R) : Option R :=
(g10_12 N S34 x0 (fun y0 => k y0))
theorem gen10 {N : Nat} {cl : Cal} (S34 : Int → Option Dn197) (h34 : (ctr34 S34).holds cl) (x0 : Dn190) {R : Type} (k : List E → Option R) : exec cl N c10 (params 0 [.v Tn194 x0]) (fun e env => (retK d10 e env).bind k) = g10 N S34 x0 (fun (r0 : Dn198) => k [.own true 55 Tn1915 .no r0]) := by
  have e0 : params 0 [.v Tn194 x0] = [(0, .v Tn194 x0)] := by kernel_rfl
  simp only [c10, e0, t10_12 S34 h34, rk10_0, Option.bind_some]
  rfl

def ctr10 (S : Dn190 → Option Dn199) : Ctr := { A := Dn190 × Unit, B := Dn198, f := 10, enc := fun a => [.v Tn194 a.1], dec := (decC (decV Tn194) dec0), S := fun a => S a.1, ent := fun b => [.own true 55 Tn1915 .no b], ok := (decV_cons (T := Tn194) (fun es b h => dec0_some h)) }
def S10 (N : Nat) (x0 : Dn190) : Option Dn199 := g10 N (S34 N) x0 (fun (r0 : Dn198) => some (r0))
-- anceps/sound.quantity
def g90_0 {R : Type} (x0 : Dn196) (k0 : Dn196 → Option R) : Option R :=
k0 x0
theorem t90_0 {N : Nat} {cl : Cal} {R : Type} (K : KE R) (x0 : Dn196) : exec cl N c90_0 [(0, .v Tn1915 x0)] K = (g90_0 x0 (fun y0 => K .normal [(1, .loc Tn1915 .no y0)])) := by
  kernel_rfl
def g90_1 {R : Type} (x0 : Dn196) (k0 : Dn196 → Int → Option R) : Option R :=
k0 x0 x0.1
theorem t90_1 {N : Nat} {cl : Cal} {R : Type} (K : KE R) (x0 : Dn196) : exec cl N c90_1 [(1, .loc Tn1915 .no x0)] K = (g90_1 x0 (fun y0 y1 => K .normal [(1, .loc Tn1915 .no y0), (4, .v Tn192 y1)])) := by
  kernel_rfl
def g90_2 {R : Type} (x0 : Dn196) (x1 : Int) (k0 : Dn196 → Int → Bool → Option R) : Option R :=
k0 x0 x1 (x1 == (1 : Int))
theorem t90_2 {N : Nat} {cl : Cal} {R : Type} (K : KE R) (x0 : Dn196) (x1 : Int) : exec cl N c90_2 [(1, .loc Tn1915 .no x0), (4, .v Tn192 x1)] K = (g90_2 x0 x1 (fun y0 y1 y2 => K .normal [(1, .loc Tn1915 .no y0), (4, .v Tn192 y1), (5, .v .bool y2)])) := by
  kernel_rfl
def g90_3 {R : Type} (x0 : Dn196) (x1 : Int) (x2 : Bool) (k0 : Bool → Option R) : Option R :=
brB (decide (x0.2.1 ≥ (1 : Int))) (k0 (decide (x0.2.1 ≤ (3 : Int)))) (k0 false)
theorem t90_3 {N : Nat} {cl : Cal} {R : Type} (K : KE R) (x0 : Dn196) (x1 : Int) (x2 : Bool) : exec cl N c90_3 [(1, .loc Tn1915 .no x0), (4, .v Tn192 x1), (5, .v .bool x2)] K = (g90_3 x0 x1 x2 (fun y0 => K .normal [(2, .v .bool y0)])) := by
  kernel_rfl
theorem kp90_0 (x0 : Bool) : keep [1, 2] [(2, .v .bool x0)] = [(1, .dead), (2, .v .bool x0)] := by kernel_rfl
def g90_4 {R : Type} (x0 : Dn196) (x1 : Int) (x2 : Bool) (k0 : Dn196 → Bool → Option R) : Option R :=
k0 x0 (x1 == (2 : Int))
theorem t90_4 {N : Nat} {cl : Cal} {R : Type} (K : KE R) (x0 : Dn196) (x1 : Int) (x2 : Bool) : exec cl N c90_4 [(1, .loc Tn1915 .no x0), (4, .v Tn192 x1), (5, .v .bool x2)] K = (g90_4 x0 x1 x2 (fun y0 y1 => K .normal [(1, .loc Tn1915 .no y0), (15, .v .bool y1)])) := by
  kernel_rfl
def g90_5 {R : Type} (x0 : Dn196) (x1 : Bool) (k0 : Bool → Option R) : Option R :=
k0 (x0.2.1 == (2 : Int))
theorem t90_5 {N : Nat} {cl : Cal} {R : Type} (K : KE R) (x0 : Dn196) (x1 : Bool) : exec cl N c90_5 [(1, .loc Tn1915 .no x0), (15, .v .bool x1)] K = (g90_5 x0 x1 (fun y0 => K .normal [(2, .v .bool y0)])) := by
  kernel_rfl
theorem kp90_1 (x0 : Dn196) (x1 : Bool) : keep [1, 2] [(1, .loc Tn1915 .no x0), (15, .v .bool x1)] = [(1, .loc Tn1915 .no x0), (2, .dead)] := by kernel_rfl
theorem hb90_0 (x0 : Dn196) (x1 : Bool) : boolOf? (ent [(1, .loc Tn1915 .no x0), (15, .v .bool x1)] (.t 15)) = some x1 := by kernel_rfl
theorem kp90_2 (x0 : Bool) : keep [1, 2] [(1, .dead), (2, .v .bool x0)] = [(1, .dead), (2, .v .bool x0)] := by kernel_rfl
theorem kp90_3 (x0 : Dn196) : keep [1, 2] [(1, .loc Tn1915 .no x0), (2, .dead)] = [(1, .loc Tn1915 .no x0), (2, .dead)] := by kernel_rfl
theorem hb90_1 (x0 : Dn196) (x1 : Int) (x2 : Bool) : boolOf? (ent [(1, .loc Tn1915 .no x0), (4, .v Tn192 x1), (5, .v .bool x2)] (.t 5)) = some x2 := by kernel_rfl
def g90_9 {R : Type} (x0 : Dn196) (k0 : Bool → Option R) : Option R :=
k0 (x0.2.1 == (0 : Int))
theorem t90_9 {N : Nat} {cl : Cal} {R : Type} (K : KE R) (x0 : Dn196) : exec cl N c90_9 [(1, .loc Tn1915 .no x0), (2, .dead)] K = (g90_9 x0 (fun y0 => K .normal [(2, .v .bool y0)])) := by
  kernel_rfl
def g90_10 {R : Type} (x0 : Dn196) (k0 : Bool → Option R) (k1 : Bool → Option R) : Option R :=
(g90_0 x0 (fun y0 => (g90_1 y0 (fun y0 y1 => (g90_2 y0 y1 (fun y0 y1 y2 => brB y2 (g90_3 y0 y1 y2 (fun y0 => ((fun y0 => (k0 y0)) y0))) (g90_4 y0 y1 y2 (fun y0 y1 => brB y1 (g90_5 y0 y1 (fun y0 => ((fun y0 => (k0 y0)) y0))) ((fun y0 => ((fun y0 => ((fun y0 => (g90_9 y0 (fun y0 => (k1 y0)))) y0)) y0)) y0)))))))))
theorem t90_10 {N : Nat} {cl : Cal} {R : Type} (K : KE R) (x0 : Dn196) : exec cl N c90_10 [(0, .v Tn1915 x0)] K = (g90_10 x0 (fun y0 => K .ret [(1, .dead), (2, .v .bool y0)]) (fun y0 => K .ret [(2, .v .bool y0)])) := by
  simp only [c90_10, exec_seq, seqK_normal, seqK_exit, seqK_ret, t90_0, t90_1, c90_8, exec_out, exec_block, t90_2, c90_7, exec_cond', hb90_1, Option.bind_some, brB_true, brB_false, t90_3, exec_ret, t90_4, c90_6, hb90_0, t90_5, exec_skip, kp90_0, kp90_1, kp90_2, kp90_3, blockK_normal, blockK_ret, blockK_eq, t90_9]
  rfl

theorem rk90_0 (y0 : Bool) : retK d90 .ret [(1, .dead), (2, .v .bool y0)] = some [.v .bool y0] := by kernel_rfl
theorem rk90_1 (y0 : Bool) : retK d90 .ret [(2, .v .bool y0)] = some [.v .bool y0] := by kernel_rfl
def g90 {R : Type} (x0 : Dn196) (k : Bool → Option R) : Option R :=
(g90_10 x0 (fun y0 => k y0) (fun y0 => k y0))
theorem gen90 {N : Nat} {cl : Cal} (x0 : Dn196) {R : Type} (k : List E → Option R) : exec cl N c90 (params 0 [.v Tn1915 x0]) (fun e env => (retK d90 e env).bind k) = g90 x0 (fun (r0 : Bool) => k [.v .bool r0]) := by
  have e0 : params 0 [.v Tn1915 x0] = [(0, .v Tn1915 x0)] := by kernel_rfl
  simp only [c90, e0, t90_10, rk90_0, rk90_1, Option.bind_some]
  rfl

def ctr90 (S : Dn196 → Option (Bool)) : Ctr := { A := Dn196 × Unit, B := Bool, f := 90, enc := fun a => [.v Tn1915 a.1], dec := (decC (decV Tn1915) dec0), S := fun a => S a.1, ent := fun b => [.v .bool b], ok := (decV_cons (T := Tn1915) (fun es b h => dec0_some h)) }
def S90 (N : Nat) (x0 : Dn196) : Option (Bool) := g90 x0 (fun (r0 : Bool) => some (r0))
-- anceps/sound.written
def g93_0 {R : Type} (x0 : Int) (k0 : Int → Option R) : Option R :=
k0 x0
theorem t93_0 {N : Nat} {cl : Cal} {R : Type} (K : KE R) (x0 : Int) : exec cl N c93_0 [(0, .v Tn193 x0)] K = (g93_0 x0 (fun y0 => K .normal [(0, .v Tn193 y0)])) := by
  kernel_rfl
def g93_1 {R : Type} (x0 : Int) (k0 : Bool → Option R) : Option R :=
brB (decide (x0 ≥ (97 : Int))) (brB (decide (x0 ≤ (122 : Int))) (k0 true) (brB (decide (x0 ≥ (48 : Int))) (brB (decide (x0 ≤ (57 : Int))) (k0 true) (brB (x0 == (95 : Int)) (k0 true) (brB (x0 == (94 : Int)) (k0 true) (k0 (x0 == (39 : Int)))))) (brB (x0 == (95 : Int)) (k0 true) (brB (x0 == (94 : Int)) (k0 true) (k0 (x0 == (39 : Int))))))) (brB (decide (x0 ≥ (48 : Int))) (brB (decide (x0 ≤ (57 : Int))) (k0 true) (brB (x0 == (95 : Int)) (k0 true) (brB (x0 == (94 : Int)) (k0 true) (k0 (x0 == (39 : Int)))))) (brB (x0 == (95 : Int)) (k0 true) (brB (x0 == (94 : Int)) (k0 true) (k0 (x0 == (39 : Int))))))
theorem t93_1 {N : Nat} {cl : Cal} {R : Type} (K : KE R) (x0 : Int) : exec cl N c93_1 [(0, .v Tn193 x0)] K = (g93_1 x0 (fun y0 => K .normal [(2, .v .bool y0)])) := by
  kernel_rfl
def g93_2 {R : Type} (x0 : Int) (k0 : Bool → Option R) : Option R :=
(g93_0 x0 (fun y0 => (g93_1 y0 (fun y0 => (k0 y0)))))
theorem t93_2 {N : Nat} {cl : Cal} {R : Type} (K : KE R) (x0 : Int) : exec cl N c93_2 [(0, .v Tn193 x0)] K = (g93_2 x0 (fun y0 => K .ret [(2, .v .bool y0)])) := by
  simp only [c93_2, exec_seq, seqK_normal, seqK_exit, seqK_ret, t93_0, t93_1, exec_ret]
  rfl

theorem rk93_0 (y0 : Bool) : retK d93 .ret [(2, .v .bool y0)] = some [.v .bool y0] := by kernel_rfl
def g93 {R : Type} (x0 : Int) (k : Bool → Option R) : Option R :=
(g93_2 x0 (fun y0 => k y0))
theorem gen93 {N : Nat} {cl : Cal} (x0 : Int) {R : Type} (k : List E → Option R) : exec cl N c93 (params 0 [.v Tn193 x0]) (fun e env => (retK d93 e env).bind k) = g93 x0 (fun (r0 : Bool) => k [.v .bool r0]) := by
  have e0 : params 0 [.v Tn193 x0] = [(0, .v Tn193 x0)] := by kernel_rfl
  simp only [c93, e0, t93_2, rk93_0, Option.bind_some]
  rfl

def ctr93 (S : Int → Option (Bool)) : Ctr := { A := Int × Unit, B := Bool, f := 93, enc := fun a => [.v Tn193 a.1], dec := (decC (decV Tn193) dec0), S := fun a => S a.1, ent := fun b => [.v .bool b], ok := (decV_cons (T := Tn193) (fun es b h => dec0_some h)) }
def S93 (N : Nat) (x0 : Int) : Option (Bool) := g93 x0 (fun (r0 : Bool) => some (r0))
-- anceps/sound.Valid$1
def g92_0 {R : Type} (x0 : Int) (k0 : Int → Option R) : Option R :=
k0 x0
theorem t92_0 {N : Nat} {cl : Cal} {R : Type} (K : KE R) (x0 : Int) : exec cl N c92_0 [(0, .v Tn193 x0)] K = (g92_0 x0 (fun y0 => K .normal [(0, .v Tn193 y0)])) := by
  kernel_rfl
def g92_1 {R : Type} (S93 : Int → Option (Bool)) (x0 : Int) (k0 : Bool → Option R) : Option R :=
(S93 x0).bind fun r109 =>
k0 (!r109)
theorem t92_1 {N : Nat} {cl : Cal} (S93 : Int → Option (Bool)) (h93 : (ctr93 S93).holds cl) {R : Type} (K : KE R) (x0 : Int) : exec cl N c92_1 [(0, .v Tn193 x0)] K = (g92_1 S93 x0 (fun y0 => K .normal [(2, .v .bool y0)])) := by
  rw [← put_eq h93]
  kernel_rfl
def g92_2 {R : Type} (S93 : Int → Option (Bool)) (x0 : Int) (k0 : Bool → Option R) : Option R :=
(g92_0 x0 (fun y0 => (g92_1 S93 y0 (fun y0 => (k0 y0)))))
theorem t92_2 {N : Nat} {cl : Cal} (S93 : Int → Option (Bool)) (h93 : (ctr93 S93).holds cl) {R : Type} (K : KE R) (x0 : Int) : exec cl N c92_2 [(0, .v Tn193 x0)] K = (g92_2 S93 x0 (fun y0 => K .ret [(2, .v .bool y0)])) := by
  simp only [c92_2, exec_seq, seqK_normal, seqK_exit, seqK_ret, t92_0, t92_1 S93 h93, exec_ret]
  rfl

theorem rk92_0 (y0 : Bool) : retK d92 .ret [(2, .v .bool y0)] = some [.v .bool y0] := by kernel_rfl
def g92 {R : Type} (S93 : Int → Option (Bool)) (x0 : Int) (k : Bool → Option R) : Option R :=
(g92_2 S93 x0 (fun y0 => k y0))
theorem gen92 {N : Nat} {cl : Cal} (S93 : Int → Option (Bool)) (h93 : (ctr93 S93).holds cl) (x0 : Int) {R : Type} (k : List E → Option R) : exec cl N c92 (params 0 [.v Tn193 x0]) (fun e env => (retK d92 e env).bind k) = g92 S93 x0 (fun (r0 : Bool) => k [.v .bool r0]) := by
  have e0 : params 0 [.v Tn193 x0] = [(0, .v Tn193 x0)] := by kernel_rfl
  simp only [c92, e0, t92_2 S93 h93, rk92_0, Option.bind_some]
  rfl

def ctr92 (S : Int → Option (Bool)) : Ctr := { A := Int × Unit, B := Bool, f := 92, enc := fun a => [.v Tn193 a.1], dec := (decC (decV Tn193) dec0), S := fun a => S a.1, ent := fun b => [.v .bool b], ok := (decV_cons (T := Tn193) (fun es b h => dec0_some h)) }
def S92 (N : Nat) (x0 : Int) : Option (Bool) := g92 (S93 N) x0 (fun (r0 : Bool) => some (r0))
-- strings.indexFunc
def g108_0 {R : Type} (x0 : Dn191) (x1 : Dn194) (x2 : Bool) (k0 : Dn191 → Dn194 → Bool → Option R) : Option R :=
k0 x0 x1 x2
theorem t108_0 {N : Nat} {cl : Cal} {R : Type} (K : KE R) (x0 : Dn191) (x1 : Dn194) (x2 : Bool) : exec cl N c108_0 [(0, .v .str x0), (1, .v Tn1910 x1), (2, .v .bool x2)] K = (g108_0 x0 x1 x2 (fun y0 y1 y2 => K .normal [(0, .v .str y0), (1, .v Tn1910 y1), (2, .v .bool y2)])) := by
  kernel_rfl
def g108_1 {R : Type} (x0 : Dn191) (x1 : Dn194) (x2 : Bool) (k0 : Dn194 → Bool → Dn191 → Nat → Option R) : Option R :=
k0 x1 x2 x0 (0 : Nat)
theorem t108_1 {N : Nat} {cl : Cal} {R : Type} (K : KE R) (x0 : Dn191) (x1 : Dn194) (x2 : Bool) : exec cl N c108_1 [(0, .v .str x0), (1, .v Tn1910 x1), (2, .v .bool x2)] K = (g108_1 x0 x1 x2 (fun y0 y1 y2 y3 => K .normal [(1, .v Tn1910 y0), (2, .v .bool y1), (10, .it y2 y3)])) := by
  kernel_rfl
theorem kp108_0 (x0 : Dn194) (x1 : Bool) (x2 : Dn191) (x3 : Nat) : keep [1, 2, 10] [(1, .v Tn1910 x0), (2, .v .bool x1), (10, .it x2 x3)] = [(1, .v Tn1910 x0), (2, .v .bool x1), (10, .it x2 x3)] := by kernel_rfl
def g108_2 {R : Type} (x0 : Dn194) (x1 : Bool) (x2 : Dn191) (x3 : Nat) (k0 : Dn194 → Bool → Dn191 → Nat → Bool → Int → Int → Bool → Option R) (k1 : Dn194 → Bool → Dn191 → Nat → Bool → Bool → Option R) : Option R :=
brB (decide (x3 < x2.length)) (k0 x0 x1 x2 (x3 + (Utf8.decode ⟨⟨x2⟩⟩ x3).2) true ((x3 : Nat) : Int) (((Utf8.decode ⟨⟨x2⟩⟩ x3).1 : Nat) : Int) true) (k1 x0 x1 x2 x3 false false)
theorem t108_2 {N : Nat} {cl : Cal} {R : Type} (K : KE R) (x0 : Dn194) (x1 : Bool) (x2 : Dn191) (x3 : Nat) : exec cl N c108_2 [(1, .v Tn1910 x0), (2, .v .bool x1), (10, .it x2 x3)] K = (g108_2 x0 x1 x2 x3 (fun y0 y1 y2 y3 y4 y5 y6 y7 => K .normal [(1, .v Tn1910 y0), (2, .v .bool y1), (10, .it y2 y3), (11, .tup [.v .bool y4, .v Tn192 y5, .v Tn193 y6]), (12, .v .bool y7)]) (fun y0 y1 y2 y3 y4 y5 => K .normal [(1, .v Tn1910 y0), (2, .v .bool y1), (10, .it y2 y3), (11, .tup [.v .bool y4]), (12, .v .bool y5)])) := by
  kernel_rfl
theorem kp108_1 (x0 : Dn194) (x1 : Bool) (x2 : Dn191) (x3 : Nat) (x4 : Bool) (x5 : Int) (x6 : Int) (x7 : Bool) : keep [1, 2, 10, 11] [(1, .v Tn1910 x0), (2, .v .bool x1), (10, .it x2 x3), (11, .tup [.v .bool x4, .v Tn192 x5, .v Tn193 x6]), (12, .v .bool x7)] = [(1, .v Tn1910 x0), (2, .v .bool x1), (10, .it x2 x3), (11, .tup [.v .bool x4, .v Tn192 x5, .v Tn193 x6])] := by kernel_rfl
theorem hb108_0 (x0 : Dn194) (x1 : Bool) (x2 : Dn191) (x3 : Nat) (x4 : Bool) (x5 : Int) (x6 : Int) (x7 : Bool) : boolOf? (ent [(1, .v Tn1910 x0), (2, .v .bool x1), (10, .it x2 x3), (11, .tup [.v .bool x4, .v Tn192 x5, .v Tn193 x6]), (12, .v .bool x7)] (.t 12)) = some x7 := by kernel_rfl
def g108_4 {R : Type} (x0 : Dn194) (x1 : Bool) (x2 : Dn191) (x3 : Nat) (x4 : Bool) (x5 : Int) (x6 : Int) (k0 : Dn194 → Bool → Int → Int → Dn191 → Nat → Option R) : Option R :=
k0 x0 x1 x5 x6 x2 x3
theorem t108_4 {N : Nat} {cl : Cal} {R : Type} (K : KE R) (x0 : Dn194) (x1 : Bool) (x2 : Dn191) (x3 : Nat) (x4 : Bool) (x5 : Int) (x6 : Int) : exec cl N c108_4 [(1, .v Tn1910 x0), (2, .v .bool x1), (10, .it x2 x3), (11, .tup [.v .bool x4, .v Tn192 x5, .v Tn193 x6])] K = (g108_4 x0 x1 x2 x3 x4 x5 x6 (fun y0 y1 y2 y3 y4 y5 => K .normal [(1, .v Tn1910 y0), (2, .v .bool y1), (7, .v Tn192 y2), (8, .v Tn193 y3), (10, .it y4 y5)])) := by
  kernel_rfl
def g108_5 {R : Type} (x0 : Dn194) (x1 : Bool) (x2 : Int) (x3 : Int) (x4 : Dn191) (x5 : Nat) (k0 : Dn194 → Bool → Int → Dn191 → Nat → Bool → Option R) : Option R :=
(x0 (x3, ())).bind fun r115 =>
k0 x0 x1 x2 x4 x5 (r115 == x1)
theorem t108_5 {N : Nat} {cl : Cal} {R : Type} (K : KE R) (x0 : Dn194) (x1 : Bool) (x2 : Int) (x3 : Int) (x4 : Dn191) (x5 : Nat) : exec cl N c108_5 [(1, .v Tn1910 x0), (2, .v .bool x1), (7, .v Tn192 x2), (8, .v Tn193 x3), (10, .it x4 x5)] K = (g108_5 x0 x1 x2 x3 x4 x5 (fun y0 y1 y2 y3 y4 y5 => K .normal [(1, .v Tn1910 y0), (2, .v .bool y1), (7, .v Tn192 y2), (10, .it y3 y4), (19, .v .bool y5)])) := by
  kernel_rfl
def g108_6 {R : Type} (x0 : Dn194) (x1 : Bool) (x2 : Int) (x3 : Dn191) (x4 : Nat) (x5 : Bool) (k0 : Int → Option R) : Option R :=
k0 x2
theorem t108_6 {N : Nat} {cl : Cal} {R : Type} (K : KE R) (x0 : Dn194) (x1 : Bool) (x2 : Int) (x3 : Dn191) (x4 : Nat) (x5 : Bool) : exec cl N c108_6 [(1, .v Tn1910 x0), (2, .v .bool x1), (7, .v Tn192 x2), (10, .it x3 x4), (19, .v .bool x5)] K = (g108_6 x0 x1 x2 x3 x4 x5 (fun y0 => K .normal [(6, .v Tn192 y0)])) := by
  kernel_rfl
theorem kp108_2 (x0 : Int) : keep [1, 2, 6, 10] [(6, .v Tn192 x0)] = [(1, .dead), (2, .dead), (6, .v Tn192 x0), (10, .dead)] := by kernel_rfl
theorem kp108_3 (x0 : Dn194) (x1 : Bool) (x2 : Int) (x3 : Dn191) (x4 : Nat) (x5 : Bool) : keep [1, 2, 6, 10] [(1, .v Tn1910 x0), (2, .v .bool x1), (7, .v Tn192 x2), (10, .it x3 x4), (19, .v .bool x5)] = [(1, .v Tn1910 x0), (2, .v .bool x1), (6, .dead), (10, .it x3 x4)] := by kernel_rfl
theorem hb108_1 (x0 : Dn194) (x1 : Bool) (x2 : Int) (x3 : Dn191) (x4 : Nat) (x5 : Bool) : boolOf? (ent [(1, .v Tn1910 x0), (2, .v .bool x1), (7, .v Tn192 x2), (10, .it x3 x4), (19, .v .bool x5)] (.t 19)) = some x5 := by kernel_rfl
theorem kp108_4 (x0 : Int) : keep [1, 2, 6, 10] [(1, .dead), (2, .dead), (6, .v Tn192 x0), (10, .dead)] = [(1, .dead), (2, .dead), (6, .v Tn192 x0), (10, .dead)] := by kernel_rfl
theorem kp108_5 (x0 : Dn194) (x1 : Bool) (x2 : Dn191) (x3 : Nat) : keep [1, 2, 6, 10] [(1, .v Tn1910 x0), (2, .v .bool x1), (6, .dead), (10, .it x2 x3)] = [(1, .v Tn1910 x0), (2, .v .bool x1), (6, .dead), (10, .it x2 x3)] := by kernel_rfl
theorem kp108_6 (x0 : Dn194) (x1 : Bool) (x2 : Dn191) (x3 : Nat) (x4 : Bool) (x5 : Bool) : keep [1, 2, 10, 11] [(1, .v Tn1910 x0), (2, .v .bool x1), (10, .it x2 x3), (11, .tup [.v .bool x4]), (12, .v .bool x5)] = [(1, .v Tn1910 x0), (2, .v .bool x1), (10, .it x2 x3), (11, .tup [.v .bool x4])] := by kernel_rfl
theorem hb108_2 (x0 : Dn194) (x1 : Bool) (x2 : Dn191) (x3 : Nat) (x4 : Bool) (x5 : Bool) : boolOf? (ent [(1, .v Tn1910 x0), (2, .v .bool x1), (10, .it x2 x3), (11, .tup [.v .bool x4]), (12, .v .bool x5)] (.t 12)) = some x5 := by kernel_rfl
def g108_4b {R : Type} (x0 : Dn194) (x1 : Bool) (x2 : Dn191) (x3 : Nat) (x4 : Bool) : Option R :=
none /- extract 1 of 1 -/
theorem t108_4b {N : Nat} {cl : Cal} {R : Type} (K : KE R) (x0 : Dn194) (x1 : Bool) (x2 : Dn191) (x3 : Nat) (x4 : Bool) : exec cl N c108_4 [(1, .v Tn1910 x0), (2, .v .bool x1), (10, .it x2 x3), (11, .tup [.v .bool x4])] K = (g108_4b x0 x1 x2 x3 x4) := by
  kernel_rfl
def g108_9 {R : Type} (x0 : Dn194) (x1 : Bool) (x2 : Dn191) (x3 : Nat) (k0 : Int → Option R) (k1 : Dn194 → Bool → Dn191 → Nat → Option R) (k2 : Dn194 → Bool → Dn191 → Nat → Bool → Int → Int → Option R) (k3 : Dn194 → Bool → Dn191 → Nat → Bool → Option R) : Option R :=
(g108_2 x0 x1 x2 x3 (fun y0 y1 y2 y3 y4 y5 y6 y7 => brB y7 ((fun y0 y1 y2 y3 y4 y5 y6 => (g108_4 y0 y1 y2 y3 y4 y5 y6 (fun y0 y1 y2 y3 y4 y5 => (g108_5 y0 y1 y2 y3 y4 y5 (fun y0 y1 y2 y3 y4 y5 => brB y5 (g108_6 y0 y1 y2 y3 y4 y5 (fun y0 => ((fun y0 => (k0 y0)) y0))) (k1 y0 y1 y3 y4)))))) y0 y1 y2 y3 y4 y5 y6) (k2 y0 y1 y2 y3 y4 y5 y6)) (fun y0 y1 y2 y3 y4 y5 => brB y5 (g108_4b y0 y1 y2 y3 y4) (k3 y0 y1 y2 y3 y4)))
theorem t108_9 {N : Nat} {cl : Cal} {R : Type} (K : KE R) (x0 : Dn194) (x1 : Bool) (x2 : Dn191) (x3 : Nat) : exec cl N c108_9 [(1, .v Tn1910 x0), (2, .v .bool x1), (10, .it x2 x3)] K = (g108_9 x0 x1 x2 x3 (fun y0 => K .ret [(1, .dead), (2, .dead), (6, .v Tn192 y0), (10, .dead)]) (fun y0 y1 y2 y3 => K .normal [(1, .v Tn1910 y0), (2, .v .bool y1), (6, .dead), (10, .it y2 y3)]) (fun y0 y1 y2 y3 y4 y5 y6 => K (.exit 0) [(1, .v Tn1910 y0), (2, .v .bool y1), (10, .it y2 y3), (11, .tup [.v .bool y4, .v Tn192 y5, .v Tn193 y6])]) (fun y0 y1 y2 y3 y4 => K (.exit 0) [(1, .v Tn1910 y0), (2, .v .bool y1), (10, .it y2 y3), (11, .tup [.v .bool y4])])) := by
  simp only [c108_9, exec_seq, seqK_normal, seqK_exit, seqK_ret, t108_2, c108_3, exec_out, exec_cond', hb108_0, Option.bind_some, brB_true, brB_false, exec_skip, exec_exit, kp108_1, c108_8, exec_block, t108_4, t108_5, c108_7, hb108_1, t108_6, exec_ret, kp108_2, kp108_3, blockK_normal, blockK_ret, blockK_eq, kp108_4, kp108_5, hb108_2, kp108_6, t108_4b]
  rfl

theorem kp108_7 (x0 : Dn194) (x1 : Bool) (x2 : Dn191) (x3 : Nat) : keep [1, 2, 10] [(1, .v Tn1910 x0), (2, .v .bool x1), (6, .dead), (10, .it x2 x3)] = [(1, .v Tn1910 x0), (2, .v .bool x1), (10, .it x2 x3)] := by kernel_rfl
def l108_10 {R : Type} (k0 : Int → Option R) (k1 : Dn194 → Bool → Dn191 → Nat → Bool → Int → Int → Option R) (k2 : Dn194 → Bool → Dn191 → Nat → Bool → Option R) : Nat → Dn194 → Bool → Dn191 → Nat → Option R
  | 0, _, _, _, _ => none
  | m + 1, x0, x1, x2, x3 => (g108_9 x0 x1 x2 x3 k0 (fun y0 y1 y2 y3 => l108_10 k0 k1 k2 m y0 y1 y2 y3) k1 k2)
theorem lt108_10 {N : Nat} {cl : Cal} {R : Type} (K : KE R) : ∀ (m : Nat) (x0 : Dn194) (x1 : Bool) (x2 : Dn191) (x3 : Nat), iter [1, 2, 10] (fun env K => exec cl N c108_9 env K) K m [(1, .v Tn1910 x0), (2, .v .bool x1), (10, .it x2 x3)] = l108_10 (fun y0 => K .ret [(1, .dead), (2, .dead), (6, .v Tn192 y0), (10, .dead)]) (fun y0 y1 y2 y3 y4 y5 y6 => K (.exit 0) [(1, .v Tn1910 y0), (2, .v .bool y1), (10, .it y2 y3), (11, .tup [.v .bool y4, .v Tn192 y5, .v Tn193 y6])]) (fun y0 y1 y2 y3 y4 => K (.exit 0) [(1, .v Tn1910 y0), (2, .v .bool y1), (10, .it y2 y3), (11, .tup [.v .bool y4])]) m x0 x1 x2 x3 := by
  intro m
  induction m with
  | zero => intros; rfl
  | succ m ih =>
    intro x0 x1 x2 x3
    simp only [iter_succ, t108_9, loopK_normal, loopK_exit, loopK_ret, kp108_7, ih]
    rfl

theorem kp108_8 (x0 : Int) : keep [6] [(1, .dead), (2, .dead), (6, .v Tn192 x0), (10, .dead)] = [(6, .v Tn192 x0)] := by kernel_rfl
theorem kp108_9 (x0 : Dn194) (x1 : Bool) (x2 : Dn191) (x3 : Nat) (x4 : Bool) (x5 : Int) (x6 : Int) : keep [6] [(1, .v Tn1910 x0), (2, .v .bool x1), (10, .it x2 x3), (11, .tup [.v .bool x4, .v Tn192 x5, .v Tn193 x6])] = [(6, .dead)] := by kernel_rfl
theorem kp108_10 (x0 : Dn194) (x1 : Bool) (x2 : Dn191) (x3 : Nat) (x4 : Bool) : keep [6] [(1, .v Tn1910 x0), (2, .v .bool x1), (10, .it x2 x3), (11, .tup [.v .bool x4])] = [(6, .dead)] := by kernel_rfl
def g108_10 {R : Type} (N : Nat) (x0 : Dn194) (x1 : Bool) (x2 : Dn191) (x3 : Nat) (k0 : Int → Option R) (k1 : Option R) : Option R :=
l108_10 (fun y0 => k0 y0) (fun y0 y1 y2 y3 y4 y5 y6 => k1) (fun y0 y1 y2 y3 y4 => k1) N x0 x1 x2 x3
theorem t108_10 {N : Nat} {cl : Cal} {R : Type} (K : KE R) (x0 : Dn194) (x1 : Bool) (x2 : Dn191) (x3 : Nat) : exec cl N c108_10 [(1, .v Tn1910 x0), (2, .v .bool x1), (10, .it x2 x3)] K = (g108_10 N x0 x1 x2 x3 (fun y0 => K .ret [(6, .v Tn192 y0)]) (K (.exit 0) [(6, .dead)])) := by
  simp only [c108_10, exec_out, exec_loop, kp108_0, lt108_10, kp108_10, kp108_8, kp108_9]
  rfl

theorem kp108_11 (x0 : Int) : keep [6] [(6, .v Tn192 x0)] = [(6, .v Tn192 x0)] := by kernel_rfl
theorem kp108_12 : keep [6] [(6, .dead)] = [(6, .dead)] := by kernel_rfl
def g108_12 {R : Type} (k0 : Int → Option R) : Option R :=
k0 (-1 : Int)
theorem t108_12 {N : Nat} {cl : Cal} {R : Type} (K : KE R) : exec cl N c108_12 [(6, .dead)] K = (g108_12 (fun y0 => K .normal [(6, .v Tn192 y0)])) := by
  kernel_rfl
def g108_13 {R : Type} (N : Nat) (x0 : Dn191) (x1 : Dn194) (x2 : Bool) (k0 : Int → Option R) : Option R :=
(g108_0 x0 x1 x2 (fun y0 y1 y2 => (g108_1 y0 y1 y2 (fun y0 y1 y2 y3 => (g108_10 N y0 y1 y2 y3 (fun y0 => (k0 y0)) (g108_12 (fun y0 => (k0 y0))))))))
theorem t108_13 {N : Nat} {cl : Cal} {R : Type} (K : KE R) (x0 : Dn191) (x1 : Dn194) (x2 : Bool) : exec cl N c108_13 [(0, .v .str x0), (1, .v Tn1910 x1), (2, .v .bool x2)] K = (g108_13 N x0 x1 x2 (fun y0 => K .ret [(6, .v Tn192 y0)])) := by
  simp only [c108_13, exec_seq, seqK_normal, seqK_exit, seqK_ret, t108_0, t108_1, c108_11, exec_out, exec_block, t108_10, blockK_normal, blockK_ret, blockK_eq, kp108_11, kp108_12, t108_12, exec_ret]
  rfl

theorem rk108_0 (y0 : Int) : retK d108 .ret [(6, .v Tn192 y0)] = some [.v Tn192 y0] := by kernel_rfl
def g108 {R : Type} (N : Nat) (x0 : Dn191) (x1 : Dn194) (x2 : Bool) (k : Int → Option R) : Option R :=
(g108_13 N x0 x1 x2 (fun y0 => k y0))
theorem gen108 {N : Nat} {cl : Cal} (x0 : Dn191) (x1 : Dn194) (x2 : Bool) {R : Type} (k : List E → Option R) : exec cl N c108 (params 0 [.v .str x0, .v Tn1910 x1, .v .bool x2]) (fun e env => (retK d108 e env).bind k) = g108 N x0 x1 x2 (fun (r0 : Int) => k [.v Tn192 r0]) := by
  have e0 : params 0 [.v .str x0, .v Tn1910 x1, .v .bool x2] = [(0, .v .str x0), (1, .v Tn1910 x1), (2, .v .bool x2)] := by kernel_rfl
  simp only [c108, e0, t108_13, rk108_0, Option.bind_some]
  rfl

def ctr108 (S : Dn191 → Dn194 → Bool → Option (Int)) : Ctr := { A := Dn191 × Dn194 × Bool × Unit, B := Int, f := 108, enc := fun a => [.v .str a.1, .v Tn1910 a.2.1, .v .bool a.2.2.1], dec := (decC (decV .str) (decC (decV Tn1910) (decC (decV .bool) dec0))), S := fun a => S a.1 a.2.1 a.2.2.1, ent := fun b => [.v Tn192 b], ok := (decV_cons (T := .str) (decV_cons (T := Tn1910) (decV_cons (T := .bool) (fun es b h => dec0_some h)))) }
def S108 (N : Nat) (x0 : Dn191) (x1 : Dn194) (x2 : Bool) : Option (Int) := g108 N x0 x1 x2 (fun (r0 : Int) => some (r0))
-- strings.IndexFunc
def g101_0 {R : Type} (x0 : Dn191) (x1 : Dn194) (k0 : Dn191 → Dn194 → Option R) : Option R :=
k0 x0 x1
theorem t101_0 {N : Nat} {cl : Cal} {R : Type} (K : KE R) (x0 : Dn191) (x1 : Dn194) : exec cl N c101_0 [(0, .v .str x0), (1, .v Tn1910 x1)] K = (g101_0 x0 x1 (fun y0 y1 => K .normal [(0, .v .str y0), (1, .v Tn1910 y1)])) := by
  kernel_rfl
def g101_1 {R : Type} (S108 : Dn191 → Dn194 → Bool → Option (Int)) (x0 : Dn191) (x1 : Dn194) (k0 : Int → Option R) : Option R :=
(S108 x0 x1 true).bind fun r117 =>
k0 r117
theorem t101_1 {N : Nat} {cl : Cal} (S108 : Dn191 → Dn194 → Bool → Option (Int)) (h108 : (ctr108 S108).holds cl) {R : Type} (K : KE R) (x0 : Dn191) (x1 : Dn194) : exec cl N c101_1 [(0, .v .str x0), (1, .v Tn1910 x1)] K = (g101_1 S108 x0 x1 (fun y0 => K .normal [(4, .v Tn192 y0)])) := by
  rw [← put_eq h108]
  kernel_rfl
def g101_2 {R : Type} (S108 : Dn191 → Dn194 → Bool → Option (Int)) (x0 : Dn191) (x1 : Dn194) (k0 : Int → Option R) : Option R :=
(g101_0 x0 x1 (fun y0 y1 => (g101_1 S108 y0 y1 (fun y0 => (k0 y0)))))
theorem t101_2 {N : Nat} {cl : Cal} (S108 : Dn191 → Dn194 → Bool → Option (Int)) (h108 : (ctr108 S108).holds cl) {R : Type} (K : KE R) (x0 : Dn191) (x1 : Dn194) : exec cl N c101_2 [(0, .v .str x0), (1, .v Tn1910 x1)] K = (g101_2 S108 x0 x1 (fun y0 => K .ret [(4, .v Tn192 y0)])) := by
  simp only [c101_2, exec_seq, seqK_normal, seqK_exit, seqK_ret, t101_0, t101_1 S108 h108, exec_ret]
  rfl

theorem rk101_0 (y0 : Int) : retK d101 .ret [(4, .v Tn192 y0)] = some [.v Tn192 y0] := by kernel_rfl
def g101 {R : Type} (S108 : Dn191 → Dn194 → Bool → Option (Int)) (x0 : Dn191) (x1 : Dn194) (k : Int → Option R) : Option R :=
(g101_2 S108 x0 x1 (fun y0 => k y0))
theorem gen101 {N : Nat} {cl : Cal} (S108 : Dn191 → Dn194 → Bool → Option (Int)) (h108 : (ctr108 S108).holds cl) (x0 : Dn191) (x1 : Dn194) {R : Type} (k : List E → Option R) : exec cl N c101 (params 0 [.v .str x0, .v Tn1910 x1]) (fun e env => (retK d101 e env).bind k) = g101 S108 x0 x1 (fun (r0 : Int) => k [.v Tn192 r0]) := by
  have e0 : params 0 [.v .str x0, .v Tn1910 x1] = [(0, .v .str x0), (1, .v Tn1910 x1)] := by kernel_rfl
  simp only [c101, e0, t101_2 S108 h108, rk101_0, Option.bind_some]
  rfl

def ctr101 (S : Dn191 → Dn194 → Option (Int)) : Ctr := { A := Dn191 × Dn194 × Unit, B := Int, f := 101, enc := fun a => [.v .str a.1, .v Tn1910 a.2.1], dec := (decC (decV .str) (decC (decV Tn1910) dec0)), S := fun a => S a.1 a.2.1, ent := fun b => [.v Tn192 b], ok := (decV_cons (T := .str) (decV_cons (T := Tn1910) (fun es b h => dec0_some h))) }
def S101 (N : Nat) (x0 : Dn191) (x1 : Dn194) : Option (Int) := g101 (S108 N) x0 x1 (fun (r0 : Int) => some (r0))
-- strings.ContainsFunc
def g91_0 {R : Type} (x0 : Dn191) (x1 : Dn194) (k0 : Dn191 → Dn194 → Option R) : Option R :=
k0 x0 x1
theorem t91_0 {N : Nat} {cl : Cal} {R : Type} (K : KE R) (x0 : Dn191) (x1 : Dn194) : exec cl N c91_0 [(0, .v .str x0), (1, .v Tn1910 x1)] K = (g91_0 x0 x1 (fun y0 y1 => K .normal [(0, .v .str y0), (1, .v Tn1910 y1)])) := by
  kernel_rfl
def g91_1 {R : Type} (S101 : Dn191 → Dn194 → Option (Int)) (x0 : Dn191) (x1 : Dn194) (k0 : Bool → Option R) : Option R :=
(S101 x0 x1).bind fun r120 =>
k0 (decide (r120 ≥ (0 : Int)))
theorem t91_1 {N : Nat} {cl : Cal} (S101 : Dn191 → Dn194 → Option (Int)) (h101 : (ctr101 S101).holds cl) {R : Type} (K : KE R) (x0 : Dn191) (x1 : Dn194) : exec cl N c91_1 [(0, .v .str x0), (1, .v Tn1910 x1)] K = (g91_1 S101 x0 x1 (fun y0 => K .normal [(4, .v .bool y0)])) := by
  rw [← put_eq h101]
  kernel_rfl
def g91_2 {R : Type} (S101 : Dn191 → Dn194 → Option (Int)) (x0 : Dn191) (x1 : Dn194) (k0 : Bool → Option R) : Option R :=
(g91_0 x0 x1 (fun y0 y1 => (g91_1 S101 y0 y1 (fun y0 => (k0 y0)))))
theorem t91_2 {N : Nat} {cl : Cal} (S101 : Dn191 → Dn194 → Option (Int)) (h101 : (ctr101 S101).holds cl) {R : Type} (K : KE R) (x0 : Dn191) (x1 : Dn194) : exec cl N c91_2 [(0, .v .str x0), (1, .v Tn1910 x1)] K = (g91_2 S101 x0 x1 (fun y0 => K .ret [(4, .v .bool y0)])) := by
  simp only [c91_2, exec_seq, seqK_normal, seqK_exit, seqK_ret, t91_0, t91_1 S101 h101, exec_ret]
  rfl

theorem rk91_0 (y0 : Bool) : retK d91 .ret [(4, .v .bool y0)] = some [.v .bool y0] := by kernel_rfl
def g91 {R : Type} (S101 : Dn191 → Dn194 → Option (Int)) (x0 : Dn191) (x1 : Dn194) (k : Bool → Option R) : Option R :=
(g91_2 S101 x0 x1 (fun y0 => k y0))
theorem gen91 {N : Nat} {cl : Cal} (S101 : Dn191 → Dn194 → Option (Int)) (h101 : (ctr101 S101).holds cl) (x0 : Dn191) (x1 : Dn194) {R : Type} (k : List E → Option R) : exec cl N c91 (params 0 [.v .str x0, .v Tn1910 x1]) (fun e env => (retK d91 e env).bind k) = g91 S101 x0 x1 (fun (r0 : Bool) => k [.v .bool r0]) := by
  have e0 : params 0 [.v .str x0, .v Tn1910 x1] = [(0, .v .str x0), (1, .v Tn1910 x1)] := by kernel_rfl
  simp only [c91, e0, t91_2 S101 h101, rk91_0, Option.bind_some]
  rfl

def ctr91 (S : Dn191 → Dn194 → Option (Bool)) : Ctr := { A := Dn191 × Dn194 × Unit, B := Bool, f := 91, enc := fun a => [.v .str a.1, .v Tn1910 a.2.1], dec := (decC (decV .str) (decC (decV Tn1910) dec0)), S := fun a => S a.1 a.2.1, ent := fun b => [.v .bool b], ok := (decV_cons (T := .str) (decV_cons (T := Tn1910) (fun es b h => dec0_some h))) }
def S91 (N : Nat) (x0 : Dn191) (x1 : Dn194) : Option (Bool) := g91 (S101 N) x0 x1 (fun (r0 : Bool) => some (r0))
-- anceps/sound.Valid
def g75_0 {R : Type} (x0 : Dn196) (k0 : Dn196 → Option R) : Option R :=
k0 x0
theorem t75_0 {N : Nat} {cl : Cal} {R : Type} (K : KE R) (x0 : Dn196) : exec cl N c75_0 [(0, .v Tn1915 x0)] K = (g75_0 x0 (fun y0 => K .normal [(1, .loc Tn1915 .no y0)])) := by
  kernel_rfl
def g75_1 {R : Type} (x0 : Dn196) (k0 : Dn196 → Bool → Option R) : Option R :=
brB (decide (x0.1 < (1 : Int))) (k0 x0 true) (k0 x0 (decide (x0.1 > (9 : Int))))
theorem t75_1 {N : Nat} {cl : Cal} {R : Type} (K : KE R) (x0 : Dn196) : exec cl N c75_1 [(1, .loc Tn1915 .no x0)] K = (g75_1 x0 (fun y0 y1 => K .normal [(1, .loc Tn1915 .no y0), (3, .v .bool y1)])) := by
  kernel_rfl
def g75_2 {R : Type} (x0 : Dn196) (x1 : Bool) (k0 : Int → Option R) : Option R :=
k0 (1 : Int)
theorem t75_2 {N : Nat} {cl : Cal} {R : Type} (K : KE R) (x0 : Dn196) (x1 : Bool) : exec cl N c75_2 [(1, .loc Tn1915 .no x0), (3, .v .bool x1)] K = (g75_2 x0 x1 (fun y0 => K .normal [(2, .v Tn192 y0)])) := by
  kernel_rfl
theorem kp75_0 (x0 : Int) : keep [2] [(2, .v Tn192 x0)] = [(2, .v Tn192 x0)] := by kernel_rfl
def g75_3 {R : Type} (S90 : Dn196 → Option (Bool)) (x0 : Dn196) (x1 : Bool) (k0 : Dn196 → Bool → Option R) : Option R :=
(S90 x0).bind fun r125 =>
k0 x0 (!r125)
theorem t75_3 {N : Nat} {cl : Cal} (S90 : Dn196 → Option (Bool)) (h90 : (ctr90 S90).holds cl) {R : Type} (K : KE R) (x0 : Dn196) (x1 : Bool) : exec cl N c75_3 [(1, .loc Tn1915 .no x0), (3, .v .bool x1)] K = (g75_3 S90 x0 x1 (fun y0 y1 => K .normal [(1, .loc Tn1915 .no y0), (12, .v .bool y1)])) := by
  rw [← put_eq h90]
  kernel_rfl
def g75_4 {R : Type} (x0 : Dn196) (x1 : Bool) (k0 : Int → Option R) : Option R :=
k0 (6 : Int)
theorem t75_4 {N : Nat} {cl : Cal} {R : Type} (K : KE R) (x0 : Dn196) (x1 : Bool) : exec cl N c75_4 [(1, .loc Tn1915 .no x0), (12, .v .bool x1)] K = (g75_4 x0 x1 (fun y0 => K .normal [(2, .v Tn192 y0)])) := by
  kernel_rfl
def g75_5 {R : Type} (x0 : Dn196) (x1 : Bool) (k0 : Dn196 → Bool → Option R) : Option R :=
k0 x0 (x0.2.2.1 == ([] : List UInt8))
theorem t75_5 {N : Nat} {cl : Cal} {R : Type} (K : KE R) (x0 : Dn196) (x1 : Bool) : exec cl N c75_5 [(1, .loc Tn1915 .no x0), (12, .v .bool x1)] K = (g75_5 x0 x1 (fun y0 y1 => K .normal [(1, .loc Tn1915 .no y0), (16, .v .bool y1)])) := by
  kernel_rfl
def g75_6 {R : Type} (x0 : Dn196) (x1 : Bool) (k0 : Int → Option R) : Option R :=
k0 (7 : Int)
theorem t75_6 {N : Nat} {cl : Cal} {R : Type} (K : KE R) (x0 : Dn196) (x1 : Bool) : exec cl N c75_6 [(1, .loc Tn1915 .no x0), (16, .v .bool x1)] K = (g75_6 x0 x1 (fun y0 => K .normal [(2, .v Tn192 y0)])) := by
  kernel_rfl
def g75_7 {R : Type} (x0 : Dn196) (x1 : Bool) (k0 : Dn196 → Bool → Option R) : Option R :=
k0 x0 (decide ((x0.2.2.1.length : Int) > (8 : Int)))
theorem t75_7 {N : Nat} {cl : Cal} {R : Type} (K : KE R) (x0 : Dn196) (x1 : Bool) : exec cl N c75_7 [(1, .loc Tn1915 .no x0), (16, .v .bool x1)] K = (g75_7 x0 x1 (fun y0 y1 => K .normal [(1, .loc Tn1915 .no y0), (20, .v .bool y1)])) := by
  kernel_rfl
def g75_8 {R : Type} (x0 : Dn196) (x1 : Bool) (k0 : Int → Option R) : Option R :=
k0 (3 : Int)
theorem t75_8 {N : Nat} {cl : Cal} {R : Type} (K : KE R) (x0 : Dn196) (x1 : Bool) : exec cl N c75_8 [(1, .loc Tn1915 .no x0), (20, .v .bool x1)] K = (g75_8 x0 x1 (fun y0 => K .normal [(2, .v Tn192 y0)])) := by
  kernel_rfl
def g75_9 {R : Type} (S91 : Dn191 → Dn194 → Option (Bool)) (S92 : Int → Option (Bool)) (x0 : Dn196) (x1 : Bool) (k0 : Bool → Option R) : Option R :=
(S91 x0.2.2.1 (fun (x128 : (Int × Unit)) => ((S92 x128.1).bind fun b129 => some [.v .bool b129]).bind (unE .bool))).bind fun r130 =>
k0 r130
theorem t75_9 {N : Nat} {cl : Cal} (S91 : Dn191 → Dn194 → Option (Bool)) (S92 : Int → Option (Bool)) (h91 : (ctr91 S91).holds cl) (h92 : (ctr92 S92).holds cl) {R : Type} (K : KE R) (x0 : Dn196) (x1 : Bool) : exec cl N c75_9 [(1, .loc Tn1915 .no x0), (20, .v .bool x1)] K = (g75_9 S91 S92 x0 x1 (fun y0 => K .normal [(25, .v .bool y0)])) := by
  rw [← put_eq h91]
  rw [← put_eq h92]
  kernel_rfl
def g75_10 {R : Type} (x0 : Bool) (k0 : Int → Option R) : Option R :=
k0 (2 : Int)
theorem t75_10 {N : Nat} {cl : Cal} {R : Type} (K : KE R) (x0 : Bool) : exec cl N c75_10 [(25, .v .bool x0)] K = (g75_10 x0 (fun y0 => K .normal [(2, .v Tn192 y0)])) := by
  kernel_rfl
theorem kp75_1 (x0 : Bool) : keep [2] [(25, .v .bool x0)] = [(2, .dead)] := by kernel_rfl
theorem hb75_0 (x0 : Bool) : boolOf? (ent [(25, .v .bool x0)] (.t 25)) = some x0 := by kernel_rfl
theorem kp75_2 : keep [2] [(2, .dead)] = [(2, .dead)] := by kernel_rfl
theorem hb75_1 (x0 : Dn196) (x1 : Bool) : boolOf? (ent [(1, .loc Tn1915 .no x0), (20, .v .bool x1)] (.t 20)) = some x1 := by kernel_rfl
theorem hb75_2 (x0 : Dn196) (x1 : Bool) : boolOf? (ent [(1, .loc Tn1915 .no x0), (16, .v .bool x1)] (.t 16)) = some x1 := by kernel_rfl
theorem hb75_3 (x0 : Dn196) (x1 : Bool) : boolOf? (ent [(1, .loc Tn1915 .no x0), (12, .v .bool x1)] (.t 12)) = some x1 := by kernel_rfl
theorem hb75_4 (x0 : Dn196) (x1 : Bool) : boolOf? (ent [(1, .loc Tn1915 .no x0), (3, .v .bool x1)] (.t 3)) = some x1 := by kernel_rfl
def g75_17 {R : Type} (k0 : Int → Option R) : Option R :=
k0 (0 : Int)
theorem t75_17 {N : Nat} {cl : Cal} {R : Type} (K : KE R) : exec cl N c75_17 [(2, .dead)] K = (g75_17 (fun y0 => K .normal [(2, .v Tn192 y0)])) := by
  kernel_rfl
def g75_18 {R : Type} (S90 : Dn196 → Option (Bool)) (S91 : Dn191 → Dn194 → Option (Bool)) (S92 : Int → Option (Bool)) (x0 : Dn196) (k0 : Int → Option R) : Option R :=
(g75_0 x0 (fun y0 => (g75_1 y0 (fun y0 y1 => brB y1 (g75_2 y0 y1 (fun y0 => ((fun y0 => (k0 y0)) y0))) (g75_3 S90 y0 y1 (fun y0 y1 => brB y1 (g75_4 y0 y1 (fun y0 => ((fun y0 => (k0 y0)) y0))) (g75_5 y0 y1 (fun y0 y1 => brB y1 (g75_6 y0 y1 (fun y0 => ((fun y0 => (k0 y0)) y0))) (g75_7 y0 y1 (fun y0 y1 => brB y1 (g75_8 y0 y1 (fun y0 => ((fun y0 => (k0 y0)) y0))) (g75_9 S91 S92 y0 y1 (fun y0 => brB y0 (g75_10 y0 (fun y0 => ((fun y0 => (k0 y0)) y0))) (g75_17 (fun y0 => (k0 y0)))))))))))))))
theorem t75_18 {N : Nat} {cl : Cal} (S90 : Dn196 → Option (Bool)) (S91 : Dn191 → Dn194 → Option (Bool)) (S92 : Int → Option (Bool)) (h90 : (ctr90 S90).holds cl) (h91 : (ctr91 S91).holds cl) (h92 : (ctr92 S92).holds cl) {R : Type} (K : KE R) (x0 : Dn196) : exec cl N c75_18 [(0, .v Tn1915 x0)] K = (g75_18 S90 S91 S92 x0 (fun y0 => K .ret [(2, .v Tn192 y0)])) := by
  simp only [c75_18, exec_seq, seqK_normal, seqK_exit, seqK_ret, t75_0, c75_16, exec_out, exec_block, t75_1, c75_15, exec_cond', hb75_4, Option.bind_some, brB_true, brB_false, t75_2, exec_ret, t75_3 S90 h90, c75_14, hb75_3, t75_4, t75_5, c75_13, hb75_2, t75_6, t75_7, c75_12, hb75_1, t75_8, t75_9 S91 S92 h91 h92, c75_11, hb75_0, t75_10, exec_skip, kp75_0, kp75_1, kp75_2, blockK_normal, blockK_ret, blockK_eq, t75_17]
  rfl

theorem rk75_0 (y0 : Int) : retK d75 .ret [(2, .v Tn192 y0)] = some [.v Tn192 y0] := by kernel_rfl
def g75 {R : Type} (S90 : Dn196 → Option (Bool)) (S91 : Dn191 → Dn194 → Option (Bool)) (S92 : Int → Option (Bool)) (x0 : Dn196) (k : Int → Option R) : Option R :=
(g75_18 S90 S91 S92 x0 (fun y0 => k y0))
theorem gen75 {N : Nat} {cl : Cal} (S90 : Dn196 → Option (Bool)) (S91 : Dn191 → Dn194 → Option (Bool)) (S92 : Int → Option (Bool)) (h90 : (ctr90 S90).holds cl) (h91 : (ctr91 S91).holds cl) (h92 : (ctr92 S92).holds cl) (x0 : Dn196) {R : Type} (k : List E → Option R) : exec cl N c75 (params 0 [.v Tn1915 x0]) (fun e env => (retK d75 e env).bind k) = g75 S90 S91 S92 x0 (fun (r0 : Int) => k [.v Tn192 r0]) := by
  have e0 : params 0 [.v Tn1915 x0] = [(0, .v Tn1915 x0)] := by kernel_rfl
  simp only [c75, e0, t75_18 S90 S91 S92 h90 h91 h92, rk75_0, Option.bind_some]
  rfl

def ctr75 (S : Dn196 → Option (Int)) : Ctr := { A := Dn196 × Unit, B := Int, f := 75, enc := fun a => [.v Tn1915 a.1], dec := (decC (decV Tn1915) dec0), S := fun a => S a.1, ent := fun b => [.v Tn192 b], ok := (decV_cons (T := Tn1915) (fun es b h => dec0_some h)) }
def S75 (N : Nat) (x0 : Dn196) : Option (Int) := g75 (S90 N) (S91 N) (S92 N) x0 (fun (r0 : Int) => some (r0))
-- anceps/junction.valid
def g55_0 {R : Type} (x0 : Dn198) (k0 : Dn198 → Option R) : Option R :=
k0 x0
theorem t55_0 {N : Nat} {cl : Cal} {R : Type} (K : KE R) (x0 : Dn198) : exec cl N c55_0 [(0, .v Tn1918 x0)] K = (g55_0 x0 (fun y0 => K .normal [(0, .v Tn1918 y0)])) := by
  kernel_rfl
def g55_1 {R : Type} (x0 : Dn198) (k0 : Dn198 → Bool → Option R) : Option R :=
k0 x0 (decide ((x0.length : Int) > (200 : Int)))
theorem t55_1 {N : Nat} {cl : Cal} {R : Type} (K : KE R) (x0 : Dn198) : exec cl N c55_1 [(0, .v Tn1918 x0)] K = (g55_1 x0 (fun y0 y1 => K .normal [(0, .v Tn1918 y0), (8, .v .bool y1)])) := by
  kernel_rfl
def g55_2 {R : Type} (x0 : Dn198) (x1 : Bool) (k0 : Int → Option R) : Option R :=
k0 (3 : Int)
theorem t55_2 {N : Nat} {cl : Cal} {R : Type} (K : KE R) (x0 : Dn198) (x1 : Bool) : exec cl N c55_2 [(0, .v Tn1918 x0), (8, .v .bool x1)] K = (g55_2 x0 x1 (fun y0 => K .normal [(2, .v Tn192 y0)])) := by
  kernel_rfl
theorem kp55_0 (x0 : Int) : keep [0, 2] [(2, .v Tn192 x0)] = [(0, .dead), (2, .v Tn192 x0)] := by kernel_rfl
theorem kp55_1 (x0 : Dn198) (x1 : Bool) : keep [0, 2] [(0, .v Tn1918 x0), (8, .v .bool x1)] = [(0, .v Tn1918 x0), (2, .dead)] := by kernel_rfl
theorem hb55_0 (x0 : Dn198) (x1 : Bool) : boolOf? (ent [(0, .v Tn1918 x0), (8, .v .bool x1)] (.t 8)) = some x1 := by kernel_rfl
def g55_4 {R : Type} (x0 : Dn198) (k0 : Dn198 → Int → Int → Option R) : Option R :=
k0 x0 (x0.length : Int) (0 : Int)
theorem t55_4 {N : Nat} {cl : Cal} {R : Type} (K : KE R) (x0 : Dn198) : exec cl N c55_4 [(0, .v Tn1918 x0), (2, .dead)] K = (g55_4 x0 (fun y0 y1 y2 => K .normal [(9, .v Tn1918 y0), (10, .v Tn192 y1), (11, .v Tn192 y2)])) := by
  kernel_rfl
theorem kp55_2 (x0 : Dn198) (x1 : Int) (x2 : Int) : keep [9, 10, 11] [(9, .v Tn1918 x0), (10, .v Tn192 x1), (11, .v Tn192 x2)] = [(9, .v Tn1918 x0), (10, .v Tn192 x1), (11, .v Tn192 x2)] := by kernel_rfl
def g55_5 {R : Type} (x0 : Dn198) (x1 : Int) (x2 : Int) (k0 : Dn198 → Int → Int → Bool → Option R) : Option R :=
k0 x0 x1 x2 (decide (x2 < x1))
theorem t55_5 {N : Nat} {cl : Cal} {R : Type} (K : KE R) (x0 : Dn198) (x1 : Int) (x2 : Int) : exec cl N c55_5 [(9, .v Tn1918 x0), (10, .v Tn192 x1), (11, .v Tn192 x2)] K = (g55_5 x0 x1 x2 (fun y0 y1 y2 y3 => K .normal [(9, .v Tn1918 y0), (10, .v Tn192 y1), (11, .v Tn192 y2), (12, .v .bool y3)])) := by
  kernel_rfl
theorem kp55_3 (x0 : Dn198) (x1 : Int) (x2 : Int) (x3 : Bool) : keep [9, 10, 11] [(9, .v Tn1918 x0), (10, .v Tn192 x1), (11, .v Tn192 x2), (12, .v .bool x3)] = [(9, .v Tn1918 x0), (10, .v Tn192 x1), (11, .v Tn192 x2)] := by kernel_rfl
theorem hb55_1 (x0 : Dn198) (x1 : Int) (x2 : Int) (x3 : Bool) : boolOf? (ent [(9, .v Tn1918 x0), (10, .v Tn192 x1), (11, .v Tn192 x2), (12, .v .bool x3)] (.t 12)) = some x3 := by kernel_rfl
def g55_7 {R : Type} (x0 : Dn198) (x1 : Int) (x2 : Int) (k0 : Dn196 → Dn198 → Int → Int → Option R) : Option R :=
if 0 ≤ x2 ∧ x2 < (x0.length : Int) then
k0 (x0.getD x2.toNat ((0 : Int), ((0 : Int), ([], ())))) x0 x1 x2
else none
theorem t55_7 {N : Nat} {cl : Cal} {R : Type} (K : KE R) (x0 : Dn198) (x1 : Int) (x2 : Int) : exec cl N c55_7 [(9, .v Tn1918 x0), (10, .v Tn192 x1), (11, .v Tn192 x2)] K = (g55_7 x0 x1 x2 (fun y0 y1 y2 y3 => K .normal [(4, .loc Tn1915 .no y0), (9, .v Tn1918 y1), (10, .v Tn192 y2), (11, .v Tn192 y3)])) := by
  kernel_rfl
def g55_8 {R : Type} (S75 : Dn196 → Option (Int)) (x0 : Dn196) (x1 : Dn198) (x2 : Int) (x3 : Int) (k0 : Int → Dn198 → Int → Int → Option R) : Option R :=
(S75 x0).bind fun r136 =>
k0 r136 x1 x2 x3
theorem t55_8 {N : Nat} {cl : Cal} (S75 : Dn196 → Option (Int)) (h75 : (ctr75 S75).holds cl) {R : Type} (K : KE R) (x0 : Dn196) (x1 : Dn198) (x2 : Int) (x3 : Int) : exec cl N c55_8 [(4, .loc Tn1915 .no x0), (9, .v Tn1918 x1), (10, .v Tn192 x2), (11, .v Tn192 x3)] K = (g55_8 S75 x0 x1 x2 x3 (fun y0 y1 y2 y3 => K .normal [(5, .v Tn192 y0), (9, .v Tn1918 y1), (10, .v Tn192 y2), (11, .v Tn192 y3)])) := by
  rw [← put_eq h75]
  kernel_rfl
def g55_9 {R : Type} (x0 : Int) (x1 : Dn198) (x2 : Int) (x3 : Int) (k0 : Int → Dn198 → Int → Int → Bool → Option R) : Option R :=
k0 x0 x1 x2 x3 (x0 != (0 : Int))
theorem t55_9 {N : Nat} {cl : Cal} {R : Type} (K : KE R) (x0 : Int) (x1 : Dn198) (x2 : Int) (x3 : Int) : exec cl N c55_9 [(5, .v Tn192 x0), (9, .v Tn1918 x1), (10, .v Tn192 x2), (11, .v Tn192 x3)] K = (g55_9 x0 x1 x2 x3 (fun y0 y1 y2 y3 y4 => K .normal [(5, .v Tn192 y0), (9, .v Tn1918 y1), (10, .v Tn192 y2), (11, .v Tn192 y3), (18, .v .bool y4)])) := by
  kernel_rfl
def g55_10 {R : Type} (x0 : Int) (x1 : Dn198) (x2 : Int) (x3 : Int) (x4 : Bool) (k0 : Int → Option R) : Option R :=
k0 x0
theorem t55_10 {N : Nat} {cl : Cal} {R : Type} (K : KE R) (x0 : Int) (x1 : Dn198) (x2 : Int) (x3 : Int) (x4 : Bool) : exec cl N c55_10 [(5, .v Tn192 x0), (9, .v Tn1918 x1), (10, .v Tn192 x2), (11, .v Tn192 x3), (18, .v .bool x4)] K = (g55_10 x0 x1 x2 x3 x4 (fun y0 => K .normal [(2, .v Tn192 y0)])) := by
  kernel_rfl
theorem kp55_4 (x0 : Int) : keep [2, 9, 10, 11] [(2, .v Tn192 x0)] = [(2, .v Tn192 x0), (9, .dead), (10, .dead), (11, .dead)] := by kernel_rfl
theorem kp55_5 (x0 : Int) (x1 : Dn198) (x2 : Int) (x3 : Int) (x4 : Bool) : keep [2, 9, 10, 11] [(5, .v Tn192 x0), (9, .v Tn1918 x1), (10, .v Tn192 x2), (11, .v Tn192 x3), (18, .v .bool x4)] = [(2, .dead), (9, .v Tn1918 x1), (10, .v Tn192 x2), (11, .v Tn192 x3)] := by kernel_rfl
theorem hb55_2 (x0 : Int) (x1 : Dn198) (x2 : Int) (x3 : Int) (x4 : Bool) : boolOf? (ent [(5, .v Tn192 x0), (9, .v Tn1918 x1), (10, .v Tn192 x2), (11, .v Tn192 x3), (18, .v .bool x4)] (.t 18)) = some x4 := by kernel_rfl
theorem kp55_6 (x0 : Int) : keep [2, 9, 10, 11] [(2, .v Tn192 x0), (9, .dead), (10, .dead), (11, .dead)] = [(2, .v Tn192 x0), (9, .dead), (10, .dead), (11, .dead)] := by kernel_rfl
theorem kp55_7 (x0 : Dn198) (x1 : Int) (x2 : Int) : keep [2, 9, 10, 11] [(2, .dead), (9, .v Tn1918 x0), (10, .v Tn192 x1), (11, .v Tn192 x2)] = [(2, .dead), (9, .v Tn1918 x0), (10, .v Tn192 x1), (11, .v Tn192 x2)] := by kernel_rfl
def g55_13 {R : Type} (x0 : Dn198) (x1 : Int) (x2 : Int) (k0 : Dn198 → Int → Int → Option R) : Option R :=
k0 x0 x1 (IntKind.i64.wrap (x2 + (1 : Int)))
theorem t55_13 {N : Nat} {cl : Cal} {R : Type} (K : KE R) (x0 : Dn198) (x1 : Int) (x2 : Int) : exec cl N c55_13 [(2, .dead), (9, .v Tn1918 x0), (10, .v Tn192 x1), (11, .v Tn192 x2)] K = (g55_13 x0 x1 x2 (fun y0 y1 y2 => K .normal [(9, .v Tn1918 y0), (10, .v Tn192 y1), (11, .v Tn192 y2)])) := by
  kernel_rfl
def g55_14 {R : Type} (S75 : Dn196 → Option (Int)) (x0 : Dn198) (x1 : Int) (x2 : Int) (k0 : Int → Option R) (k1 : Dn198 → Int → Int → Option R) (k2 : Dn198 → Int → Int → Option R) : Option R :=
(g55_5 x0 x1 x2 (fun y0 y1 y2 y3 => brB y3 ((fun y0 y1 y2 => (g55_7 y0 y1 y2 (fun y0 y1 y2 y3 => (g55_8 S75 y0 y1 y2 y3 (fun y0 y1 y2 y3 => (g55_9 y0 y1 y2 y3 (fun y0 y1 y2 y3 y4 => brB y4 (g55_10 y0 y1 y2 y3 y4 (fun y0 => ((fun y0 => (k0 y0)) y0))) (g55_13 y1 y2 y3 k1)))))))) y0 y1 y2) (k2 y0 y1 y2)))
theorem t55_14 {N : Nat} {cl : Cal} (S75 : Dn196 → Option (Int)) (h75 : (ctr75 S75).holds cl) {R : Type} (K : KE R) (x0 : Dn198) (x1 : Int) (x2 : Int) : exec cl N c55_14 [(9, .v Tn1918 x0), (10, .v Tn192 x1), (11, .v Tn192 x2)] K = (g55_14 S75 x0 x1 x2 (fun y0 => K .ret [(2, .v Tn192 y0), (9, .dead), (10, .dead), (11, .dead)]) (fun y0 y1 y2 => K .normal [(9, .v Tn1918 y0), (10, .v Tn192 y1), (11, .v Tn192 y2)]) (fun y0 y1 y2 => K (.exit 0) [(9, .v Tn1918 y0), (10, .v Tn192 y1), (11, .v Tn192 y2)])) := by
  simp only [c55_14, exec_seq, seqK_normal, seqK_exit, seqK_ret, t55_5, c55_6, exec_out, exec_cond', hb55_1, Option.bind_some, brB_true, brB_false, exec_skip, exec_exit, kp55_3, c55_12, exec_block, t55_7, t55_8 S75 h75, t55_9, c55_11, hb55_2, t55_10, exec_ret, kp55_4, kp55_5, blockK_normal, blockK_ret, blockK_eq, kp55_6, kp55_7, t55_13]
  rfl

def l55_15 {R : Type} (S75 : Dn196 → Option (Int)) (k0 : Int → Option R) (k1 : Dn198 → Int → Int → Option R) : Nat → Dn198 → Int → Int → Option R
  | 0, _, _, _ => none
  | m + 1, x0, x1, x2 => (g55_14 S75 x0 x1 x2 k0 (fun y0 y1 y2 => l55_15 S75 k0 k1 m y0 y1 y2) k1)
theorem lt55_15 {N : Nat} {cl : Cal} (S75 : Dn196 → Option (Int)) (h75 : (ctr75 S75).holds cl) {R : Type} (K : KE R) : ∀ (m : Nat) (x0 : Dn198) (x1 : Int) (x2 : Int), iter [9, 10, 11] (fun env K => exec cl N c55_14 env K) K m [(9, .v Tn1918 x0), (10, .v Tn192 x1), (11, .v Tn192 x2)] = l55_15 S75 (fun y0 => K .ret [(2, .v Tn192 y0), (9, .dead), (10, .dead), (11, .dead)]) (fun y0 y1 y2 => K (.exit 0) [(9, .v Tn1918 y0), (10, .v Tn192 y1), (11, .v Tn192 y2)]) m x0 x1 x2 := by
  intro m
  induction m with
  | zero => intros; rfl
  | succ m ih =>
    intro x0 x1 x2
    simp only [iter_succ, t55_14 S75 h75, loopK_normal, loopK_exit, loopK_ret, kp55_2, ih]
    rfl

theorem kp55_8 (x0 : Int) : keep [2] [(2, .v Tn192 x0), (9, .dead), (10, .dead), (11, .dead)] = [(2, .v Tn192 x0)] := by kernel_rfl
theorem kp55_9 (x0 : Dn198) (x1 : Int) (x2 : Int) : keep [2] [(9, .v Tn1918 x0), (10, .v Tn192 x1), (11, .v Tn192 x2)] = [(2, .dead)] := by kernel_rfl
def g55_15 {R : Type} (N : Nat) (S75 : Dn196 → Option (Int)) (x0 : Dn198) (x1 : Int) (x2 : Int) (k0 : Int → Option R) (k1 : Option R) : Option R :=
l55_15 S75 (fun y0 => k0 y0) (fun y0 y1 y2 => k1) N x0 x1 x2
theorem t55_15 {N : Nat} {cl : Cal} (S75 : Dn196 → Option (Int)) (h75 : (ctr75 S75).holds cl) {R : Type} (K : KE R) (x0 : Dn198) (x1 : Int) (x2 : Int) : exec cl N c55_15 [(9, .v Tn1918 x0), (10, .v Tn192 x1), (11, .v Tn192 x2)] K = (g55_15 N S75 x0 x1 x2 (fun y0 => K .ret [(2, .v Tn192 y0)]) (K (.exit 0) [(2, .dead)])) := by
  simp only [c55_15, exec_out, exec_loop, kp55_2, lt55_15 S75 h75, kp55_8, kp55_9]
  rfl

theorem kp55_10 (x0 : Int) : keep [2] [(2, .v Tn192 x0)] = [(2, .v Tn192 x0)] := by kernel_rfl
theorem kp55_11 : keep [2] [(2, .dead)] = [(2, .dead)] := by kernel_rfl
def g55_17 {R : Type} (k0 : Int → Option R) : Option R :=
k0 (0 : Int)
theorem t55_17 {N : Nat} {cl : Cal} {R : Type} (K : KE R) : exec cl N c55_17 [(2, .dead)] K = (g55_17 (fun y0 => K .normal [(2, .v Tn192 y0)])) := by
  kernel_rfl
def g55_18 {R : Type} (N : Nat) (S75 : Dn196 → Option (Int)) (x0 : Dn198) (k0 : Int → Option R) (k1 : Int → Option R) : Option R :=
(g55_0 x0 (fun y0 => (g55_1 y0 (fun y0 y1 => brB y1 (g55_2 y0 y1 (fun y0 => ((fun y0 => (k0 y0)) y0))) ((fun y0 => (g55_4 y0 (fun y0 y1 y2 => (g55_15 N S75 y0 y1 y2 (fun y0 => (k1 y0)) (g55_17 (fun y0 => (k1 y0))))))) y0)))))
theorem t55_18 {N : Nat} {cl : Cal} (S75 : Dn196 → Option (Int)) (h75 : (ctr75 S75).holds cl) {R : Type} (K : KE R) (x0 : Dn198) : exec cl N c55_18 [(0, .v Tn1918 x0)] K = (g55_18 N S75 x0 (fun y0 => K .ret [(0, .dead), (2, .v Tn192 y0)]) (fun y0 => K .ret [(2, .v Tn192 y0)])) := by
  simp only [c55_18, exec_seq, seqK_normal, seqK_exit, seqK_ret, t55_0, t55_1, c55_3, exec_out, exec_cond', hb55_0, Option.bind_some, brB_true, brB_false, t55_2, exec_ret, exec_skip, kp55_0, kp55_1, t55_4, c55_16, exec_block, t55_15 S75 h75, blockK_normal, blockK_ret, blockK_eq, kp55_10, kp55_11, t55_17]
  rfl

theorem rk55_0 (y0 : Int) : retK d55 .ret [(0, .dead), (2, .v Tn192 y0)] = some [.v Tn192 y0] := by kernel_rfl
theorem rk55_1 (y0 : Int) : retK d55 .ret [(2, .v Tn192 y0)] = some [.v Tn192 y0] := by kernel_rfl
def g55 {R : Type} (N : Nat) (S75 : Dn196 → Option (Int)) (x0 : Dn198) (k : Int → Option R) : Option R :=
(g55_18 N S75 x0 (fun y0 => k y0) (fun y0 => k y0))
theorem gen55 {N : Nat} {cl : Cal} (S75 : Dn196 → Option (Int)) (h75 : (ctr75 S75).holds cl) (x0 : Dn198) {R : Type} (k : List E → Option R) : exec cl N c55 (params 0 [.v Tn1918 x0]) (fun e env => (retK d55 e env).bind k) = g55 N S75 x0 (fun (r0 : Int) => k [.v Tn192 r0]) := by
  have e0 : params 0 [.v Tn1918 x0] = [(0, .v Tn1918 x0)] := by kernel_rfl
  simp only [c55, e0, t55_18 S75 h75, rk55_0, rk55_1, Option.bind_some]
  rfl

def ctr55 (S : Dn198 → Option (Int)) : Ctr := { A := Dn198 × Unit, B := Int, f := 55, enc := fun a => [.v Tn1918 a.1], dec := (decC (decV Tn1918) dec0), S := fun a => S a.1, ent := fun b => [.v Tn192 b], ok := (decV_cons (T := Tn1918) (fun es b h => dec0_some h)) }
def S55 (N : Nat) (x0 : Dn198) : Option (Int) := g55 N (S75 N) x0 (fun (r0 : Int) => some (r0))
-- anceps/junction.both
def g36_0 {R : Type} (x0 : Dn198) (x1 : Dn198) (k0 : Dn198 → Dn198 → Option R) : Option R :=
k0 x0 x1
theorem t36_0 {N : Nat} {cl : Cal} {R : Type} (K : KE R) (x0 : Dn198) (x1 : Dn198) : exec cl N c36_0 [(0, .v Tn1918 x0), (1, .v Tn1918 x1)] K = (g36_0 x0 x1 (fun y0 y1 => K .normal [(0, .v Tn1918 y0), (1, .v Tn1918 y1)])) := by
  kernel_rfl
def g36_1 {R : Type} (S55 : Dn198 → Option (Int)) (x0 : Dn198) (x1 : Dn198) (k0 : Dn198 → Int → Option R) : Option R :=
(S55 x0).bind fun r142 =>
k0 x1 r142
theorem t36_1 {N : Nat} {cl : Cal} (S55 : Dn198 → Option (Int)) (h55 : (ctr55 S55).holds cl) {R : Type} (K : KE R) (x0 : Dn198) (x1 : Dn198) : exec cl N c36_1 [(0, .v Tn1918 x0), (1, .v Tn1918 x1)] K = (g36_1 S55 x0 x1 (fun y0 y1 => K .normal [(1, .v Tn1918 y0), (5, .v Tn192 y1)])) := by
  rw [← put_eq h55]
  kernel_rfl
def g36_2 {R : Type} (x0 : Dn198) (x1 : Int) (k0 : Dn198 → Int → Bool → Option R) : Option R :=
k0 x0 x1 (x1 != (0 : Int))
theorem t36_2 {N : Nat} {cl : Cal} {R : Type} (K : KE R) (x0 : Dn198) (x1 : Int) : exec cl N c36_2 [(1, .v Tn1918 x0), (5, .v Tn192 x1)] K = (g36_2 x0 x1 (fun y0 y1 y2 => K .normal [(1, .v Tn1918 y0), (5, .v Tn192 y1), (9, .v .bool y2)])) := by
  kernel_rfl
def g36_3 {R : Type} (x0 : Dn198) (x1 : Int) (x2 : Bool) (k0 : Int → Option R) : Option R :=
k0 x1
theorem t36_3 {N : Nat} {cl : Cal} {R : Type} (K : KE R) (x0 : Dn198) (x1 : Int) (x2 : Bool) : exec cl N c36_3 [(1, .v Tn1918 x0), (5, .v Tn192 x1), (9, .v .bool x2)] K = (g36_3 x0 x1 x2 (fun y0 => K .normal [(4, .v Tn192 y0)])) := by
  kernel_rfl
theorem kp36_0 (x0 : Int) : keep [1, 4] [(4, .v Tn192 x0)] = [(1, .dead), (4, .v Tn192 x0)] := by kernel_rfl
theorem kp36_1 (x0 : Dn198) (x1 : Int) (x2 : Bool) : keep [1, 4] [(1, .v Tn1918 x0), (5, .v Tn192 x1), (9, .v .bool x2)] = [(1, .v Tn1918 x0), (4, .dead)] := by kernel_rfl
theorem hb36_0 (x0 : Dn198) (x1 : Int) (x2 : Bool) : boolOf? (ent [(1, .v Tn1918 x0), (5, .v Tn192 x1), (9, .v .bool x2)] (.t 9)) = some x2 := by kernel_rfl
def g36_5 {R : Type} (S55 : Dn198 → Option (Int)) (x0 : Dn198) (k0 : Int → Option R) : Option R :=
(S55 x0).bind fun r144 =>
k0 r144
theorem t36_5 {N : Nat} {cl : Cal} (S55 : Dn198 → Option (Int)) (h55 : (ctr55 S55).holds cl) {R : Type} (K : KE R) (x0 : Dn198) : exec cl N c36_5 [(1, .v Tn1918 x0), (4, .dead)] K = (g36_5 S55 x0 (fun y0 => K .normal [(4, .v Tn192 y0)])) := by
  rw [← put_eq h55]
  kernel_rfl
def g36_6 {R : Type} (S55 : Dn198 → Option (Int)) (x0 : Dn198) (x1 : Dn198) (k0 : Int → Option R) (k1 : Int → Option R) : Option R :=
(g36_0 x0 x1 (fun y0 y1 => (g36_1 S55 y0 y1 (fun y0 y1 => (g36_2 y0 y1 (fun y0 y1 y2 => brB y2 (g36_3 y0 y1 y2 (fun y0 => ((fun y0 => (k0 y0)) y0))) ((fun y0 => (g36_5 S55 y0 (fun y0 => (k1 y0)))) y0)))))))
theorem t36_6 {N : Nat} {cl : Cal} (S55 : Dn198 → Option (Int)) (h55 : (ctr55 S55).holds cl) {R : Type} (K : KE R) (x0 : Dn198) (x1 : Dn198) : exec cl N c36_6 [(0, .v Tn1918 x0), (1, .v Tn1918 x1)] K = (g36_6 S55 x0 x1 (fun y0 => K .ret [(1, .dead), (4, .v Tn192 y0)]) (fun y0 => K .ret [(4, .v Tn192 y0)])) := by
  simp only [c36_6, exec_seq, seqK_normal, seqK_exit, seqK_ret, t36_0, t36_1 S55 h55, t36_2, c36_4, exec_out, exec_cond', hb36_0, Option.bind_some, brB_true, brB_false, t36_3, exec_ret, exec_skip, kp36_0, kp36_1, t36_5 S55 h55]
  rfl

theorem rk36_0 (y0 : Int) : retK d36 .ret [(1, .dead), (4, .v Tn192 y0)] = some [.v Tn192 y0] := by kernel_rfl
theorem rk36_1 (y0 : Int) : retK d36 .ret [(4, .v Tn192 y0)] = some [.v Tn192 y0] := by kernel_rfl
def g36 {R : Type} (S55 : Dn198 → Option (Int)) (x0 : Dn198) (x1 : Dn198) (k : Int → Option R) : Option R :=
(g36_6 S55 x0 x1 (fun y0 => k y0) (fun y0 => k y0))
theorem gen36 {N : Nat} {cl : Cal} (S55 : Dn198 → Option (Int)) (h55 : (ctr55 S55).holds cl) (x0 : Dn198) (x1 : Dn198) {R : Type} (k : List E → Option R) : exec cl N c36 (params 0 [.v Tn1918 x0, .v Tn1918 x1]) (fun e env => (retK d36 e env).bind k) = g36 S55 x0 x1 (fun (r0 : Int) => k [.v Tn192 r0]) := by
  have e0 : params 0 [.v Tn1918 x0, .v Tn1918 x1] = [(0, .v Tn1918 x0), (1, .v Tn1918 x1)] := by kernel_rfl
  simp only [c36, e0, t36_6 S55 h55, rk36_0, rk36_1, Option.bind_some]
  rfl

def ctr36 (S : Dn198 → Dn198 → Option (Int)) : Ctr := { A := Dn198 × Dn198 × Unit, B := Int, f := 36, enc := fun a => [.v Tn1918 a.1, .v Tn1918 a.2.1], dec := (decC (decV Tn1918) (decC (decV Tn1918) dec0)), S := fun a => S a.1 a.2.1, ent := fun b => [.v Tn192 b], ok := (decV_cons (T := Tn1918) (decV_cons (T := Tn1918) (fun es b h => dec0_some h))) }
def S36 (N : Nat) (x0 : Dn198) (x1 : Dn198) : Option (Int) := g36 (S55 N) x0 x1 (fun (r0 : Int) => some (r0))
-- anceps/sound.Nucleus
def g43_0 {R : Type} (x0 : Dn196) (k0 : Dn196 → Option R) : Option R :=
k0 x0
theorem t43_0 {N : Nat} {cl : Cal} {R : Type} (K : KE R) (x0 : Dn196) : exec cl N c43_0 [(0, .v Tn1915 x0)] K = (g43_0 x0 (fun y0 => K .normal [(1, .loc Tn1915 .no y0)])) := by
  kernel_rfl
def g43_1 {R : Type} (x0 : Dn196) (k0 : Bool → Option R) : Option R :=
brB (x0.1 == (1 : Int)) (k0 true) (k0 (x0.1 == (2 : Int)))
theorem t43_1 {N : Nat} {cl : Cal} {R : Type} (K : KE R) (x0 : Dn196) : exec cl N c43_1 [(1, .loc Tn1915 .no x0)] K = (g43_1 x0 (fun y0 => K .normal [(2, .v .bool y0)])) := by
  kernel_rfl
def g43_2 {R : Type} (x0 : Dn196) (k0 : Bool → Option R) : Option R :=
(g43_0 x0 (fun y0 => (g43_1 y0 (fun y0 => (k0 y0)))))
theorem t43_2 {N : Nat} {cl : Cal} {R : Type} (K : KE R) (x0 : Dn196) : exec cl N c43_2 [(0, .v Tn1915 x0)] K = (g43_2 x0 (fun y0 => K .ret [(2, .v .bool y0)])) := by
  simp only [c43_2, exec_seq, seqK_normal, seqK_exit, seqK_ret, t43_0, t43_1, exec_ret]
  rfl

theorem rk43_0 (y0 : Bool) : retK d43 .ret [(2, .v .bool y0)] = some [.v .bool y0] := by kernel_rfl
def g43 {R : Type} (x0 : Dn196) (k : Bool → Option R) : Option R :=
(g43_2 x0 (fun y0 => k y0))
theorem gen43 {N : Nat} {cl : Cal} (x0 : Dn196) {R : Type} (k : List E → Option R) : exec cl N c43 (params 0 [.v Tn1915 x0]) (fun e env => (retK d43 e env).bind k) = g43 x0 (fun (r0 : Bool) => k [.v .bool r0]) := by
  have e0 : params 0 [.v Tn1915 x0] = [(0, .v Tn1915 x0)] := by kernel_rfl
  simp only [c43, e0, t43_2, rk43_0, Option.bind_some]
  rfl

def ctr43 (S : Dn196 → Option (Bool)) : Ctr := { A := Dn196 × Unit, B := Bool, f := 43, enc := fun a => [.v Tn1915 a.1], dec := (decC (decV Tn1915) dec0), S := fun a => S a.1, ent := fun b => [.v .bool b], ok := (decV_cons (T := Tn1915) (fun es b h => dec0_some h)) }
def S43 (N : Nat) (x0 : Dn196) : Option (Bool) := g43 x0 (fun (r0 : Bool) => some (r0))
-- anceps/junction.Ends
def g14_0 {R : Type} (x0 : Dn198) (k0 : Dn198 → Option R) : Option R :=
k0 x0
theorem t14_0 {N : Nat} {cl : Cal} {R : Type} (K : KE R) (x0 : Dn198) : exec cl N c14_0 [(0, .v Tn1918 x0)] K = (g14_0 x0 (fun y0 => K .normal [(0, .v Tn1918 y0)])) := by
  kernel_rfl
def g14_1 {R : Type} (x0 : Dn198) (k0 : Dn198 → Int → Option R) : Option R :=
k0 x0 (x0.length : Int)
theorem t14_1 {N : Nat} {cl : Cal} {R : Type} (K : KE R) (x0 : Dn198) : exec cl N c14_1 [(0, .v Tn1918 x0)] K = (g14_1 x0 (fun y0 y1 => K .normal [(0, .v Tn1918 y0), (3, .v Tn192 y1)])) := by
  kernel_rfl
def g14_2 {R : Type} (S43 : Dn196 → Option (Bool)) (x0 : Dn198) (x1 : Int) (k0 : Dn198 → Int → Bool → Option R) : Option R :=
brB (decide (x1 > (0 : Int))) (let v164 : Int := (IntKind.i64.wrap (x1 - (1 : Int)))
if 0 ≤ v164 ∧ v164 < (x0.length : Int) then
(S43 (x0.getD v164.toNat ((0 : Int), ((0 : Int), ([], ()))))).bind fun r165 =>
k0 x0 x1 r165
else none) (k0 x0 x1 false)
theorem t14_2 {N : Nat} {cl : Cal} (S43 : Dn196 → Option (Bool)) (h43 : (ctr43 S43).holds cl) {R : Type} (K : KE R) (x0 : Dn198) (x1 : Int) : exec cl N c14_2 [(0, .v Tn1918 x0), (3, .v Tn192 x1)] K = (g14_2 S43 x0 x1 (fun y0 y1 y2 => K .normal [(0, .v Tn1918 y0), (3, .v Tn192 y1), (6, .v .bool y2)])) := by
  rw [← put_eq h43]
  kernel_rfl
def g14_3 {R : Type} (x0 : Dn198) (x1 : Int) (x2 : Bool) (k0 : Int → Option R) : Option R :=
k0 (1 : Int)
theorem t14_3 {N : Nat} {cl : Cal} {R : Type} (K : KE R) (x0 : Dn198) (x1 : Int) (x2 : Bool) : exec cl N c14_3 [(0, .v Tn1918 x0), (3, .v Tn192 x1), (6, .v .bool x2)] K = (g14_3 x0 x1 x2 (fun y0 => K .normal [(2, .v Tn192 y0)])) := by
  kernel_rfl
theorem kp14_0 (x0 : Int) : keep [2] [(2, .v Tn192 x0)] = [(2, .v Tn192 x0)] := by kernel_rfl
def g14_4 {R : Type} (S43 : Dn196 → Option (Bool)) (x0 : Dn198) (x1 : Int) (x2 : Bool) (k0 : Bool → Option R) : Option R :=
brB (decide (x1 > (1 : Int))) (let v167 : Int := (IntKind.i64.wrap (x1 - (2 : Int)))
if 0 ≤ v167 ∧ v167 < (x0.length : Int) then
(S43 (x0.getD v167.toNat ((0 : Int), ((0 : Int), ([], ()))))).bind fun r168 =>
brB r168 (let v169 : Int := (IntKind.i64.wrap (x1 - (1 : Int)))
if 0 ≤ v169 ∧ v169 < (x0.length : Int) then
brB ((x0.getD v169.toNat ((0 : Int), ((0 : Int), ([], ())))).1 == (5 : Int)) (let v171 : Int := (IntKind.i64.wrap (x1 - (1 : Int)))
if 0 ≤ v171 ∧ v171 < (x0.length : Int) then
k0 ((x0.getD v171.toNat ((0 : Int), ((0 : Int), ([], ())))).2.2.1 == ([109] : List UInt8))
else none) (k0 false)
else none) (k0 false)
else none) (k0 false)
theorem t14_4 {N : Nat} {cl : Cal} (S43 : Dn196 → Option (Bool)) (h43 : (ctr43 S43).holds cl) {R : Type} (K : KE R) (x0 : Dn198) (x1 : Int) (x2 : Bool) : exec cl N c14_4 [(0, .v Tn1918 x0), (3, .v Tn192 x1), (6, .v .bool x2)] K = (g14_4 S43 x0 x1 x2 (fun y0 => K .normal [(17, .v .bool y0)])) := by
  rw [← put_eq h43]
  kernel_rfl
def g14_5 {R : Type} (x0 : Bool) (k0 : Int → Option R) : Option R :=
k0 (2 : Int)
theorem t14_5 {N : Nat} {cl : Cal} {R : Type} (K : KE R) (x0 : Bool) : exec cl N c14_5 [(17, .v .bool x0)] K = (g14_5 x0 (fun y0 => K .normal [(2, .v Tn192 y0)])) := by
  kernel_rfl
theorem kp14_1 (x0 : Bool) : keep [2] [(17, .v .bool x0)] = [(2, .dead)] := by kernel_rfl
theorem hb14_0 (x0 : Bool) : boolOf? (ent [(17, .v .bool x0)] (.t 17)) = some x0 := by kernel_rfl
theorem kp14_2 : keep [2] [(2, .dead)] = [(2, .dead)] := by kernel_rfl
theorem hb14_1 (x0 : Dn198) (x1 : Int) (x2 : Bool) : boolOf? (ent [(0, .v Tn1918 x0), (3, .v Tn192 x1), (6, .v .bool x2)] (.t 6)) = some x2 := by kernel_rfl
def g14_9 {R : Type} (k0 : Int → Option R) : Option R :=
k0 (0 : Int)
theorem t14_9 {N : Nat} {cl : Cal} {R : Type} (K : KE R) : exec cl N c14_9 [(2, .dead)] K = (g14_9 (fun y0 => K .normal [(2, .v Tn192 y0)])) := by
  kernel_rfl
def g14_10 {R : Type} (S43 : Dn196 → Option (Bool)) (x0 : Dn198) (k0 : Int → Option R) : Option R :=
(g14_0 x0 (fun y0 => (g14_1 y0 (fun y0 y1 => (g14_2 S43 y0 y1 (fun y0 y1 y2 => brB y2 (g14_3 y0 y1 y2 (fun y0 => ((fun y0 => (k0 y0)) y0))) (g14_4 S43 y0 y1 y2 (fun y0 => brB y0 (g14_5 y0 (fun y0 => ((fun y0 => (k0 y0)) y0))) (g14_9 (fun y0 => (k0 y0)))))))))))
theorem t14_10 {N : Nat} {cl : Cal} (S43 : Dn196 → Option (Bool)) (h43 : (ctr43 S43).holds cl) {R : Type} (K : KE R) (x0 : Dn198) : exec cl N c14_10 [(0, .v Tn1918 x0)] K = (g14_10 S43 x0 (fun y0 => K .ret [(2, .v Tn192 y0)])) := by
  simp only [c14_10, exec_seq, seqK_normal, seqK_exit, seqK_ret, t14_0, t14_1, c14_8, exec_out, exec_block, t14_2 S43 h43, c14_7, exec_cond', hb14_1, Option.bind_some, brB_true, brB_false, t14_3, exec_ret, t14_4 S43 h43, c14_6, hb14_0, t14_5, exec_skip, kp14_0, kp14_1, kp14_2, blockK_normal, blockK_ret, blockK_eq, t14_9]
  rfl

theorem rk14_0 (y0 : Int) : retK d14 .ret [(2, .v Tn192 y0)] = some [.v Tn192 y0] := by kernel_rfl
def g14 {R : Type} (S43 : Dn196 → Option (Bool)) (x0 : Dn198) (k : Int → Option R) : Option R :=
(g14_10 S43 x0 (fun y0 => k y0))
theorem gen14 {N : Nat} {cl : Cal} (S43 : Dn196 → Option (Bool)) (h43 : (ctr43 S43).holds cl) (x0 : Dn198) {R : Type} (k : List E → Option R) : exec cl N c14 (params 0 [.v Tn1918 x0]) (fun e env => (retK d14 e env).bind k) = g14 S43 x0 (fun (r0 : Int) => k [.v Tn192 r0]) := by
  have e0 : params 0 [.v Tn1918 x0] = [(0, .v Tn1918 x0)] := by kernel_rfl
  simp only [c14, e0, t14_10 S43 h43, rk14_0, Option.bind_some]
  rfl

def ctr14 (S : Dn198 → Option (Int)) : Ctr := { A := Dn198 × Unit, B := Int, f := 14, enc := fun a => [.v Tn1918 a.1], dec := (decC (decV Tn1918) dec0), S := fun a => S a.1, ent := fun b => [.v Tn192 b], ok := (decV_cons (T := Tn1918) (fun es b h => dec0_some h)) }
def S14 (N : Nat) (x0 : Dn198) : Option (Int) := g14 (S43 N) x0 (fun (r0 : Int) => some (r0))
-- anceps/junction.first$1
def g62_0 {R : Type} (x0 : Dn196) (k0 : Dn196 → Option R) : Option R :=
k0 x0
theorem t62_0 {N : Nat} {cl : Cal} {R : Type} (K : KE R) (x0 : Dn196) : exec cl N c62_0 [(0, .v Tn1915 x0)] K = (g62_0 x0 (fun y0 => K .normal [(1, .loc Tn1915 .no y0)])) := by
  kernel_rfl
def g62_1 {R : Type} (x0 : Dn196) (k0 : Bool → Option R) : Option R :=
k0 (x0.1 != (9 : Int))
theorem t62_1 {N : Nat} {cl : Cal} {R : Type} (K : KE R) (x0 : Dn196) : exec cl N c62_1 [(1, .loc Tn1915 .no x0)] K = (g62_1 x0 (fun y0 => K .normal [(2, .v .bool y0)])) := by
  kernel_rfl
def g62_2 {R : Type} (x0 : Dn196) (k0 : Bool → Option R) : Option R :=
(g62_0 x0 (fun y0 => (g62_1 y0 (fun y0 => (k0 y0)))))
theorem t62_2 {N : Nat} {cl : Cal} {R : Type} (K : KE R) (x0 : Dn196) : exec cl N c62_2 [(0, .v Tn1915 x0)] K = (g62_2 x0 (fun y0 => K .ret [(2, .v .bool y0)])) := by
  simp only [c62_2, exec_seq, seqK_normal, seqK_exit, seqK_ret, t62_0, t62_1, exec_ret]
  rfl

theorem rk62_0 (y0 : Bool) : retK d62 .ret [(2, .v .bool y0)] = some [.v .bool y0] := by kernel_rfl
def g62 {R : Type} (x0 : Dn196) (k : Bool → Option R) : Option R :=
(g62_2 x0 (fun y0 => k y0))
theorem gen62 {N : Nat} {cl : Cal} (x0 : Dn196) {R : Type} (k : List E → Option R) : exec cl N c62 (params 0 [.v Tn1915 x0]) (fun e env => (retK d62 e env).bind k) = g62 x0 (fun (r0 : Bool) => k [.v .bool r0]) := by
  have e0 : params 0 [.v Tn1915 x0] = [(0, .v Tn1915 x0)] := by kernel_rfl
  simp only [c62, e0, t62_2, rk62_0, Option.bind_some]
  rfl

def ctr62 (S : Dn196 → Option (Bool)) : Ctr := { A := Dn196 × Unit, B := Bool, f := 62, enc := fun a => [.v Tn1915 a.1], dec := (decC (decV Tn1915) dec0), S := fun a => S a.1, ent := fun b => [.v .bool b], ok := (decV_cons (T := Tn1915) (fun es b h => dec0_some h)) }
def S62 (N : Nat) (x0 : Dn196) : Option (Bool) := g62 x0 (fun (r0 : Bool) => some (r0))
-- slices.IndexFunc[[]anceps/api.Sound,anceps/api.Sound]
def g61_0 {R : Type} (x0 : Dn198) (x1 : Dn1910) (k0 : Dn198 → Dn1910 → Option R) : Option R :=
k0 x0 x1
theorem t61_0 {N : Nat} {cl : Cal} {R : Type} (K : KE R) (x0 : Dn198) (x1 : Dn1910) : exec cl N c61_0 [(0, .v Tn1918 x0), (1, .v Tn1922 x1)] K = (g61_0 x0 x1 (fun y0 y1 => K .normal [(0, .v Tn1918 y0), (1, .v Tn1922 y1)])) := by
  kernel_rfl
def g61_1 {R : Type} (x0 : Dn198) (x1 : Dn1910) (k0 : Dn198 → Dn1910 → Int → Int → Option R) : Option R :=
k0 x0 x1 (x0.length : Int) (0 : Int)
theorem t61_1 {N : Nat} {cl : Cal} {R : Type} (K : KE R) (x0 : Dn198) (x1 : Dn1910) : exec cl N c61_1 [(0, .v Tn1918 x0), (1, .v Tn1922 x1)] K = (g61_1 x0 x1 (fun y0 y1 y2 y3 => K .normal [(0, .v Tn1918 y0), (1, .v Tn1922 y1), (7, .v Tn192 y2), (8, .v Tn192 y3)])) := by
  kernel_rfl
theorem kp61_0 (x0 : Dn198) (x1 : Dn1910) (x2 : Int) (x3 : Int) : keep [0, 1, 7, 8] [(0, .v Tn1918 x0), (1, .v Tn1922 x1), (7, .v Tn192 x2), (8, .v Tn192 x3)] = [(0, .v Tn1918 x0), (1, .v Tn1922 x1), (7, .v Tn192 x2), (8, .v Tn192 x3)] := by kernel_rfl
def g61_2 {R : Type} (x0 : Dn198) (x1 : Dn1910) (x2 : Int) (x3 : Int) (k0 : Dn198 → Dn1910 → Int → Int → Bool → Option R) : Option R :=
k0 x0 x1 x2 x3 (decide (x3 < x2))
theorem t61_2 {N : Nat} {cl : Cal} {R : Type} (K : KE R) (x0 : Dn198) (x1 : Dn1910) (x2 : Int) (x3 : Int) : exec cl N c61_2 [(0, .v Tn1918 x0), (1, .v Tn1922 x1), (7, .v Tn192 x2), (8, .v Tn192 x3)] K = (g61_2 x0 x1 x2 x3 (fun y0 y1 y2 y3 y4 => K .normal [(0, .v Tn1918 y0), (1, .v Tn1922 y1), (7, .v Tn192 y2), (8, .v Tn192 y3), (9, .v .bool y4)])) := by
  kernel_rfl
theorem kp61_1 (x0 : Dn198) (x1 : Dn1910) (x2 : Int) (x3 : Int) (x4 : Bool) : keep [0, 1, 7, 8] [(0, .v Tn1918 x0), (1, .v Tn1922 x1), (7, .v Tn192 x2), (8, .v Tn192 x3), (9, .v .bool x4)] = [(0, .v Tn1918 x0), (1, .v Tn1922 x1), (7, .v Tn192 x2), (8, .v Tn192 x3)] := by kernel_rfl
theorem hb61_0 (x0 : Dn198) (x1 : Dn1910) (x2 : Int) (x3 : Int) (x4 : Bool) : boolOf? (ent [(0, .v Tn1918 x0), (1, .v Tn1922 x1), (7, .v Tn192 x2), (8, .v Tn192 x3), (9, .v .bool x4)] (.t 9)) = some x4 := by kernel_rfl
def g61_4 {R : Type} (x0 : Dn198) (x1 : Dn1910) (x2 : Int) (x3 : Int) (k0 : Dn198 → Dn1910 → Int → Int → Int → Option R) : Option R :=
k0 x0 x1 x3 x2 x3
theorem t61_4 {N : Nat} {cl : Cal} {R : Type} (K : KE R) (x0 : Dn198) (x1 : Dn1910) (x2 : Int) (x3 : Int) : exec cl N c61_4 [(0, .v Tn1918 x0), (1, .v Tn1922 x1), (7, .v Tn192 x2), (8, .v Tn192 x3)] K = (g61_4 x0 x1 x2 x3 (fun y0 y1 y2 y3 y4 => K .normal [(0, .v Tn1918 y0), (1, .v Tn1922 y1), (5, .v Tn192 y2), (7, .v Tn192 y3), (8, .v Tn192 y4)])) := by
  kernel_rfl
def g61_5 {R : Type} (x0 : Dn198) (x1 : Dn1910) (x2 : Int) (x3 : Int) (x4 : Int) (k0 : Dn198 → Dn1910 → Int → Int → Int → Bool → Option R) : Option R :=
if 0 ≤ x2 ∧ x2 < (x0.length : Int) then
(x1 ((x0.getD x2.toNat ((0 : Int), ((0 : Int), ([], ())))), ())).bind fun r183 =>
k0 x0 x1 x2 x3 x4 r183
else none
theorem t61_5 {N : Nat} {cl : Cal} {R : Type} (K : KE R) (x0 : Dn198) (x1 : Dn1910) (x2 : Int) (x3 : Int) (x4 : Int) : exec cl N c61_5 [(0, .v Tn1918 x0), (1, .v Tn1922 x1), (5, .v Tn192 x2), (7, .v Tn192 x3), (8, .v Tn192 x4)] K = (g61_5 x0 x1 x2 x3 x4 (fun y0 y1 y2 y3 y4 y5 => K .normal [(0, .v Tn1918 y0), (1, .v Tn1922 y1), (5, .v Tn192 y2), (7, .v Tn192 y3), (8, .v Tn192 y4), (16, .v .bool y5)])) := by
  kernel_rfl
def g61_6 {R : Type} (x0 : Dn198) (x1 : Dn1910) (x2 : Int) (x3 : Int) (x4 : Int) (x5 : Bool) (k0 : Int → Option R) : Option R :=
k0 x2
theorem t61_6 {N : Nat} {cl : Cal} {R : Type} (K : KE R) (x0 : Dn198) (x1 : Dn1910) (x2 : Int) (x3 : Int) (x4 : Int) (x5 : Bool) : exec cl N c61_6 [(0, .v Tn1918 x0), (1, .v Tn1922 x1), (5, .v Tn192 x2), (7, .v Tn192 x3), (8, .v Tn192 x4), (16, .v .bool x5)] K = (g61_6 x0 x1 x2 x3 x4 x5 (fun y0 => K .normal [(4, .v Tn192 y0)])) := by
  kernel_rfl
theorem kp61_2 (x0 : Int) : keep [0, 1, 4, 7, 8] [(4, .v Tn192 x0)] = [(0, .dead), (1, .dead), (4, .v Tn192 x0), (7, .dead), (8, .dead)] := by kernel_rfl
theorem kp61_3 (x0 : Dn198) (x1 : Dn1910) (x2 : Int) (x3 : Int) (x4 : Int) (x5 : Bool) : keep [0, 1, 4, 7, 8] [(0, .v Tn1918 x0), (1, .v Tn1922 x1), (5, .v Tn192 x2), (7, .v Tn192 x3), (8, .v Tn192 x4), (16, .v .bool x5)] = [(0, .v Tn1918 x0), (1, .v Tn1922 x1), (4, .dead), (7, .v Tn192 x3), (8, .v Tn192 x4)] := by kernel_rfl
theorem hb61_1 (x0 : Dn198) (x1 : Dn1910) (x2 : Int) (x3 : Int) (x4 : Int) (x5 : Bool) : boolOf? (ent [(0, .v Tn1918 x0), (1, .v Tn1922 x1), (5, .v Tn192 x2), (7, .v Tn192 x3), (8, .v Tn192 x4), (16, .v .bool x5)] (.t 16)) = some x5 := by kernel_rfl
theorem kp61_4 (x0 : Int) : keep [0, 1, 4, 7, 8] [(0, .dead), (1, .dead), (4, .v Tn192 x0), (7, .dead), (8, .dead)] = [(0, .dead), (1, .dead), (4, .v Tn192 x0), (7, .dead), (8, .dead)] := by kernel_rfl
theorem kp61_5 (x0 : Dn198) (x1 : Dn1910) (x2 : Int) (x3 : Int) : keep [0, 1, 4, 7, 8] [(0, .v Tn1918 x0), (1, .v Tn1922 x1), (4, .dead), (7, .v Tn192 x2), (8, .v Tn192 x3)] = [(0, .v Tn1918 x0), (1, .v Tn1922 x1), (4, .dead), (7, .v Tn192 x2), (8, .v Tn192 x3)] := by kernel_rfl
def g61_9 {R : Type} (x0 : Dn198) (x1 : Dn1910) (x2 : Int) (x3 : Int) (k0 : Dn198 → Dn1910 → Int → Int → Option R) : Option R :=
k0 x0 x1 x2 (IntKind.i64.wrap (x3 + (1 : Int)))
theorem t61_9 {N : Nat} {cl : Cal} {R : Type} (K : KE R) (x0 : Dn198) (x1 : Dn1910) (x2 : Int) (x3 : Int) : exec cl N c61_9 [(0, .v Tn1918 x0), (1, .v Tn1922 x1), (4, .dead), (7, .v Tn192 x2), (8, .v Tn192 x3)] K = (g61_9 x0 x1 x2 x3 (fun y0 y1 y2 y3 => K .normal [(0, .v Tn1918 y0), (1, .v Tn1922 y1), (7, .v Tn192 y2), (8, .v Tn192 y3)])) := by
  kernel_rfl
def g61_10 {R : Type} (x0 : Dn198) (x1 : Dn1910) (x2 : Int) (x3 : Int) (k0 : Int → Option R) (k1 : Dn198 → Dn1910 → Int → Int → Option R) (k2 : Dn198 → Dn1910 → Int → Int → Option R) : Option R :=
(g61_2 x0 x1 x2 x3 (fun y0 y1 y2 y3 y4 => brB y4 ((fun y0 y1 y2 y3 => (g61_4 y0 y1 y2 y3 (fun y0 y1 y2 y3 y4 => (g61_5 y0 y1 y2 y3 y4 (fun y0 y1 y2 y3 y4 y5 => brB y5 (g61_6 y0 y1 y2 y3 y4 y5 (fun y0 => ((fun y0 => (k0 y0)) y0))) (g61_9 y0 y1 y3 y4 k1)))))) y0 y1 y2 y3) (k2 y0 y1 y2 y3)))
theorem t61_10 {N : Nat} {cl : Cal} {R : Type} (K : KE R) (x0 : Dn198) (x1 : Dn1910) (x2 : Int) (x3 : Int) : exec cl N c61_10 [(0, .v Tn1918 x0), (1, .v Tn1922 x1), (7, .v Tn192 x2), (8, .v Tn192 x3)] K = (g61_10 x0 x1 x2 x3 (fun y0 => K .ret [(0, .dead), (1, .dead), (4, .v Tn192 y0), (7, .dead), (8, .dead)]) (fun y0 y1 y2 y3 => K .normal [(0, .v Tn1918 y0), (1, .v Tn1922 y1), (7, .v Tn192 y2), (8, .v Tn192 y3)]) (fun y0 y1 y2 y3 => K (.exit 0) [(0, .v Tn1918 y0), (1, .v Tn1922 y1), (7, .v Tn192 y2), (8, .v Tn192 y3)])) := by
  simp only [c61_10, exec_seq, seqK_normal, seqK_exit, seqK_ret, t61_2, c61_3, exec_out, exec_cond', hb61_0, Option.bind_some, brB_true, brB_false, exec_skip, exec_exit, kp61_1, c61_8, exec_block, t61_4, t61_5, c61_7, hb61_1, t61_6, exec_ret, kp61_2, kp61_3, blockK_normal, blockK_ret, blockK_eq, kp61_4, kp61_5, t61_9]
  rfl

def l61_11 {R : Type} (k0 : Int → Option R) (k1 : Dn198 → Dn1910 → Int → Int → Option R) : Nat → Dn198 → Dn1910 → Int → Int → Option R
  | 0, _, _, _, _ => none
  | m + 1, x0, x1, x2, x3 => (g61_10 x0 x1 x2 x3 k0 (fun y0 y1 y2 y3 => l61_11 k0 k1 m y0 y1 y2 y3) k1)
theorem lt61_11 {N : Nat} {cl : Cal} {R : Type} (K : KE R) : ∀ (m : Nat) (x0 : Dn198) (x1 : Dn1910) (x2 : Int) (x3 : Int), iter [0, 1, 7, 8] (fun env K => exec cl N c61_10 env K) K m [(0, .v Tn1918 x0), (1, .v Tn1922 x1), (7, .v Tn192 x2), (8, .v Tn192 x3)] = l61_11 (fun y0 => K .ret [(0, .dead), (1, .dead), (4, .v Tn192 y0), (7, .dead), (8, .dead)]) (fun y0 y1 y2 y3 => K (.exit 0) [(0, .v Tn1918 y0), (1, .v Tn1922 y1), (7, .v Tn192 y2), (8, .v Tn192 y3)]) m x0 x1 x2 x3 := by
  intro m
  induction m with
  | zero => intros; rfl
  | succ m ih =>
    intro x0 x1 x2 x3
    simp only [iter_succ, t61_10, loopK_normal, loopK_exit, loopK_ret, kp61_0, ih]
    rfl

theorem kp61_6 (x0 : Int) : keep [4] [(0, .dead), (1, .dead), (4, .v Tn192 x0), (7, .dead), (8, .dead)] = [(4, .v Tn192 x0)] := by kernel_rfl
theorem kp61_7 (x0 : Dn198) (x1 : Dn1910) (x2 : Int) (x3 : Int) : keep [4] [(0, .v Tn1918 x0), (1, .v Tn1922 x1), (7, .v Tn192 x2), (8, .v Tn192 x3)] = [(4, .dead)] := by kernel_rfl
def g61_11 {R : Type} (N : Nat) (x0 : Dn198) (x1 : Dn1910) (x2 : Int) (x3 : Int) (k0 : Int → Option R) (k1 : Option R) : Option R :=
l61_11 (fun y0 => k0 y0) (fun y0 y1 y2 y3 => k1) N x0 x1 x2 x3
theorem t61_11 {N : Nat} {cl : Cal} {R : Type} (K : KE R) (x0 : Dn198) (x1 : Dn1910) (x2 : Int) (x3 : Int) : exec cl N c61_11 [(0, .v Tn1918 x0), (1, .v Tn1922 x1), (7, .v Tn192 x2), (8, .v Tn192 x3)] K = (g61_11 N x0 x1 x2 x3 (fun y0 => K .ret [(4, .v Tn192 y0)]) (K (.exit 0) [(4, .dead)])) := by
  simp only [c61_11, exec_out, exec_loop, kp61_0, lt61_11, kp61_6, kp61_7]
  rfl

theorem kp61_8 (x0 : Int) : keep [4] [(4, .v Tn192 x0)] = [(4, .v Tn192 x0)] := by kernel_rfl
theorem kp61_9 : keep [4] [(4, .dead)] = [(4, .dead)] := by kernel_rfl
def g61_13 {R : Type} (k0 : Int → Option R) : Option R :=
k0 (-1 : Int)
theorem t61_13 {N : Nat} {cl : Cal} {R : Type} (K : KE R) : exec cl N c61_13 [(4, .dead)] K = (g61_13 (fun y0 => K .normal [(4, .v Tn192 y0)])) := by
  kernel_rfl
def g61_14 {R : Type} (N : Nat) (x0 : Dn198) (x1 : Dn1910) (k0 : Int → Option R) : Option R :=
(g61_0 x0 x1 (fun y0 y1 => (g61_1 y0 y1 (fun y0 y1 y2 y3 => (g61_11 N y0 y1 y2 y3 (fun y0 => (k0 y0)) (g61_13 (fun y0 => (k0 y0))))))))
theorem t61_14 {N : Nat} {cl : Cal} {R : Type} (K : KE R) (x0 : Dn198) (x1 : Dn1910) : exec cl N c61_14 [(0, .v Tn1918 x0), (1, .v Tn1922 x1)] K = (g61_14 N x0 x1 (fun y0 => K .ret [(4, .v Tn192 y0)])) := by
  simp only [c61_14, exec_seq, seqK_normal, seqK_exit, seqK_ret, t61_0, t61_1, c61_12, exec_out, exec_block, t61_11, blockK_normal, blockK_ret, blockK_eq, kp61_8, kp61_9, t61_13, exec_ret]
  rfl

theorem rk61_0 (y0 : Int) : retK d61 .ret [(4, .v Tn192 y0)] = some [.v Tn192 y0] := by kernel_rfl
def g61 {R : Type} (N : Nat) (x0 : Dn198) (x1 : Dn1910) (k : Int → Option R) : Option R :=
(g61_14 N x0 x1 (fun y0 => k y0))
theorem gen61 {N : Nat} {cl : Cal} (x0 : Dn198) (x1 : Dn1910) {R : Type} (k : List E → Option R) : exec cl N c61 (params 0 [.v Tn1918 x0, .v Tn1922 x1]) (fun e env => (retK d61 e env).bind k) = g61 N x0 x1 (fun (r0 : Int) => k [.v Tn192 r0]) := by
  have e0 : params 0 [.v Tn1918 x0, .v Tn1922 x1] = [(0, .v Tn1918 x0), (1, .v Tn1922 x1)] := by kernel_rfl
  simp only [c61, e0, t61_14, rk61_0, Option.bind_some]
  rfl

def ctr61 (S : Dn198 → Dn1910 → Option (Int)) : Ctr := { A := Dn198 × Dn1910 × Unit, B := Int, f := 61, enc := fun a => [.v Tn1918 a.1, .v Tn1922 a.2.1], dec := (decC (decV Tn1918) (decC (decV Tn1922) dec0)), S := fun a => S a.1 a.2.1, ent := fun b => [.v Tn192 b], ok := (decV_cons (T := Tn1918) (decV_cons (T := Tn1922) (fun es b h => dec0_some h))) }
def S61 (N : Nat) (x0 : Dn198) (x1 : Dn1910) : Option (Int) := g61 N x0 x1 (fun (r0 : Int) => some (r0))
-- anceps/junction.first
def g42_0 {R : Type} (x0 : Dn198) (k0 : Dn198 → Option R) : Option R :=
k0 x0
theorem t42_0 {N : Nat} {cl : Cal} {R : Type} (K : KE R) (x0 : Dn198) : exec cl N c42_0 [(0, .v Tn1918 x0)] K = (g42_0 x0 (fun y0 => K .normal [(0, .v Tn1918 y0)])) := by
  kernel_rfl
def g42_1 {R : Type} (S61 : Dn198 → Dn1910 → Option (Int)) (S62 : Dn196 → Option (Bool)) (x0 : Dn198) (k0 : Dn198 → Int → Option R) : Option R :=
(S61 x0 (fun (x187 : (Dn196 × Unit)) => ((S62 x187.1).bind fun b188 => some [.v .bool b188]).bind (unE .bool))).bind fun r189 =>
k0 x0 r189
theorem t42_1 {N : Nat} {cl : Cal} (S61 : Dn198 → Dn1910 → Option (Int)) (S62 : Dn196 → Option (Bool)) (h61 : (ctr61 S61).holds cl) (h62 : (ctr62 S62).holds cl) {R : Type} (K : KE R) (x0 : Dn198) : exec cl N c42_1 [(0, .v Tn1918 x0)] K = (g42_1 S61 S62 x0 (fun y0 y1 => K .normal [(0, .v Tn1918 y0), (3, .v Tn192 y1)])) := by
  rw [← put_eq h61]
  rw [← put_eq h62]
  kernel_rfl
def g42_2 {R : Type} (x0 : Dn198) (x1 : Int) (k0 : Dn198 → Int → Bool → Option R) : Option R :=
k0 x0 x1 (decide (x1 < (0 : Int)))
theorem t42_2 {N : Nat} {cl : Cal} {R : Type} (K : KE R) (x0 : Dn198) (x1 : Int) : exec cl N c42_2 [(0, .v Tn1918 x0), (3, .v Tn192 x1)] K = (g42_2 x0 x1 (fun y0 y1 y2 => K .normal [(0, .v Tn1918 y0), (3, .v Tn192 y1), (7, .v .bool y2)])) := by
  kernel_rfl
def g42_3 {R : Type} (x0 : Dn198) (x1 : Int) (x2 : Bool) (k0 : Int → Option R) : Option R :=
k0 (x0.length : Int)
theorem t42_3 {N : Nat} {cl : Cal} {R : Type} (K : KE R) (x0 : Dn198) (x1 : Int) (x2 : Bool) : exec cl N c42_3 [(0, .v Tn1918 x0), (3, .v Tn192 x1), (7, .v .bool x2)] K = (g42_3 x0 x1 x2 (fun y0 => K .normal [(2, .v Tn192 y0)])) := by
  kernel_rfl
theorem kp42_0 (x0 : Int) : keep [2, 3] [(2, .v Tn192 x0)] = [(2, .v Tn192 x0), (3, .dead)] := by kernel_rfl
theorem kp42_1 (x0 : Dn198) (x1 : Int) (x2 : Bool) : keep [2, 3] [(0, .v Tn1918 x0), (3, .v Tn192 x1), (7, .v .bool x2)] = [(2, .dead), (3, .v Tn192 x1)] := by kernel_rfl
theorem hb42_0 (x0 : Dn198) (x1 : Int) (x2 : Bool) : boolOf? (ent [(0, .v Tn1918 x0), (3, .v Tn192 x1), (7, .v .bool x2)] (.t 7)) = some x2 := by kernel_rfl
def g42_5 {R : Type} (x0 : Int) (k0 : Int → Option R) : Option R :=
k0 x0
theorem t42_5 {N : Nat} {cl : Cal} {R : Type} (K : KE R) (x0 : Int) : exec cl N c42_5 [(2, .dead), (3, .v Tn192 x0)] K = (g42_5 x0 (fun y0 => K .normal [(2, .v Tn192 y0)])) := by
  kernel_rfl
def g42_6 {R : Type} (S61 : Dn198 → Dn1910 → Option (Int)) (S62 : Dn196 → Option (Bool)) (x0 : Dn198) (k0 : Int → Option R) (k1 : Int → Option R) : Option R :=
(g42_0 x0 (fun y0 => (g42_1 S61 S62 y0 (fun y0 y1 => (g42_2 y0 y1 (fun y0 y1 y2 => brB y2 (g42_3 y0 y1 y2 (fun y0 => ((fun y0 => (k0 y0)) y0))) ((fun y0 => (g42_5 y0 (fun y0 => (k1 y0)))) y1)))))))
theorem t42_6 {N : Nat} {cl : Cal} (S61 : Dn198 → Dn1910 → Option (Int)) (S62 : Dn196 → Option (Bool)) (h61 : (ctr61 S61).holds cl) (h62 : (ctr62 S62).holds cl) {R : Type} (K : KE R) (x0 : Dn198) : exec cl N c42_6 [(0, .v Tn1918 x0)] K = (g42_6 S61 S62 x0 (fun y0 => K .ret [(2, .v Tn192 y0), (3, .dead)]) (fun y0 => K .ret [(2, .v Tn192 y0)])) := by
  simp only [c42_6, exec_seq, seqK_normal, seqK_exit, seqK_ret, t42_0, t42_1 S61 S62 h61 h62, t42_2, c42_4, exec_out, exec_cond', hb42_0, Option.bind_some, brB_true, brB_false, t42_3, exec_ret, exec_skip, kp42_0, kp42_1, t42_5]
  rfl

theorem rk42_0 (y0 : Int) : retK d42 .ret [(2, .v Tn192 y0), (3, .dead)] = some [.v Tn192 y0] := by kernel_rfl
theorem rk42_1 (y0 : Int) : retK d42 .ret [(2, .v Tn192 y0)] = some [.v Tn192 y0] := by kernel_rfl
def g42 {R : Type} (S61 : Dn198 → Dn1910 → Option (Int)) (S62 : Dn196 → Option (Bool)) (x0 : Dn198) (k : Int → Option R) : Option R :=
(g42_6 S61 S62 x0 (fun y0 => k y0) (fun y0 => k y0))
theorem gen42 {N : Nat} {cl : Cal} (S61 : Dn198 → Dn1910 → Option (Int)) (S62 : Dn196 → Option (Bool)) (h61 : (ctr61 S61).holds cl) (h62 : (ctr62 S62).holds cl) (x0 : Dn198) {R : Type} (k : List E → Option R) : exec cl N c42 (params 0 [.v Tn1918 x0]) (fun e env => (retK d42 e env).bind k) = g42 S61 S62 x0 (fun (r0 : Int) => k [.v Tn192 r0]) := by
  have e0 : params 0 [.v Tn1918 x0] = [(0, .v Tn1918 x0)] := by kernel_rfl
  simp only [c42, e0, t42_6 S61 S62 h61 h62, rk42_0, rk42_1, Option.bind_some]
  rfl

def ctr42 (S : Dn198 → Option (Int)) : Ctr := { A := Dn198 × Unit, B := Int, f := 42, enc := fun a => [.v Tn1918 a.1], dec := (decC (decV Tn1918) dec0), S := fun a => S a.1, ent := fun b => [.v Tn192 b], ok := (decV_cons (T := Tn1918) (fun es b h => dec0_some h)) }
def S42 (N : Nat) (x0 : Dn198) : Option (Int) := g42 (S61 N) (S62 N) x0 (fun (r0 : Int) => some (r0))
-- anceps/junction.Begins
def g13_0 {R : Type} (x0 : Dn198) (k0 : Dn198 → Option R) : Option R :=
k0 x0
theorem t13_0 {N : Nat} {cl : Cal} {R : Type} (K : KE R) (x0 : Dn198) : exec cl N c13_0 [(0, .v Tn1918 x0)] K = (g13_0 x0 (fun y0 => K .normal [(0, .v Tn1918 y0)])) := by
  kernel_rfl
def g13_1 {R : Type} (S42 : Dn198 → Option (Int)) (x0 : Dn198) (k0 : Dn198 → Int → Option R) : Option R :=
(S42 x0).bind fun r194 =>
k0 x0 r194
theorem t13_1 {N : Nat} {cl : Cal} (S42 : Dn198 → Option (Int)) (h42 : (ctr42 S42).holds cl) {R : Type} (K : KE R) (x0 : Dn198) : exec cl N c13_1 [(0, .v Tn1918 x0)] K = (g13_1 S42 x0 (fun y0 y1 => K .normal [(0, .v Tn1918 y0), (3, .v Tn192 y1)])) := by
  rw [← put_eq h42]
  kernel_rfl
def g13_2 {R : Type} (S43 : Dn196 → Option (Bool)) (x0 : Dn198) (x1 : Int) (k0 : Bool → Option R) : Option R :=
brB (decide (x1 < (x0.length : Int))) (if 0 ≤ x1 ∧ x1 < (x0.length : Int) then
(S43 (x0.getD x1.toNat ((0 : Int), ((0 : Int), ([], ()))))).bind fun r196 =>
k0 r196
else none) (k0 false)
theorem t13_2 {N : Nat} {cl : Cal} (S43 : Dn196 → Option (Bool)) (h43 : (ctr43 S43).holds cl) {R : Type} (K : KE R) (x0 : Dn198) (x1 : Int) : exec cl N c13_2 [(0, .v Tn1918 x0), (3, .v Tn192 x1)] K = (g13_2 S43 x0 x1 (fun y0 => K .normal [(2, .v .bool y0)])) := by
  rw [← put_eq h43]
  kernel_rfl
def g13_3 {R : Type} (S42 : Dn198 → Option (Int)) (S43 : Dn196 → Option (Bool)) (x0 : Dn198) (k0 : Bool → Option R) : Option R :=
(g13_0 x0 (fun y0 => (g13_1 S42 y0 (fun y0 y1 => (g13_2 S43 y0 y1 (fun y0 => (k0 y0)))))))
theorem t13_3 {N : Nat} {cl : Cal} (S42 : Dn198 → Option (Int)) (S43 : Dn196 → Option (Bool)) (h42 : (ctr42 S42).holds cl) (h43 : (ctr43 S43).holds cl) {R : Type} (K : KE R) (x0 : Dn198) : exec cl N c13_3 [(0, .v Tn1918 x0)] K = (g13_3 S42 S43 x0 (fun y0 => K .ret [(2, .v .bool y0)])) := by
  simp only [c13_3, exec_seq, seqK_normal, seqK_exit, seqK_ret, t13_0, t13_1 S42 h42, t13_2 S43 h43, exec_ret]
  rfl

theorem rk13_0 (y0 : Bool) : retK d13 .ret [(2, .v .bool y0)] = some [.v .bool y0] := by kernel_rfl
def g13 {R : Type} (S42 : Dn198 → Option (Int)) (S43 : Dn196 → Option (Bool)) (x0 : Dn198) (k : Bool → Option R) : Option R :=
(g13_3 S42 S43 x0 (fun y0 => k y0))
theorem gen13 {N : Nat} {cl : Cal} (S42 : Dn198 → Option (Int)) (S43 : Dn196 → Option (Bool)) (h42 : (ctr42 S42).holds cl) (h43 : (ctr43 S43).holds cl) (x0 : Dn198) {R : Type} (k : List E → Option R) : exec cl N c13 (params 0 [.v Tn1918 x0]) (fun e env => (retK d13 e env).bind k) = g13 S42 S43 x0 (fun (r0 : Bool) => k [.v .bool r0]) := by
  have e0 : params 0 [.v Tn1918 x0] = [(0, .v Tn1918 x0)] := by kernel_rfl
  simp only [c13, e0, t13_3 S42 S43 h42 h43, rk13_0, Option.bind_some]
  rfl

def ctr13 (S : Dn198 → Option (Bool)) : Ctr := { A := Dn198 × Unit, B := Bool, f := 13, enc := fun a => [.v Tn1918 a.1], dec := (decC (decV Tn1918) dec0), S := fun a => S a.1, ent := fun b => [.v .bool b], ok := (decV_cons (T := Tn1918) (fun es b h => dec0_some h)) }
def S13 (N : Nat) (x0 : Dn198) : Option (Bool) := g13 (S42 N) (S43 N) x0 (fun (r0 : Bool) => some (r0))
-- anceps/junction.possible
def g37_0 {R : Type} (x0 : Dn198) (x1 : Dn198) (k0 : Dn198 → Dn198 → Option R) : Option R :=
k0 x0 x1
theorem t37_0 {N : Nat} {cl : Cal} {R : Type} (K : KE R) (x0 : Dn198) (x1 : Dn198) : exec cl N c37_0 [(0, .v Tn1918 x0), (1, .v Tn1918 x1)] K = (g37_0 x0 x1 (fun y0 y1 => K .normal [(0, .v Tn1918 y0), (1, .v Tn1918 y1)])) := by
  kernel_rfl
def g37_1 {R : Type} (S14 : Dn198 → Option (Int)) (x0 : Dn198) (x1 : Dn198) (k0 : Dn198 → Dn198 → Int → Option R) : Option R :=
(S14 x0).bind fun r201 =>
k0 x0 x1 r201
theorem t37_1 {N : Nat} {cl : Cal} (S14 : Dn198 → Option (Int)) (h14 : (ctr14 S14).holds cl) {R : Type} (K : KE R) (x0 : Dn198) (x1 : Dn198) : exec cl N c37_1 [(0, .v Tn1918 x0), (1, .v Tn1918 x1)] K = (g37_1 S14 x0 x1 (fun y0 y1 y2 => K .normal [(0, .v Tn1918 y0), (1, .v Tn1918 y1), (5, .v Tn192 y2)])) := by
  rw [← put_eq h14]
  kernel_rfl
def g37_2 {R : Type} (S13 : Dn198 → Option (Bool)) (x0 : Dn198) (x1 : Dn198) (x2 : Int) (k0 : Dn198 → Int → Bool → Option R) : Option R :=
brB (x2 == (0 : Int)) (k0 x0 x2 true) ((S13 x1).bind fun r203 =>
k0 x0 x2 (!r203))
theorem t37_2 {N : Nat} {cl : Cal} (S13 : Dn198 → Option (Bool)) (h13 : (ctr13 S13).holds cl) {R : Type} (K : KE R) (x0 : Dn198) (x1 : Dn198) (x2 : Int) : exec cl N c37_2 [(0, .v Tn1918 x0), (1, .v Tn1918 x1), (5, .v Tn192 x2)] K = (g37_2 S13 x0 x1 x2 (fun y0 y1 y2 => K .normal [(0, .v Tn1918 y0), (5, .v Tn192 y1), (8, .v .bool y2)])) := by
  rw [← put_eq h13]
  kernel_rfl
def g37_3 {R : Type} (x0 : Dn198) (x1 : Int) (x2 : Bool) (k0 : Dn190 → Option R) : Option R :=
k0 [(0 : Int)]
theorem t37_3 {N : Nat} {cl : Cal} {R : Type} (K : KE R) (x0 : Dn198) (x1 : Int) (x2 : Bool) : exec cl N c37_3 [(0, .v Tn1918 x0), (5, .v Tn192 x1), (8, .v .bool x2)] K = (g37_3 x0 x1 x2 (fun y0 => K .normal [(4, .own true 3 Tn192 .no y0)])) := by
  kernel_rfl
theorem kp37_0 (x0 : Dn190) : keep [4] [(4, .own true 3 Tn192 .no x0)] = [(4, .own true 3 Tn192 .no x0)] := by kernel_rfl
def g37_4 {R : Type} (x0 : Dn198) (x1 : Int) (x2 : Bool) (k0 : Dn198 → Bool → Option R) : Option R :=
k0 x0 (x1 == (2 : Int))
theorem t37_4 {N : Nat} {cl : Cal} {R : Type} (K : KE R) (x0 : Dn198) (x1 : Int) (x2 : Bool) : exec cl N c37_4 [(0, .v Tn1918 x0), (5, .v Tn192 x1), (8, .v .bool x2)] K = (g37_4 x0 x1 x2 (fun y0 y1 => K .normal [(0, .v Tn1918 y0), (17, .v .bool y1)])) := by
  kernel_rfl
def g37_5 {R : Type} (x0 : Dn198) (x1 : Bool) (k0 : Dn190 → Option R) : Option R :=
k0 [(1 : Int), (3 : Int)]
theorem t37_5 {N : Nat} {cl : Cal} {R : Type} (K : KE R) (x0 : Dn198) (x1 : Bool) : exec cl N c37_5 [(0, .v Tn1918 x0), (17, .v .bool x1)] K = (g37_5 x0 x1 (fun y0 => K .normal [(4, .own true 3 Tn192 .no y0)])) := by
  kernel_rfl
def g37_6 {R : Type} (x0 : Dn198) (x1 : Bool) (k0 : Bool → Option R) : Option R :=
let v205 : Int := (IntKind.i64.wrap ((x0.length : Int) - (1 : Int)))
if 0 ≤ v205 ∧ v205 < (x0.length : Int) then
k0 ((x0.getD v205.toNat ((0 : Int), ((0 : Int), ([], ())))).2.1 == (1 : Int))
else none
theorem t37_6 {N : Nat} {cl : Cal} {R : Type} (K : KE R) (x0 : Dn198) (x1 : Bool) : exec cl N c37_6 [(0, .v Tn1918 x0), (17, .v .bool x1)] K = (g37_6 x0 x1 (fun y0 => K .normal [(21, .v .bool y0)])) := by
  kernel_rfl
def g37_7 {R : Type} (x0 : Bool) (k0 : Dn190 → Option R) : Option R :=
k0 [(1 : Int), (2 : Int), (3 : Int)]
theorem t37_7 {N : Nat} {cl : Cal} {R : Type} (K : KE R) (x0 : Bool) : exec cl N c37_7 [(21, .v .bool x0)] K = (g37_7 x0 (fun y0 => K .normal [(4, .own true 3 Tn192 .no y0)])) := by
  kernel_rfl
theorem kp37_1 (x0 : Bool) : keep [4] [(21, .v .bool x0)] = [(4, .dead)] := by kernel_rfl
theorem hb37_0 (x0 : Bool) : boolOf? (ent [(21, .v .bool x0)] (.t 21)) = some x0 := by kernel_rfl
theorem kp37_2 : keep [4] [(4, .dead)] = [(4, .dead)] := by kernel_rfl
theorem hb37_1 (x0 : Dn198) (x1 : Bool) : boolOf? (ent [(0, .v Tn1918 x0), (17, .v .bool x1)] (.t 17)) = some x1 := by kernel_rfl
theorem hb37_2 (x0 : Dn198) (x1 : Int) (x2 : Bool) : boolOf? (ent [(0, .v Tn1918 x0), (5, .v Tn192 x1), (8, .v .bool x2)] (.t 8)) = some x2 := by kernel_rfl
def g37_12 {R : Type} (k0 : Dn190 → Option R) : Option R :=
k0 [(1 : Int), (2 : Int), (3 : Int), (4 : Int)]
theorem t37_12 {N : Nat} {cl : Cal} {R : Type} (K : KE R) : exec cl N c37_12 [(4, .dead)] K = (g37_12 (fun y0 => K .normal [(4, .own true 3 Tn192 .no y0)])) := by
  kernel_rfl
def g37_13 {R : Type} (S13 : Dn198 → Option (Bool)) (S14 : Dn198 → Option (Int)) (x0 : Dn198) (x1 : Dn198) (k0 : Dn190 → Option R) : Option R :=
(g37_0 x0 x1 (fun y0 y1 => (g37_1 S14 y0 y1 (fun y0 y1 y2 => (g37_2 S13 y0 y1 y2 (fun y0 y1 y2 => brB y2 (g37_3 y0 y1 y2 (fun y0 => ((fun y0 => (k0 y0)) y0))) (g37_4 y0 y1 y2 (fun y0 y1 => brB y1 (g37_5 y0 y1 (fun y0 => ((fun y0 => (k0 y0)) y0))) (g37_6 y0 y1 (fun y0 => brB y0 (g37_7 y0 (fun y0 => ((fun y0 => (k0 y0)) y0))) (g37_12 (fun y0 => (k0 y0)))))))))))))
theorem t37_13 {N : Nat} {cl : Cal} (S13 : Dn198 → Option (Bool)) (S14 : Dn198 → Option (Int)) (h13 : (ctr13 S13).holds cl) (h14 : (ctr14 S14).holds cl) {R : Type} (K : KE R) (x0 : Dn198) (x1 : Dn198) : exec cl N c37_13 [(0, .v Tn1918 x0), (1, .v Tn1918 x1)] K = (g37_13 S13 S14 x0 x1 (fun y0 => K .ret [(4, .own true 3 Tn192 .no y0)])) := by
  simp only [c37_13, exec_seq, seqK_normal, seqK_exit, seqK_ret, t37_0, t37_1 S14 h14, c37_11, exec_out, exec_block, t37_2 S13 h13, c37_10, exec_cond', hb37_2, Option.bind_some, brB_true, brB_false, t37_3, exec_ret, t37_4, c37_9, hb37_1, t37_5, t37_6, c37_8, hb37_0, t37_7, exec_skip, kp37_0, kp37_1, kp37_2, blockK_normal, blockK_ret, blockK_eq, t37_12]
  rfl

theorem rk37_0 (y0 : Dn190) : retK d37 .ret [(4, .own true 3 Tn192 .no y0)] = some [.own true 3 Tn192 .no y0] := by kernel_rfl
def g37 {R : Type} (S13 : Dn198 → Option (Bool)) (S14 : Dn198 → Option (Int)) (x0 : Dn198) (x1 : Dn198) (k : Dn190 → Option R) : Option R :=
(g37_13 S13 S14 x0 x1 (fun y0 => k y0))
theorem gen37 {N : Nat} {cl : Cal} (S13 : Dn198 → Option (Bool)) (S14 : Dn198 → Option (Int)) (h13 : (ctr13 S13).holds cl) (h14 : (ctr14 S14).holds cl) (x0 : Dn198) (x1 : Dn198) {R : Type} (k : List E → Option R) : exec cl N c37 (params 0 [.v Tn1918 x0, .v Tn1918 x1]) (fun e env => (retK d37 e env).bind k) = g37 S13 S14 x0 x1 (fun (r0 : Dn190) => k [.own true 3 Tn192 .no r0]) := by
  have e0 : params 0 [.v Tn1918 x0, .v Tn1918 x1] = [(0, .v Tn1918 x0), (1, .v Tn1918 x1)] := by kernel_rfl
  simp only [c37, e0, t37_13 S13 S14 h13 h14, rk37_0, Option.bind_some]
  rfl

def ctr37 (S : Dn198 → Dn198 → Option Dn192) : Ctr := { A := Dn198 × Dn198 × Unit, B := Dn190, f := 37, enc := fun a => [.v Tn1918 a.1, .v Tn1918 a.2.1], dec := (decC (decV Tn1918) (decC (decV Tn1918) dec0)), S := fun a => S a.1 a.2.1, ent := fun b => [.own true 3 Tn192 .no b], ok := (decV_cons (T := Tn1918) (decV_cons (T := Tn1918) (fun es b h => dec0_some h))) }
def S37 (N : Nat) (x0 : Dn198) (x1 : Dn198) : Option Dn192 := g37 (S13 N) (S14 N) x0 x1 (fun (r0 : Dn190) => some (r0))
-- slices.Index[[]int,int]
def g80_0 {R : Type} (x0 : Dn190) (x1 : Int) (k0 : Dn190 → Int → Option R) : Option R :=
k0 x0 x1
theorem t80_0 {N : Nat} {cl : Cal} {R : Type} (K : KE R) (x0 : Dn190) (x1 : Int) : exec cl N c80_0 [(0, .v Tn195 x0), (1, .v Tn192 x1)] K = (g80_0 x0 x1 (fun y0 y1 => K .normal [(0, .v Tn195 y0), (1, .v Tn192 y1)])) := by
  kernel_rfl
def g80_1 {R : Type} (x0 : Dn190) (x1 : Int) (k0 : Dn190 → Int → Int → Int → Option R) : Option R :=
k0 x0 x1 (x0.length : Int) (0 : Int)
theorem t80_1 {N : Nat} {cl : Cal} {R : Type} (K : KE R) (x0 : Dn190) (x1 : Int) : exec cl N c80_1 [(0, .v Tn195 x0), (1, .v Tn192 x1)] K = (g80_1 x0 x1 (fun y0 y1 y2 y3 => K .normal [(0, .v Tn195 y0), (1, .v Tn192 y1), (7, .v Tn192 y2), (8, .v Tn192 y3)])) := by
  kernel_rfl
theorem kp80_0 (x0 : Dn190) (x1 : Int) (x2 : Int) (x3 : Int) : keep [0, 1, 7, 8] [(0, .v Tn195 x0), (1, .v Tn192 x1), (7, .v Tn192 x2), (8, .v Tn192 x3)] = [(0, .v Tn195 x0), (1, .v Tn192 x1), (7, .v Tn192 x2), (8, .v Tn192 x3)] := by kernel_rfl
def g80_2 {R : Type} (x0 : Dn190) (x1 : Int) (x2 : Int) (x3 : Int) (k0 : Dn190 → Int → Int → Int → Bool → Option R) : Option R :=
k0 x0 x1 x2 x3 (decide (x3 < x2))
theorem t80_2 {N : Nat} {cl : Cal} {R : Type} (K : KE R) (x0 : Dn190) (x1 : Int) (x2 : Int) (x3 : Int) : exec cl N c80_2 [(0, .v Tn195 x0), (1, .v Tn192 x1), (7, .v Tn192 x2), (8, .v Tn192 x3)] K = (g80_2 x0 x1 x2 x3 (fun y0 y1 y2 y3 y4 => K .normal [(0, .v Tn195 y0), (1, .v Tn192 y1), (7, .v Tn192 y2), (8, .v Tn192 y3), (9, .v .bool y4)])) := by
  kernel_rfl
theorem kp80_1 (x0 : Dn190) (x1 : Int) (x2 : Int) (x3 : Int) (x4 : Bool) : keep [0, 1, 7, 8] [(0, .v Tn195 x0), (1, .v Tn192 x1), (7, .v Tn192 x2), (8, .v Tn192 x3), (9, .v .bool x4)] = [(0, .v Tn195 x0), (1, .v Tn192 x1), (7, .v Tn192 x2), (8, .v Tn192 x3)] := by kernel_rfl
theorem hb80_0 (x0 : Dn190) (x1 : Int) (x2 : Int) (x3 : Int) (x4 : Bool) : boolOf? (ent [(0, .v Tn195 x0), (1, .v Tn192 x1), (7, .v Tn192 x2), (8, .v Tn192 x3), (9, .v .bool x4)] (.t 9)) = some x4 := by kernel_rfl
def g80_4 {R : Type} (x0 : Dn190) (x1 : Int) (x2 : Int) (x3 : Int) (k0 : Dn190 → Int → Int → Int → Int → Option R) : Option R :=
k0 x0 x1 x3 x2 x3
theorem t80_4 {N : Nat} {cl : Cal} {R : Type} (K : KE R) (x0 : Dn190) (x1 : Int) (x2 : Int) (x3 : Int) : exec cl N c80_4 [(0, .v Tn195 x0), (1, .v Tn192 x1), (7, .v Tn192 x2), (8, .v Tn192 x3)] K = (g80_4 x0 x1 x2 x3 (fun y0 y1 y2 y3 y4 => K .normal [(0, .v Tn195 y0), (1, .v Tn192 y1), (5, .v Tn192 y2), (7, .v Tn192 y3), (8, .v Tn192 y4)])) := by
  kernel_rfl
def g80_5 {R : Type} (x0 : Dn190) (x1 : Int) (x2 : Int) (x3 : Int) (x4 : Int) (k0 : Dn190 → Int → Int → Int → Int → Bool → Option R) : Option R :=
if 0 ≤ x2 ∧ x2 < (x0.length : Int) then
k0 x0 x1 x2 x3 x4 (x1 == (x0.getD x2.toNat (0 : Int)))
else none
theorem t80_5 {N : Nat} {cl : Cal} {R : Type} (K : KE R) (x0 : Dn190) (x1 : Int) (x2 : Int) (x3 : Int) (x4 : Int) : exec cl N c80_5 [(0, .v Tn195 x0), (1, .v Tn192 x1), (5, .v Tn192 x2), (7, .v Tn192 x3), (8, .v Tn192 x4)] K = (g80_5 x0 x1 x2 x3 x4 (fun y0 y1 y2 y3 y4 y5 => K .normal [(0, .v Tn195 y0), (1, .v Tn192 y1), (5, .v Tn192 y2), (7, .v Tn192 y3), (8, .v Tn192 y4), (16, .v .bool y5)])) := by
  kernel_rfl
def g80_6 {R : Type} (x0 : Dn190) (x1 : Int) (x2 : Int) (x3 : Int) (x4 : Int) (x5 : Bool) (k0 : Int → Option R) : Option R :=
k0 x2
theorem t80_6 {N : Nat} {cl : Cal} {R : Type} (K : KE R) (x0 : Dn190) (x1 : Int) (x2 : Int) (x3 : Int) (x4 : Int) (x5 : Bool) : exec cl N c80_6 [(0, .v Tn195 x0), (1, .v Tn192 x1), (5, .v Tn192 x2), (7, .v Tn192 x3), (8, .v Tn192 x4), (16, .v .bool x5)] K = (g80_6 x0 x1 x2 x3 x4 x5 (fun y0 => K .normal [(4, .v Tn192 y0)])) := by
  kernel_rfl
theorem kp80_2 (x0 : Int) : keep [0, 1, 4, 7, 8] [(4, .v Tn192 x0)] = [(0, .dead), (1, .dead), (4, .v Tn192 x0), (7, .dead), (8, .dead)] := by kernel_rfl
theorem kp80_3 (x0 : Dn190) (x1 : Int) (x2 : Int) (x3 : Int) (x4 : Int) (x5 : Bool) : keep [0, 1, 4, 7, 8] [(0, .v Tn195 x0), (1, .v Tn192 x1), (5, .v Tn192 x2), (7, .v Tn192 x3), (8, .v Tn192 x4), (16, .v .bool x5)] = [(0, .v Tn195 x0), (1, .v Tn192 x1), (4, .dead), (7, .v Tn192 x3), (8, .v Tn192 x4)] := by kernel_rfl
theorem hb80_1 (x0 : Dn190) (x1 : Int) (x2 : Int) (x3 : Int) (x4 : Int) (x5 : Bool) : boolOf? (ent [(0, .v Tn195 x0), (1, .v Tn192 x1), (5, .v Tn192 x2), (7, .v Tn192 x3), (8, .v Tn192 x4), (16, .v .bool x5)] (.t 16)) = some x5 := by kernel_rfl
theorem kp80_4 (x0 : Int) : keep [0, 1, 4, 7, 8] [(0, .dead), (1, .dead), (4, .v Tn192 x0), (7, .dead), (8, .dead)] = [(0, .dead), (1, .dead), (4, .v Tn192 x0), (7, .dead), (8, .dead)] := by kernel_rfl
theorem kp80_5 (x0 : Dn190) (x1 : Int) (x2 : Int) (x3 : Int) : keep [0, 1, 4, 7, 8] [(0, .v Tn195 x0), (1, .v Tn192 x1), (4, .dead), (7, .v Tn192 x2), (8, .v Tn192 x3)] = [(0, .v Tn195 x0), (1, .v Tn192 x1), (4, .dead), (7, .v Tn192 x2), (8, .v Tn192 x3)] := by kernel_rfl
def g80_9 {R : Type} (x0 : Dn190) (x1 : Int) (x2 : Int) (x3 : Int) (k0 : Dn190 → Int → Int → Int → Option R) : Option R :=
k0 x0 x1 x2 (IntKind.i64.wrap (x3 + (1 : Int)))
theorem t80_9 {N : Nat} {cl : Cal} {R : Type} (K : KE R) (x0 : Dn190) (x1 : Int) (x2 : Int) (x3 : Int) : exec cl N c80_9 [(0, .v Tn195 x0), (1, .v Tn192 x1), (4, .dead), (7, .v Tn192 x2), (8, .v Tn192 x3)] K = (g80_9 x0 x1 x2 x3 (fun y0 y1 y2 y3 => K .normal [(0, .v Tn195 y0), (1, .v Tn192 y1), (7, .v Tn192 y2), (8, .v Tn192 y3)])) := by
  kernel_rfl
def g80_10 {R : Type} (x0 : Dn190) (x1 : Int) (x2 : Int) (x3 : Int) (k0 : Int → Option R) (k1 : Dn190 → Int → Int → Int → Option R) (k2 : Dn190 → Int → Int → Int → Option R) : Option R :=
(g80_2 x0 x1 x2 x3 (fun y0 y1 y2 y3 y4 => brB y4 ((fun y0 y1 y2 y3 => (g80_4 y0 y1 y2 y3 (fun y0 y1 y2 y3 y4 => (g80_5 y0 y1 y2 y3 y4 (fun y0 y1 y2 y3 y4 y5 => brB y5 (g80_6 y0 y1 y2 y3 y4 y5 (fun y0 => ((fun y0 => (k0 y0)) y0))) (g80_9 y0 y1 y3 y4 k1)))))) y0 y1 y2 y3) (k2 y0 y1 y2 y3)))
theorem t80_10 {N : Nat} {cl : Cal} {R : Type} (K : KE R) (x0 : Dn190) (x1 : Int) (x2 : Int) (x3 : Int) : exec cl N c80_10 [(0, .v Tn195 x0), (1, .v Tn192 x1), (7, .v Tn192 x2), (8, .v Tn192 x3)] K = (g80_10 x0 x1 x2 x3 (fun y0 => K .ret [(0, .dead), (1, .dead), (4, .v Tn192 y0), (7, .dead), (8, .dead)]) (fun y0 y1 y2 y3 => K .normal [(0, .v Tn195 y0), (1, .v Tn192 y1), (7, .v Tn192 y2), (8, .v Tn192 y3)]) (fun y0 y1 y2 y3 => K (.exit 0) [(0, .v Tn195 y0), (1, .v Tn192 y1), (7, .v Tn192 y2), (8, .v Tn192 y3)])) := by
  simp only [c80_10, exec_seq, seqK_normal, seqK_exit, seqK_ret, t80_2, c80_3, exec_out, exec_cond', hb80_0, Option.bind_some, brB_true, brB_false, exec_skip, exec_exit, kp80_1, c80_8, exec_block, t80_4, t80_5, c80_7, hb80_1, t80_6, exec_ret, kp80_2, kp80_3, blockK_normal, blockK_ret, blockK_eq, kp80_4, kp80_5, t80_9]
  rfl

def l80_11 {R : Type} (k0 : Int → Option R) (k1 : Dn190 → Int → Int → Int → Option R) : Nat → Dn190 → Int → Int → Int → Option R
  | 0, _, _, _, _ => none
  | m + 1, x0, x1, x2, x3 => (g80_10 x0 x1 x2 x3 k0 (fun y0 y1 y2 y3 => l80_11 k0 k1 m y0 y1 y2 y3) k1)
theorem lt80_11 {N : Nat} {cl : Cal} {R : Type} (K : KE R) : ∀ (m : Nat) (x0 : Dn190) (x1 : Int) (x2 : Int) (x3 : Int), iter [0, 1, 7, 8] (fun env K => exec cl N c80_10 env K) K m [(0, .v Tn195 x0), (1, .v Tn192 x1), (7, .v Tn192 x2), (8, .v Tn192 x3)] = l80_11 (fun y0 => K .ret [(0, .dead), (1, .dead), (4, .v Tn192 y0), (7, .dead), (8, .dead)]) (fun y0 y1 y2 y3 => K (.exit 0) [(0, .v Tn195 y0), (1, .v Tn192 y1), (7, .v Tn192 y2), (8, .v Tn192 y3)]) m x0 x1 x2 x3 := by
  intro m
  induction m with
  | zero => intros; rfl
  | succ m ih =>
    intro x0 x1 x2 x3
    simp only [iter_succ, t80_10, loopK_normal, loopK_exit, loopK_ret, kp80_0, ih]
    rfl

theorem kp80_6 (x0 : Int) : keep [4] [(0, .dead), (1, .dead), (4, .v Tn192 x0), (7, .dead), (8, .dead)] = [(4, .v Tn192 x0)] := by kernel_rfl
theorem kp80_7 (x0 : Dn190) (x1 : Int) (x2 : Int) (x3 : Int) : keep [4] [(0, .v Tn195 x0), (1, .v Tn192 x1), (7, .v Tn192 x2), (8, .v Tn192 x3)] = [(4, .dead)] := by kernel_rfl
def g80_11 {R : Type} (N : Nat) (x0 : Dn190) (x1 : Int) (x2 : Int) (x3 : Int) (k0 : Int → Option R) (k1 : Option R) : Option R :=
l80_11 (fun y0 => k0 y0) (fun y0 y1 y2 y3 => k1) N x0 x1 x2 x3
theorem t80_11 {N : Nat} {cl : Cal} {R : Type} (K : KE R) (x0 : Dn190) (x1 : Int) (x2 : Int) (x3 : Int) : exec cl N c80_11 [(0, .v Tn195 x0), (1, .v Tn192 x1), (7, .v Tn192 x2), (8, .v Tn192 x3)] K = (g80_11 N x0 x1 x2 x3 (fun y0 => K .ret [(4, .v Tn192 y0)]) (K (.exit 0) [(4, .dead)])) := by
  simp only [c80_11, exec_out, exec_loop, kp80_0, lt80_11, kp80_6, kp80_7]
  rfl

theorem kp80_8 (x0 : Int) : keep [4] [(4, .v Tn192 x0)] = [(4, .v Tn192 x0)] := by kernel_rfl
theorem kp80_9 : keep [4] [(4, .dead)] = [(4, .dead)] := by kernel_rfl
def g80_13 {R : Type} (k0 : Int → Option R) : Option R :=
k0 (-1 : Int)
theorem t80_13 {N : Nat} {cl : Cal} {R : Type} (K : KE R) : exec cl N c80_13 [(4, .dead)] K = (g80_13 (fun y0 => K .normal [(4, .v Tn192 y0)])) := by
  kernel_rfl
def g80_14 {R : Type} (N : Nat) (x0 : Dn190) (x1 : Int) (k0 : Int → Option R) : Option R :=
(g80_0 x0 x1 (fun y0 y1 => (g80_1 y0 y1 (fun y0 y1 y2 y3 => (g80_11 N y0 y1 y2 y3 (fun y0 => (k0 y0)) (g80_13 (fun y0 => (k0 y0))))))))
theorem t80_14 {N : Nat} {cl : Cal} {R : Type} (K : KE R) (x0 : Dn190) (x1 : Int) : exec cl N c80_14 [(0, .v Tn195 x0), (1, .v Tn192 x1)] K = (g80_14 N x0 x1 (fun y0 => K .ret [(4, .v Tn192 y0)])) := by
  simp only [c80_14, exec_seq, seqK_normal, seqK_exit, seqK_ret, t80_0, t80_1, c80_12, exec_out, exec_block, t80_11, blockK_normal, blockK_ret, blockK_eq, kp80_8, kp80_9, t80_13, exec_ret]
  rfl

theorem rk80_0 (y0 : Int) : retK d80 .ret [(4, .v Tn192 y0)] = some [.v Tn192 y0] := by kernel_rfl
def g80 {R : Type} (N : Nat) (x0 : Dn190) (x1 : Int) (k : Int → Option R) : Option R :=
(g80_14 N x0 x1 (fun y0 => k y0))
theorem gen80 {N : Nat} {cl : Cal} (x0 : Dn190) (x1 : Int) {R : Type} (k : List E → Option R) : exec cl N c80 (params 0 [.v Tn195 x0, .v Tn192 x1]) (fun e env => (retK d80 e env).bind k) = g80 N x0 x1 (fun (r0 : Int) => k [.v Tn192 r0]) := by
  have e0 : params 0 [.v Tn195 x0, .v Tn192 x1] = [(0, .v Tn195 x0), (1, .v Tn192 x1)] := by kernel_rfl
  simp only [c80, e0, t80_14, rk80_0, Option.bind_some]
  rfl

def ctr80 (S : Dn190 → Int → Option (Int)) : Ctr := { A := Dn190 × Int × Unit, B := Int, f := 80, enc := fun a => [.v Tn195 a.1, .v Tn192 a.2.1], dec := (decC (decV Tn195) (decC (decV Tn192) dec0)), S := fun a => S a.1 a.2.1, ent := fun b => [.v Tn192 b], ok := (decV_cons (T := Tn195) (decV_cons (T := Tn192) (fun es b h => dec0_some h))) }
def S80 (N : Nat) (x0 : Dn190) (x1 : Int) : Option (Int) := g80 N x0 x1 (fun (r0 : Int) => some (r0))
-- slices.Contains[[]int,int]
def g63_0 {R : Type} (x0 : Dn190) (x1 : Int) (k0 : Dn190 → Int → Option R) : Option R :=
k0 x0 x1
theorem t63_0 {N : Nat} {cl : Cal} {R : Type} (K : KE R) (x0 : Dn190) (x1 : Int) : exec cl N c63_0 [(0, .v Tn195 x0), (1, .v Tn192 x1)] K = (g63_0 x0 x1 (fun y0 y1 => K .normal [(0, .v Tn195 y0), (1, .v Tn192 y1)])) := by
  kernel_rfl
def g63_1 {R : Type} (S80 : Dn190 → Int → Option (Int)) (x0 : Dn190) (x1 : Int) (k0 : Bool → Option R) : Option R :=
(S80 x0 x1).bind fun r216 =>
k0 (decide (r216 ≥ (0 : Int)))
theorem t63_1 {N : Nat} {cl : Cal} (S80 : Dn190 → Int → Option (Int)) (h80 : (ctr80 S80).holds cl) {R : Type} (K : KE R) (x0 : Dn190) (x1 : Int) : exec cl N c63_1 [(0, .v Tn195 x0), (1, .v Tn192 x1)] K = (g63_1 S80 x0 x1 (fun y0 => K .normal [(4, .v .bool y0)])) := by
  rw [← put_eq h80]
  kernel_rfl
def g63_2 {R : Type} (S80 : Dn190 → Int → Option (Int)) (x0 : Dn190) (x1 : Int) (k0 : Bool → Option R) : Option R :=
(g63_0 x0 x1 (fun y0 y1 => (g63_1 S80 y0 y1 (fun y0 => (k0 y0)))))
theorem t63_2 {N : Nat} {cl : Cal} (S80 : Dn190 → Int → Option (Int)) (h80 : (ctr80 S80).holds cl) {R : Type} (K : KE R) (x0 : Dn190) (x1 : Int) : exec cl N c63_2 [(0, .v Tn195 x0), (1, .v Tn192 x1)] K = (g63_2 S80 x0 x1 (fun y0 => K .ret [(4, .v .bool y0)])) := by
  simp only [c63_2, exec_seq, seqK_normal, seqK_exit, seqK_ret, t63_0, t63_1 S80 h80, exec_ret]
  rfl

theorem rk63_0 (y0 : Bool) : retK d63 .ret [(4, .v .bool y0)] = some [.v .bool y0] := by kernel_rfl
def g63 {R : Type} (S80 : Dn190 → Int → Option (Int)) (x0 : Dn190) (x1 : Int) (k : Bool → Option R) : Option R :=
(g63_2 S80 x0 x1 (fun y0 => k y0))
theorem gen63 {N : Nat} {cl : Cal} (S80 : Dn190 → Int → Option (Int)) (h80 : (ctr80 S80).holds cl) (x0 : Dn190) (x1 : Int) {R : Type} (k : List E → Option R) : exec cl N c63 (params 0 [.v Tn195 x0, .v Tn192 x1]) (fun e env => (retK d63 e env).bind k) = g63 S80 x0 x1 (fun (r0 : Bool) => k [.v .bool r0]) := by
  have e0 : params 0 [.v Tn195 x0, .v Tn192 x1] = [(0, .v Tn195 x0), (1, .v Tn192 x1)] := by kernel_rfl
  simp only [c63, e0, t63_2 S80 h80, rk63_0, Option.bind_some]
  rfl

def ctr63 (S : Dn190 → Int → Option (Bool)) : Ctr := { A := Dn190 × Int × Unit, B := Bool, f := 63, enc := fun a => [.v Tn195 a.1, .v Tn192 a.2.1], dec := (decC (decV Tn195) (decC (decV Tn192) dec0)), S := fun a => S a.1 a.2.1, ent := fun b => [.v .bool b], ok := (decV_cons (T := Tn195) (decV_cons (T := Tn192) (fun es b h => dec0_some h))) }
def S63 (N : Nat) (x0 : Dn190) (x1 : Int) : Option (Bool) := g63 (S80 N) x0 x1 (fun (r0 : Bool) => some (r0))
-- anceps/junction.apply
def g44_0 {R : Type} (x0 : Dn198) (x1 : Dn198) (x2 : Int) (k0 : Dn198 → Dn198 → Int → Option R) : Option R :=
k0 x0 x1 x2
theorem t44_0 {N : Nat} {cl : Cal} {R : Type} (K : KE R) (x0 : Dn198) (x1 : Dn198) (x2 : Int) : exec cl N c44_0 [(0, .v Tn1918 x0), (1, .v Tn1918 x1), (2, .v Tn192 x2)] K = (g44_0 x0 x1 x2 (fun y0 y1 y2 => K .normal [(0, .v Tn1918 y0), (1, .v Tn1918 y1), (2, .v Tn192 y2)])) := by
  kernel_rfl
def g44_1 {R : Type} (S36 : Dn198 → Dn198 → Option (Int)) (x0 : Dn198) (x1 : Dn198) (x2 : Int) (k0 : Dn198 → Dn198 → Int → Int → Option R) : Option R :=
(S36 x0 x1).bind fun r236 =>
k0 x0 x1 x2 r236
theorem t44_1 {N : Nat} {cl : Cal} (S36 : Dn198 → Dn198 → Option (Int)) (h36 : (ctr36 S36).holds cl) {R : Type} (K : KE R) (x0 : Dn198) (x1 : Dn198) (x2 : Int) : exec cl N c44_1 [(0, .v Tn1918 x0), (1, .v Tn1918 x1), (2, .v Tn192 x2)] K = (g44_1 S36 x0 x1 x2 (fun y0 y1 y2 y3 => K .normal [(0, .v Tn1918 y0), (1, .v Tn1918 y1), (2, .v Tn192 y2), (10, .v Tn192 y3)])) := by
  rw [← put_eq h36]
  kernel_rfl
def g44_2 {R : Type} (x0 : Dn198) (x1 : Dn198) (x2 : Int) (x3 : Int) (k0 : Dn198 → Dn198 → Int → Int → Bool → Option R) : Option R :=
k0 x0 x1 x2 x3 (x3 != (0 : Int))
theorem t44_2 {N : Nat} {cl : Cal} {R : Type} (K : KE R) (x0 : Dn198) (x1 : Dn198) (x2 : Int) (x3 : Int) : exec cl N c44_2 [(0, .v Tn1918 x0), (1, .v Tn1918 x1), (2, .v Tn192 x2), (10, .v Tn192 x3)] K = (g44_2 x0 x1 x2 x3 (fun y0 y1 y2 y3 y4 => K .normal [(0, .v Tn1918 y0), (1, .v Tn1918 y1), (2, .v Tn192 y2), (10, .v Tn192 y3), (21, .v .bool y4)])) := by
  kernel_rfl
def g44_3 {R : Type} (x0 : Dn198) (x1 : Dn198) (x2 : Int) (x3 : Int) (x4 : Bool) (k0 : Dn198 → Dn198 → Dn198 → Int → Option R) : Option R :=
k0 [] [] [] x3
theorem t44_3 {N : Nat} {cl : Cal} {R : Type} (K : KE R) (x0 : Dn198) (x1 : Dn198) (x2 : Int) (x3 : Int) (x4 : Bool) : exec cl N c44_3 [(0, .v Tn1918 x0), (1, .v Tn1918 x1), (2, .v Tn192 x2), (10, .v Tn192 x3), (21, .v .bool x4)] K = (g44_3 x0 x1 x2 x3 x4 (fun y0 y1 y2 y3 => K .normal [(6, .own true 55 Tn1915 .no y0), (7, .own true 55 Tn1915 .no y1), (8, .own true 55 Tn1915 .no y2), (9, .v Tn192 y3)])) := by
  kernel_rfl
theorem kp44_0 (x0 : Dn198) (x1 : Dn198) (x2 : Dn198) (x3 : Int) : keep [0, 1, 2, 6, 7, 8, 9] [(6, .own true 55 Tn1915 .no x0), (7, .own true 55 Tn1915 .no x1), (8, .own true 55 Tn1915 .no x2), (9, .v Tn192 x3)] = [(0, .dead), (1, .dead), (2, .dead), (6, .own true 55 Tn1915 .no x0), (7, .own true 55 Tn1915 .no x1), (8, .own true 55 Tn1915 .no x2), (9, .v Tn192 x3)] := by kernel_rfl
theorem kp44_1 (x0 : Dn198) (x1 : Dn198) (x2 : Int) (x3 : Int) (x4 : Bool) : keep [0, 1, 2, 6, 7, 8, 9] [(0, .v Tn1918 x0), (1, .v Tn1918 x1), (2, .v Tn192 x2), (10, .v Tn192 x3), (21, .v .bool x4)] = [(0, .v Tn1918 x0), (1, .v Tn1918 x1), (2, .v Tn192 x2), (6, .dead), (7, .dead), (8, .dead), (9, .dead)] := by kernel_rfl
theorem hb44_0 (x0 : Dn198) (x1 : Dn198) (x2 : Int) (x3 : Int) (x4 : Bool) : boolOf? (ent [(0, .v Tn1918 x0), (1, .v Tn1918 x1), (2, .v Tn192 x2), (10, .v Tn192 x3), (21, .v .bool x4)] (.t 21)) = some x4 := by kernel_rfl
def g44_5 {R : Type} (x0 : Dn198) (x1 : Dn198) (x2 : Int) (k0 : Dn198 → Dn198 → Int → Bool → Option R) : Option R :=
brB (decide (x2 < (0 : Int))) (k0 x0 x1 x2 true) (k0 x0 x1 x2 (decide (x2 > (4 : Int))))
theorem t44_5 {N : Nat} {cl : Cal} {R : Type} (K : KE R) (x0 : Dn198) (x1 : Dn198) (x2 : Int) : exec cl N c44_5 [(0, .v Tn1918 x0), (1, .v Tn1918 x1), (2, .v Tn192 x2), (6, .dead), (7, .dead), (8, .dead), (9, .dead)] K = (g44_5 x0 x1 x2 (fun y0 y1 y2 y3 => K .normal [(0, .v Tn1918 y0), (1, .v Tn1918 y1), (2, .v Tn192 y2), (28, .v .bool y3)])) := by
  kernel_rfl
def g44_6 {R : Type} (x0 : Dn198) (x1 : Dn198) (x2 : Int) (x3 : Bool) (k0 : Dn198 → Dn198 → Dn198 → Int → Option R) : Option R :=
k0 [] [] [] (6 : Int)
theorem t44_6 {N : Nat} {cl : Cal} {R : Type} (K : KE R) (x0 : Dn198) (x1 : Dn198) (x2 : Int) (x3 : Bool) : exec cl N c44_6 [(0, .v Tn1918 x0), (1, .v Tn1918 x1), (2, .v Tn192 x2), (28, .v .bool x3)] K = (g44_6 x0 x1 x2 x3 (fun y0 y1 y2 y3 => K .normal [(6, .own true 55 Tn1915 .no y0), (7, .own true 55 Tn1915 .no y1), (8, .own true 55 Tn1915 .no y2), (9, .v Tn192 y3)])) := by
  kernel_rfl
theorem kp44_2 (x0 : Dn198) (x1 : Dn198) (x2 : Int) (x3 : Bool) : keep [0, 1, 2, 6, 7, 8, 9] [(0, .v Tn1918 x0), (1, .v Tn1918 x1), (2, .v Tn192 x2), (28, .v .bool x3)] = [(0, .v Tn1918 x0), (1, .v Tn1918 x1), (2, .v Tn192 x2), (6, .dead), (7, .dead), (8, .dead), (9, .dead)] := by kernel_rfl
theorem hb44_1 (x0 : Dn198) (x1 : Dn198) (x2 : Int) (x3 : Bool) : boolOf? (ent [(0, .v Tn1918 x0), (1, .v Tn1918 x1), (2, .v Tn192 x2), (28, .v .bool x3)] (.t 28)) = some x3 := by kernel_rfl
def g44_8 {R : Type} (S37 : Dn198 → Dn198 → Option Dn192) (S63 : Dn190 → Int → Option (Bool)) (x0 : Dn198) (x1 : Dn198) (x2 : Int) (k0 : Dn198 → Dn198 → Int → Bool → Option R) : Option R :=
(S37 x0 x1).bind fun r240 =>
(S63 r240 x2).bind fun r241 =>
k0 x0 x1 x2 (!r241)
theorem t44_8 {N : Nat} {cl : Cal} (S37 : Dn198 → Dn198 → Option Dn192) (S63 : Dn190 → Int → Option (Bool)) (h37 : (ctr37 S37).holds cl) (h63 : (ctr63 S63).holds cl) {R : Type} (K : KE R) (x0 : Dn198) (x1 : Dn198) (x2 : Int) : exec cl N c44_8 [(0, .v Tn1918 x0), (1, .v Tn1918 x1), (2, .v Tn192 x2), (6, .dead), (7, .dead), (8, .dead), (9, .dead)] K = (g44_8 S37 S63 x0 x1 x2 (fun y0 y1 y2 y3 => K .normal [(0, .v Tn1918 y0), (1, .v Tn1918 y1), (2, .v Tn192 y2), (34, .v .bool y3)])) := by
  rw [← put_eq h37]
  rw [← put_eq h63]
  kernel_rfl
def g44_9 {R : Type} (x0 : Dn198) (x1 : Dn198) (x2 : Int) (x3 : Bool) (k0 : Dn198 → Dn198 → Dn198 → Int → Option R) : Option R :=
k0 [] [] [] (8 : Int)
theorem t44_9 {N : Nat} {cl : Cal} {R : Type} (K : KE R) (x0 : Dn198) (x1 : Dn198) (x2 : Int) (x3 : Bool) : exec cl N c44_9 [(0, .v Tn1918 x0), (1, .v Tn1918 x1), (2, .v Tn192 x2), (34, .v .bool x3)] K = (g44_9 x0 x1 x2 x3 (fun y0 y1 y2 y3 => K .normal [(6, .own true 55 Tn1915 .no y0), (7, .own true 55 Tn1915 .no y1), (8, .own true 55 Tn1915 .no y2), (9, .v Tn192 y3)])) := by
  kernel_rfl
theorem kp44_3 (x0 : Dn198) (x1 : Dn198) (x2 : Int) (x3 : Bool) : keep [0, 1, 2, 6, 7, 8, 9] [(0, .v Tn1918 x0), (1, .v Tn1918 x1), (2, .v Tn192 x2), (34, .v .bool x3)] = [(0, .v Tn1918 x0), (1, .v Tn1918 x1), (2, .v Tn192 x2), (6, .dead), (7, .dead), (8, .dead), (9, .dead)] := by kernel_rfl
theorem hb44_2 (x0 : Dn198) (x1 : Dn198) (x2 : Int) (x3 : Bool) : boolOf? (ent [(0, .v Tn1918 x0), (1, .v Tn1918 x1), (2, .v Tn192 x2), (34, .v .bool x3)] (.t 34)) = some x3 := by kernel_rfl
def g44_11 {R : Type} (S23 : Dn198 → Option Dn199) (x0 : Dn198) (x1 : Dn198) (x2 : Int) (k0 : Dn198 → Dn198 → Int → Dn198 → Dn198 → Option R) : Option R :=
(S23 x0).bind fun r242 =>
(S23 x1).bind fun r243 =>
k0 x0 x1 x2 r242 r243
theorem t44_11 {N : Nat} {cl : Cal} (S23 : Dn198 → Option Dn199) (h23 : (ctr23 S23).holds cl) {R : Type} (K : KE R) (x0 : Dn198) (x1 : Dn198) (x2 : Int) : exec cl N c44_11 [(0, .v Tn1918 x0), (1, .v Tn1918 x1), (2, .v Tn192 x2), (6, .dead), (7, .dead), (8, .dead), (9, .dead)] K = (g44_11 S23 x0 x1 x2 (fun y0 y1 y2 y3 y4 => K .normal [(0, .v Tn1918 y0), (1, .v Tn1918 y1), (2, .v Tn192 y2), (11, .own true 55 Tn1915 .no y3), (12, .own true 55 Tn1915 .no y4)])) := by
  rw [← put_eq h23]
  kernel_rfl
def g44_12 {R : Type} (x0 : Dn198) (x1 : Dn198) (x2 : Int) (x3 : Dn198) (x4 : Dn198) (k0 : Dn198 → Dn198 → Int → Dn198 → Dn198 → Dn198 → Option R) : Option R :=
k0 x0 x1 x2 x3 x4 []
theorem t44_12 {N : Nat} {cl : Cal} {R : Type} (K : KE R) (x0 : Dn198) (x1 : Dn198) (x2 : Int) (x3 : Dn198) (x4 : Dn198) : exec cl N c44_12 [(0, .v Tn1918 x0), (1, .v Tn1918 x1), (2, .v Tn192 x2), (11, .own true 55 Tn1915 .no x3), (12, .own true 55 Tn1915 .no x4)] K = (g44_12 x0 x1 x2 x3 x4 (fun y0 y1 y2 y3 y4 y5 => K .normal [(0, .v Tn1918 y0), (1, .v Tn1918 y1), (2, .v Tn192 y2), (11, .own true 55 Tn1915 .no y3), (12, .own true 55 Tn1915 .no y4), (13, .own true 55 Tn1915 .no y5)])) := by
  kernel_rfl
def g44_13 {R : Type} (x0 : Dn198) (x1 : Dn198) (x2 : Int) (x3 : Dn198) (x4 : Dn198) (x5 : Dn198) (k0 : Dn198 → Dn198 → Dn198 → Dn198 → Dn198 → Int → Option R) : Option R :=
k0 x0 x1 x3 x4 x5 x2
theorem t44_13 {N : Nat} {cl : Cal} {R : Type} (K : KE R) (x0 : Dn198) (x1 : Dn198) (x2 : Int) (x3 : Dn198) (x4 : Dn198) (x5 : Dn198) : exec cl N c44_13 [(0, .v Tn1918 x0), (1, .v Tn1918 x1), (2, .v Tn192 x2), (11, .own true 55 Tn1915 .no x3), (12, .own true 55 Tn1915 .no x4), (13, .own true 55 Tn1915 .no x5)] K = (g44_13 x0 x1 x2 x3 x4 x5 (fun y0 y1 y2 y3 y4 y5 => K .normal [(0, .v Tn1918 y0), (1, .v Tn1918 y1), (11, .own true 55 Tn1915 .no y2), (12, .own true 55 Tn1915 .no y3), (13, .own true 55 Tn1915 .no y4), (39, .v Tn192 y5)])) := by
  kernel_rfl
def g44_14 {R : Type} (x0 : Dn198) (x1 : Dn198) (x2 : Dn198) (x3 : Dn198) (x4 : Dn198) (x5 : Int) (k0 : Dn198 → Dn198 → Dn198 → Dn198 → Dn198 → Int → Bool → Option R) : Option R :=
k0 x0 x1 x2 x3 x4 x5 (x5 == (1 : Int))
theorem t44_14 {N : Nat} {cl : Cal} {R : Type} (K : KE R) (x0 : Dn198) (x1 : Dn198) (x2 : Dn198) (x3 : Dn198) (x4 : Dn198) (x5 : Int) : exec cl N c44_14 [(0, .v Tn1918 x0), (1, .v Tn1918 x1), (11, .own true 55 Tn1915 .no x2), (12, .own true 55 Tn1915 .no x3), (13, .own true 55 Tn1915 .no x4), (39, .v Tn192 x5)] K = (g44_14 x0 x1 x2 x3 x4 x5 (fun y0 y1 y2 y3 y4 y5 y6 => K .normal [(0, .v Tn1918 y0), (1, .v Tn1918 y1), (11, .own true 55 Tn1915 .no y2), (12, .own true 55 Tn1915 .no y3), (13, .own true 55 Tn1915 .no y4), (39, .v Tn192 y5), (40, .v .bool y6)])) := by
  kernel_rfl
def g44_15 {R : Type} (S14 : Dn198 → Option (Int)) (x0 : Dn198) (x1 : Dn198) (x2 : Dn198) (x3 : Dn198) (x4 : Dn198) (x5 : Int) (x6 : Bool) (k0 : Dn198 → Dn198 → Dn198 → Int → Option R) : Option R :=
(S14 x0).bind fun r245 =>
k0 x0 x2 x3 (IntKind.i64.wrap ((x0.length : Int) - r245))
theorem t44_15 {N : Nat} {cl : Cal} (S14 : Dn198 → Option (Int)) (h14 : (ctr14 S14).holds cl) {R : Type} (K : KE R) (x0 : Dn198) (x1 : Dn198) (x2 : Dn198) (x3 : Dn198) (x4 : Dn198) (x5 : Int) (x6 : Bool) : exec cl N c44_15 [(0, .v Tn1918 x0), (1, .v Tn1918 x1), (11, .own true 55 Tn1915 .no x2), (12, .own true 55 Tn1915 .no x3), (13, .own true 55 Tn1915 .no x4), (39, .v Tn192 x5), (40, .v .bool x6)] K = (g44_15 S14 x0 x1 x2 x3 x4 x5 x6 (fun y0 y1 y2 y3 => K .normal [(0, .v Tn1918 y0), (11, .own true 55 Tn1915 .no y1), (12, .own true 55 Tn1915 .no y2), (14, .v Tn192 y3)])) := by
  rw [← put_eq h14]
  kernel_rfl
def g44_16 {R : Type} (S23 : Dn198 → Option Dn199) (x0 : Dn198) (x1 : Dn198) (x2 : Dn198) (x3 : Int) (k0 : Dn198 → Dn198 → Dn198 → Option R) : Option R :=
if 0 ≤ (0 : Int) ∧ (0 : Int) ≤ x3 ∧ x3 ≤ x3 ∧ x3 ≤ (x1.length : Int) then
if 0 ≤ x3 ∧ x3 ≤ (x0.length : Int) ∧ (x0.length : Int) ≤ (x0.length : Int) ∧ (x0.length : Int) ≤ (x0.length : Int) then
(S23 ((x0.drop x3.toNat).take ((x0.length : Int).toNat - x3.toNat))).bind fun r249 =>
k0 ((x1.drop (0 : Int).toNat).take (x3.toNat - (0 : Int).toNat)) x2 r249
else none
else none
theorem t44_16 {N : Nat} {cl : Cal} (S23 : Dn198 → Option Dn199) (h23 : (ctr23 S23).holds cl) {R : Type} (K : KE R) (x0 : Dn198) (x1 : Dn198) (x2 : Dn198) (x3 : Int) : exec cl N c44_16 [(0, .v Tn1918 x0), (11, .own true 55 Tn1915 .no x1), (12, .own true 55 Tn1915 .no x2), (14, .v Tn192 x3)] K = (g44_16 S23 x0 x1 x2 x3 (fun y0 y1 y2 => K .normal [(11, .v Tn1918 y0), (12, .own true 55 Tn1915 .no y1), (13, .own true 55 Tn1915 .no y2)])) := by
  rw [← put_eq h23]
  kernel_rfl
theorem kp44_4 (x0 : Dn198) (x1 : Dn198) (x2 : Dn198) : keep [11, 12, 13] [(11, .v Tn1918 x0), (12, .own true 55 Tn1915 .no x1), (13, .own true 55 Tn1915 .no x2)] = [(11, .v Tn1918 x0), (12, .own true 55 Tn1915 .no x1), (13, .own true 55 Tn1915 .no x2)] := by kernel_rfl
def g44_17 {R : Type} (x0 : Dn198) (x1 : Dn198) (x2 : Dn198) (x3 : Dn198) (x4 : Dn198) (x5 : Int) (x6 : Bool) (k0 : Dn198 → Dn198 → Dn198 → Dn198 → Int → Bool → Option R) : Option R :=
k0 x1 x2 x3 x4 x5 (x5 == (2 : Int))
theorem t44_17 {N : Nat} {cl : Cal} {R : Type} (K : KE R) (x0 : Dn198) (x1 : Dn198) (x2 : Dn198) (x3 : Dn198) (x4 : Dn198) (x5 : Int) (x6 : Bool) : exec cl N c44_17 [(0, .v Tn1918 x0), (1, .v Tn1918 x1), (11, .own true 55 Tn1915 .no x2), (12, .own true 55 Tn1915 .no x3), (13, .own true 55 Tn1915 .no x4), (39, .v Tn192 x5), (40, .v .bool x6)] K = (g44_17 x0 x1 x2 x3 x4 x5 x6 (fun y0 y1 y2 y3 y4 y5 => K .normal [(1, .v Tn1918 y0), (11, .own true 55 Tn1915 .no y1), (12, .own true 55 Tn1915 .no y2), (13, .own true 55 Tn1915 .no y3), (39, .v Tn192 y4), (55, .v .bool y5)])) := by
  kernel_rfl
def g44_18 {R : Type} (S42 : Dn198 → Option (Int)) (x0 : Dn198) (x1 : Dn198) (x2 : Dn198) (x3 : Dn198) (x4 : Int) (x5 : Bool) (k0 : Dn198 → Dn198 → Int → Option R) : Option R :=
(S42 x0).bind fun r251 =>
k0 x0 x1 (IntKind.i64.wrap (r251 + (1 : Int)))
theorem t44_18 {N : Nat} {cl : Cal} (S42 : Dn198 → Option (Int)) (h42 : (ctr42 S42).holds cl) {R : Type} (K : KE R) (x0 : Dn198) (x1 : Dn198) (x2 : Dn198) (x3 : Dn198) (x4 : Int) (x5 : Bool) : exec cl N c44_18 [(1, .v Tn1918 x0), (11, .own true 55 Tn1915 .no x1), (12, .own true 55 Tn1915 .no x2), (13, .own true 55 Tn1915 .no x3), (39, .v Tn192 x4), (55, .v .bool x5)] K = (g44_18 S42 x0 x1 x2 x3 x4 x5 (fun y0 y1 y2 => K .normal [(1, .v Tn1918 y0), (11, .own true 55 Tn1915 .no y1), (15, .v Tn192 y2)])) := by
  rw [← put_eq h42]
  kernel_rfl
def g44_19 {R : Type} (S23 : Dn198 → Option Dn199) (x0 : Dn198) (x1 : Dn198) (x2 : Int) (k0 : Dn198 → Dn198 → Dn198 → Option R) : Option R :=
if 0 ≤ x2 ∧ x2 ≤ (x0.length : Int) ∧ (x0.length : Int) ≤ (x0.length : Int) ∧ (x0.length : Int) ≤ (x0.length : Int) then
(S23 ((x0.drop x2.toNat).take ((x0.length : Int).toNat - x2.toNat))).bind fun r254 =>
if 0 ≤ (0 : Int) ∧ (0 : Int) ≤ x2 ∧ x2 ≤ (x0.length : Int) ∧ (x0.length : Int) ≤ (x0.length : Int) then
(S23 ((x0.drop (0 : Int).toNat).take (x2.toNat - (0 : Int).toNat))).bind fun r256 =>
k0 x1 r254 r256
else none
else none
theorem t44_19 {N : Nat} {cl : Cal} (S23 : Dn198 → Option Dn199) (h23 : (ctr23 S23).holds cl) {R : Type} (K : KE R) (x0 : Dn198) (x1 : Dn198) (x2 : Int) : exec cl N c44_19 [(1, .v Tn1918 x0), (11, .own true 55 Tn1915 .no x1), (15, .v Tn192 x2)] K = (g44_19 S23 x0 x1 x2 (fun y0 y1 y2 => K .normal [(11, .own true 55 Tn1915 .no y0), (12, .own true 55 Tn1915 .no y1), (13, .own true 55 Tn1915 .no y2)])) := by
  rw [← put_eq h23]
  kernel_rfl
theorem kp44_5 (x0 : Dn198) (x1 : Dn198) (x2 : Dn198) : keep [11, 12, 13] [(11, .own true 55 Tn1915 .no x0), (12, .own true 55 Tn1915 .no x1), (13, .own true 55 Tn1915 .no x2)] = [(11, .own true 55 Tn1915 .no x0), (12, .own true 55 Tn1915 .no x1), (13, .own true 55 Tn1915 .no x2)] := by kernel_rfl
def g44_20 {R : Type} (x0 : Dn198) (x1 : Dn198) (x2 : Dn198) (x3 : Dn198) (x4 : Int) (x5 : Bool) (k0 : Dn198 → Dn198 → Dn198 → Bool → Option R) : Option R :=
k0 x1 x2 x3 (x4 == (4 : Int))
theorem t44_20 {N : Nat} {cl : Cal} {R : Type} (K : KE R) (x0 : Dn198) (x1 : Dn198) (x2 : Dn198) (x3 : Dn198) (x4 : Int) (x5 : Bool) : exec cl N c44_20 [(1, .v Tn1918 x0), (11, .own true 55 Tn1915 .no x1), (12, .own true 55 Tn1915 .no x2), (13, .own true 55 Tn1915 .no x3), (39, .v Tn192 x4), (55, .v .bool x5)] K = (g44_20 x0 x1 x2 x3 x4 x5 (fun y0 y1 y2 y3 => K .normal [(11, .own true 55 Tn1915 .no y0), (12, .own true 55 Tn1915 .no y1), (13, .own true 55 Tn1915 .no y2), (68, .v .bool y3)])) := by
  kernel_rfl
def g44_21 {R : Type} (x0 : Dn198) (x1 : Dn198) (x2 : Dn198) (x3 : Bool) (k0 : Dn198 → Dn198 → Dn198 → Nat → Option R) : Option R :=
let v258 : Int := (IntKind.i64.wrap ((x0.length : Int) - (1 : Int)))
if 0 ≤ v258 ∧ v258 < (x0.length : Int) then
k0 x0 x1 x2 v258.toNat
else none
theorem t44_21 {N : Nat} {cl : Cal} {R : Type} (K : KE R) (x0 : Dn198) (x1 : Dn198) (x2 : Dn198) (x3 : Bool) : exec cl N c44_21 [(11, .own true 55 Tn1915 .no x0), (12, .own true 55 Tn1915 .no x1), (13, .own true 55 Tn1915 .no x2), (68, .v .bool x3)] K = (g44_21 x0 x1 x2 x3 (fun y0 y1 y2 y3 => K .normal [(11, .own true 55 Tn1915 .no y0), (12, .own true 55 Tn1915 .no y1), (13, .own true 55 Tn1915 .no y2), (16, .ptre 11 [] y3 [])])) := by
  kernel_rfl
def g44_22 {R : Type} (x0 : Dn198) (x1 : Dn198) (x2 : Dn198) (x3 : Nat) (k0 : Dn198 → Dn198 → Dn198 → Option R) : Option R :=
if x3 < x0.length then
if x3 < (x0.set x3 ((1 : Int), (x0.getD x3 ((0 : Int), ((0 : Int), ([], ())))).2)).length then
k0 ((x0.set x3 ((1 : Int), (x0.getD x3 ((0 : Int), ((0 : Int), ([], ())))).2)).set x3 (((x0.set x3 ((1 : Int), (x0.getD x3 ((0 : Int), ((0 : Int), ([], ())))).2)).getD x3 ((0 : Int), ((0 : Int), ([], ())))).1, ((1 : Int), ((x0.set x3 ((1 : Int), (x0.getD x3 ((0 : Int), ((0 : Int), ([], ())))).2)).getD x3 ((0 : Int), ((0 : Int), ([], ())))).2.2))) x1 x2
else none
else none
theorem t44_22 {N : Nat} {cl : Cal} {R : Type} (K : KE R) (x0 : Dn198) (x1 : Dn198) (x2 : Dn198) (x3 : Nat) : exec cl N c44_22 [(11, .own true 55 Tn1915 .no x0), (12, .own true 55 Tn1915 .no x1), (13, .own true 55 Tn1915 .no x2), (16, .ptre 11 [] x3 [])] K = (g44_22 x0 x1 x2 x3 (fun y0 y1 y2 => K .normal [(11, .own true 55 Tn1915 .no y0), (12, .own true 55 Tn1915 .no y1), (13, .own true 55 Tn1915 .no y2)])) := by
  kernel_rfl
theorem kp44_6 (x0 : Dn198) (x1 : Dn198) (x2 : Dn198) (x3 : Bool) : keep [11, 12, 13] [(11, .own true 55 Tn1915 .no x0), (12, .own true 55 Tn1915 .no x1), (13, .own true 55 Tn1915 .no x2), (68, .v .bool x3)] = [(11, .own true 55 Tn1915 .no x0), (12, .own true 55 Tn1915 .no x1), (13, .own true 55 Tn1915 .no x2)] := by kernel_rfl
theorem hb44_3 (x0 : Dn198) (x1 : Dn198) (x2 : Dn198) (x3 : Bool) : boolOf? (ent [(11, .own true 55 Tn1915 .no x0), (12, .own true 55 Tn1915 .no x1), (13, .own true 55 Tn1915 .no x2), (68, .v .bool x3)] (.t 68)) = some x3 := by kernel_rfl
theorem hb44_4 (x0 : Dn198) (x1 : Dn198) (x2 : Dn198) (x3 : Dn198) (x4 : Int) (x5 : Bool) : boolOf? (ent [(1, .v Tn1918 x0), (11, .own true 55 Tn1915 .no x1), (12, .own true 55 Tn1915 .no x2), (13, .own true 55 Tn1915 .no x3), (39, .v Tn192 x4), (55, .v .bool x5)] (.t 55)) = some x5 := by kernel_rfl
theorem hb44_5 (x0 : Dn198) (x1 : Dn198) (x2 : Dn198) (x3 : Dn198) (x4 : Dn198) (x5 : Int) (x6 : Bool) : boolOf? (ent [(0, .v Tn1918 x0), (1, .v Tn1918 x1), (11, .own true 55 Tn1915 .no x2), (12, .own true 55 Tn1915 .no x3), (13, .own true 55 Tn1915 .no x4), (39, .v Tn192 x5), (40, .v .bool x6)] (.t 40)) = some x6 := by kernel_rfl
def g44_27 {R : Type} (S14 : Dn198 → Option (Int)) (S23 : Dn198 → Option Dn199) (S42 : Dn198 → Option (Int)) (x0 : Dn198) (x1 : Dn198) (x2 : Int) (x3 : Dn198) (x4 : Dn198) (x5 : Dn198) (k0 : Dn198 → Dn198 → Dn198 → Option R) (k1 : Dn198 → Dn198 → Dn198 → Option R) : Option R :=
(g44_13 x0 x1 x2 x3 x4 x5 (fun y0 y1 y2 y3 y4 y5 => (g44_14 y0 y1 y2 y3 y4 y5 (fun y0 y1 y2 y3 y4 y5 y6 => brB y6 (g44_15 S14 y0 y1 y2 y3 y4 y5 y6 (fun y0 y1 y2 y3 => (g44_16 S23 y0 y1 y2 y3 (fun y0 y1 y2 => (k0 y0 y1 y2))))) (g44_17 y0 y1 y2 y3 y4 y5 y6 (fun y0 y1 y2 y3 y4 y5 => brB y5 (g44_18 S42 y0 y1 y2 y3 y4 y5 (fun y0 y1 y2 => (g44_19 S23 y0 y1 y2 (fun y0 y1 y2 => (k1 y0 y1 y2))))) (g44_20 y0 y1 y2 y3 y4 y5 (fun y0 y1 y2 y3 => brB y3 (g44_21 y0 y1 y2 y3 (fun y0 y1 y2 y3 => (g44_22 y0 y1 y2 y3 (fun y0 y1 y2 => (k1 y0 y1 y2))))) (k1 y0 y1 y2)))))))))
theorem t44_27 {N : Nat} {cl : Cal} (S14 : Dn198 → Option (Int)) (S23 : Dn198 → Option Dn199) (S42 : Dn198 → Option (Int)) (h14 : (ctr14 S14).holds cl) (h23 : (ctr23 S23).holds cl) (h42 : (ctr42 S42).holds cl) {R : Type} (K : KE R) (x0 : Dn198) (x1 : Dn198) (x2 : Int) (x3 : Dn198) (x4 : Dn198) (x5 : Dn198) : exec cl N c44_27 [(0, .v Tn1918 x0), (1, .v Tn1918 x1), (2, .v Tn192 x2), (11, .own true 55 Tn1915 .no x3), (12, .own true 55 Tn1915 .no x4), (13, .own true 55 Tn1915 .no x5)] K = (g44_27 S14 S23 S42 x0 x1 x2 x3 x4 x5 (fun y0 y1 y2 => K .normal [(11, .v Tn1918 y0), (12, .own true 55 Tn1915 .no y1), (13, .own true 55 Tn1915 .no y2)]) (fun y0 y1 y2 => K .normal [(11, .own true 55 Tn1915 .no y0), (12, .own true 55 Tn1915 .no y1), (13, .own true 55 Tn1915 .no y2)])) := by
  simp only [c44_27, exec_seq, seqK_normal, seqK_exit, seqK_ret, t44_13, c44_26, exec_out, exec_block, t44_14, c44_25, exec_cond', hb44_5, Option.bind_some, brB_true, brB_false, t44_15 S14 h14, t44_16 S23 h23, t44_17, c44_24, hb44_4, t44_18 S42 h42, t44_19 S23 h23, t44_20, c44_23, hb44_3, t44_21, t44_22, exec_skip, kp44_5, kp44_6, kp44_4, blockK_normal, blockK_ret, blockK_eq]
  rfl

def g44_28 {R : Type} (x0 : Dn198) (x1 : Dn198) (x2 : Dn198) (k0 : Dn198 → Int → Dn198 → Dn198 → Dn198 → Option R) : Option R :=
k0 x0 (0 : Int) x0 x1 x2
theorem t44_28 {N : Nat} {cl : Cal} {R : Type} (K : KE R) (x0 : Dn198) (x1 : Dn198) (x2 : Dn198) : exec cl N c44_28 [(11, .v Tn1918 x0), (12, .own true 55 Tn1915 .no x1), (13, .own true 55 Tn1915 .no x2)] K = (g44_28 x0 x1 x2 (fun y0 y1 y2 y3 y4 => K .normal [(6, .v Tn1918 y0), (7, .ref 12 []), (8, .ref 13 []), (9, .v Tn192 y1), (11, .v Tn1918 y2), (12, .own true 55 Tn1915 .no y3), (13, .own true 55 Tn1915 .no y4)])) := by
  kernel_rfl
def g44_28b {R : Type} (x0 : Dn198) (x1 : Dn198) (x2 : Dn198) (k0 : Int → Dn198 → Dn198 → Dn198 → Option R) : Option R :=
k0 (0 : Int) x0 x1 x2
theorem t44_28b {N : Nat} {cl : Cal} {R : Type} (K : KE R) (x0 : Dn198) (x1 : Dn198) (x2 : Dn198) : exec cl N c44_28 [(11, .own true 55 Tn1915 .no x0), (12, .own true 55 Tn1915 .no x1), (13, .own true 55 Tn1915 .no x2)] K = (g44_28b x0 x1 x2 (fun y0 y1 y2 y3 => K .normal [(6, .ref 11 []), (7, .ref 12 []), (8, .ref 13 []), (9, .v Tn192 y0), (11, .own true 55 Tn1915 .no y1), (12, .own true 55 Tn1915 .no y2), (13, .own true 55 Tn1915 .no y3)])) := by
  kernel_rfl
def g44_29 {R : Type} (S14 : Dn198 → Option (Int)) (S23 : Dn198 → Option Dn199) (S36 : Dn198 → Dn198 → Option (Int)) (S37 : Dn198 → Dn198 → Option Dn192) (S42 : Dn198 → Option (Int)) (S63 : Dn190 → Int → Option (Bool)) (x0 : Dn198) (x1 : Dn198) (x2 : Int) (k0 : Dn198 → Dn198 → Dn198 → Int → Option R) (k1 : Dn198 → Int → Dn198 → Dn198 → Dn198 → Option R) (k2 : Int → Dn198 → Dn198 → Dn198 → Option R) : Option R :=
(g44_0 x0 x1 x2 (fun y0 y1 y2 => (g44_1 S36 y0 y1 y2 (fun y0 y1 y2 y3 => (g44_2 y0 y1 y2 y3 (fun y0 y1 y2 y3 y4 => brB y4 (g44_3 y0 y1 y2 y3 y4 (fun y0 y1 y2 y3 => ((fun y0 y1 y2 y3 => (k0 y0 y1 y2 y3)) y0 y1 y2 y3))) ((fun y0 y1 y2 => (g44_5 y0 y1 y2 (fun y0 y1 y2 y3 => brB y3 (g44_6 y0 y1 y2 y3 (fun y0 y1 y2 y3 => ((fun y0 y1 y2 y3 => (k0 y0 y1 y2 y3)) y0 y1 y2 y3))) ((fun y0 y1 y2 => (g44_8 S37 S63 y0 y1 y2 (fun y0 y1 y2 y3 => brB y3 (g44_9 y0 y1 y2 y3 (fun y0 y1 y2 y3 => ((fun y0 y1 y2 y3 => (k0 y0 y1 y2 y3)) y0 y1 y2 y3))) ((fun y0 y1 y2 => (g44_11 S23 y0 y1 y2 (fun y0 y1 y2 y3 y4 => (g44_12 y0 y1 y2 y3 y4 (fun y0 y1 y2 y3 y4 y5 => (g44_27 S14 S23 S42 y0 y1 y2 y3 y4 y5 (fun y0 y1 y2 => (g44_28 y0 y1 y2 (fun y0 y1 y2 y3 y4 => (k1 y0 y1 y2 y3 y4)))) (fun y0 y1 y2 => (g44_28b y0 y1 y2 (fun y0 y1 y2 y3 => (k2 y0 y1 y2 y3)))))))))) y0 y1 y2)))) y0 y1 y2)))) y0 y1 y2)))))))
theorem t44_29 {N : Nat} {cl : Cal} (S14 : Dn198 → Option (Int)) (S23 : Dn198 → Option Dn199) (S36 : Dn198 → Dn198 → Option (Int)) (S37 : Dn198 → Dn198 → Option Dn192) (S42 : Dn198 → Option (Int)) (S63 : Dn190 → Int → Option (Bool)) (h14 : (ctr14 S14).holds cl) (h23 : (ctr23 S23).holds cl) (h36 : (ctr36 S36).holds cl) (h37 : (ctr37 S37).holds cl) (h42 : (ctr42 S42).holds cl) (h63 : (ctr63 S63).holds cl) {R : Type} (K : KE R) (x0 : Dn198) (x1 : Dn198) (x2 : Int) : exec cl N c44_29 [(0, .v Tn1918 x0), (1, .v Tn1918 x1), (2, .v Tn192 x2)] K = (g44_29 S14 S23 S36 S37 S42 S63 x0 x1 x2 (fun y0 y1 y2 y3 => K .ret [(0, .dead), (1, .dead), (2, .dead), (6, .own true 55 Tn1915 .no y0), (7, .own true 55 Tn1915 .no y1), (8, .own true 55 Tn1915 .no y2), (9, .v Tn192 y3)]) (fun y0 y1 y2 y3 y4 => K .ret [(6, .v Tn1918 y0), (7, .ref 12 []), (8, .ref 13 []), (9, .v Tn192 y1), (11, .v Tn1918 y2), (12, .own true 55 Tn1915 .no y3), (13, .own true 55 Tn1915 .no y4)]) (fun y0 y1 y2 y3 => K .ret [(6, .ref 11 []), (7, .ref 12 []), (8, .ref 13 []), (9, .v Tn192 y0), (11, .own true 55 Tn1915 .no y1), (12, .own true 55 Tn1915 .no y2), (13, .own true 55 Tn1915 .no y3)])) := by
  simp only [c44_29, exec_seq, seqK_normal, seqK_exit, seqK_ret, t44_0, t44_1 S36 h36, t44_2, c44_4, exec_out, exec_cond', hb44_0, Option.bind_some, brB_true, brB_false, t44_3, exec_ret, exec_skip, kp44_0, kp44_1, t44_5, c44_7, hb44_1, t44_6, kp44_2, t44_8 S37 S63 h37 h63, c44_10, hb44_2, t44_9, kp44_3, t44_11 S23 h23, t44_12, t44_27 S14 S23 S42 h14 h23 h42, t44_28, t44_28b]
  rfl

theorem rk44_0 (y0 : Dn198) (y1 : Dn198) (y2 : Dn198) (y3 : Int) : retK d44 .ret [(0, .dead), (1, .dead), (2, .dead), (6, .own true 55 Tn1915 .no y0), (7, .own true 55 Tn1915 .no y1), (8, .own true 55 Tn1915 .no y2), (9, .v Tn192 y3)] = some [.v Tn1918 y0, .own true 55 Tn1915 .no y1, .own true 55 Tn1915 .no y2, .v Tn192 y3] := by kernel_rfl
theorem rk44_1 (y0 : Dn198) (y1 : Int) (y2 : Dn198) (y3 : Dn198) (y4 : Dn198) : retK d44 .ret [(6, .v Tn1918 y0), (7, .ref 12 []), (8, .ref 13 []), (9, .v Tn192 y1), (11, .v Tn1918 y2), (12, .own true 55 Tn1915 .no y3), (13, .own true 55 Tn1915 .no y4)] = some [.v Tn1918 y0, .own true 55 Tn1915 .no y3, .own true 55 Tn1915 .no y4, .v Tn192 y1] := by kernel_rfl
theorem rk44_2 (y0 : Int) (y1 : Dn198) (y2 : Dn198) (y3 : Dn198) : retK d44 .ret [(6, .ref 11 []), (7, .ref 12 []), (8, .ref 13 []), (9, .v Tn192 y0), (11, .own true 55 Tn1915 .no y1), (12, .own true 55 Tn1915 .no y2), (13, .own true 55 Tn1915 .no y3)] = some [.v Tn1918 y1, .own true 55 Tn1915 .no y2, .own true 55 Tn1915 .no y3, .v Tn192 y0] := by kernel_rfl
def g44 {R : Type} (S14 : Dn198 → Option (Int)) (S23 : Dn198 → Option Dn199) (S36 : Dn198 → Dn198 → Option (Int)) (S37 : Dn198 → Dn198 → Option Dn192) (S42 : Dn198 → Option (Int)) (S63 : Dn190 → Int → Option (Bool)) (x0 : Dn198) (x1 : Dn198) (x2 : Int) (k : Dn198 → Dn198 → Dn198 → Int → Option R) : Option R :=
(g44_29 S14 S23 S36 S37 S42 S63 x0 x1 x2 (fun y0 y1 y2 y3 => k y0 y1 y2 y3) (fun y0 y1 y2 y3 y4 => k y0 y3 y4 y1) (fun y0 y1 y2 y3 => k y1 y2 y3 y0))
theorem gen44 {N : Nat} {cl : Cal} (S14 : Dn198 → Option (Int)) (S23 : Dn198 → Option Dn199) (S36 : Dn198 → Dn198 → Option (Int)) (S37 : Dn198 → Dn198 → Option Dn192) (S42 : Dn198 → Option (Int)) (S63 : Dn190 → Int → Option (Bool)) (h14 : (ctr14 S14).holds cl) (h23 : (ctr23 S23).holds cl) (h36 : (ctr36 S36).holds cl) (h37 : (ctr37 S37).holds cl) (h42 : (ctr42 S42).holds cl) (h63 : (ctr63 S63).holds cl) (x0 : Dn198) (x1 : Dn198) (x2 : Int) {R : Type} (k : List E → Option R) : exec cl N c44 (params 0 [.v Tn1918 x0, .v Tn1918 x1, .v Tn192 x2]) (fun e env => (retK d44 e env).bind k) = g44 S14 S23 S36 S37 S42 S63 x0 x1 x2 (fun (r0 : Dn198) (r1 : Dn198) (r2 : Dn198) (r3 : Int) => k [.v Tn1918 r0, .own true 55 Tn1915 .no r1, .own true 55 Tn1915 .no r2, .v Tn192 r3]) := by
  have e0 : params 0 [.v Tn1918 x0, .v Tn1918 x1, .v Tn192 x2] = [(0, .v Tn1918 x0), (1, .v Tn1918 x1), (2, .v Tn192 x2)] := by kernel_rfl
  simp only [c44, e0, t44_29 S14 S23 S36 S37 S42 S63 h14 h23 h36 h37 h42 h63, rk44_0, rk44_1, rk44_2, Option.bind_some]
  rfl

def ctr44 (S : Dn198 → Dn198 → Int → Option Dn1912) : Ctr := { A := Dn198 × Dn198 × Int × Unit, B := Dn198 × Dn198 × Dn198 × Int, f := 44, enc := fun a => [.v Tn1918 a.1, .v Tn1918 a.2.1, .v Tn192 a.2.2.1], dec := (decC (decV Tn1918) (decC (decV Tn1918) (decC (decV Tn192) dec0))), S := fun a => S a.1 a.2.1 a.2.2.1, ent := fun b => [.v Tn1918 b.1, .own true 55 Tn1915 .no b.2.1, .own true 55 Tn1915 .no b.2.2.1, .v Tn192 b.2.2.2], ok := (decV_cons (T := Tn1918) (decV_cons (T := Tn1918) (decV_cons (T := Tn192) (fun es b h => dec0_some h)))) }
def S44 (N : Nat) (x0 : Dn198) (x1 : Dn198) (x2 : Int) : Option Dn1912 := g44 (S14 N) (S23 N) (S36 N) (S37 N) (S42 N) (S63 N) x0 x1 x2 (fun (r0 : Dn198) (r1 : Dn198) (r2 : Dn198) (r3 : Int) => some (r0, r1, r2, r3))
-- anceps/junction.Apply
def g16_0 {R : Type} (x0 : Dn198) (x1 : Dn198) (x2 : Int) (k0 : Dn198 → Dn198 → Int → Option R) : Option R :=
k0 x0 x1 x2
theorem t16_0 {N : Nat} {cl : Cal} {R : Type} (K : KE R) (x0 : Dn198) (x1 : Dn198) (x2 : Int) : exec cl N c16_0 [(0, .v Tn1918 x0), (1, .v Tn1918 x1), (2, .v Tn192 x2)] K = (g16_0 x0 x1 x2 (fun y0 y1 y2 => K .normal [(0, .v Tn1918 y0), (1, .v Tn1918 y1), (2, .v Tn192 y2)])) := by
  kernel_rfl
def g16_1 {R : Type} (S44 : Dn198 → Dn198 → Int → Option Dn1912) (x0 : Dn198) (x1 : Dn198) (x2 : Int) (k0 : Dn198 → Dn198 → Int → Option R) : Option R :=
(S44 x0 x1 x2).bind fun r260 =>
k0 r260.1 r260.2.1 r260.2.2.2
theorem t16_1 {N : Nat} {cl : Cal} (S44 : Dn198 → Dn198 → Int → Option Dn1912) (h44 : (ctr44 S44).holds cl) {R : Type} (K : KE R) (x0 : Dn198) (x1 : Dn198) (x2 : Int) : exec cl N c16_1 [(0, .v Tn1918 x0), (1, .v Tn1918 x1), (2, .v Tn192 x2)] K = (g16_1 S44 x0 x1 x2 (fun y0 y1 y2 => K .normal [(9, .v Tn1918 y0), (10, .own true 55 Tn1915 .no y1), (12, .v Tn192 y2)])) := by
  rw [← put_eq h44]
  kernel_rfl
def g16_2 {R : Type} (x0 : Dn198) (x1 : Dn198) (x2 : Int) (k0 : Dn198 → Int → Dn198 → Option R) : Option R :=
k0 x0 x2 x1
theorem t16_2 {N : Nat} {cl : Cal} {R : Type} (K : KE R) (x0 : Dn198) (x1 : Dn198) (x2 : Int) : exec cl N c16_2 [(9, .v Tn1918 x0), (10, .own true 55 Tn1915 .no x1), (12, .v Tn192 x2)] K = (g16_2 x0 x1 x2 (fun y0 y1 y2 => K .normal [(6, .v Tn1918 y0), (7, .ref 10 []), (8, .v Tn192 y1), (10, .own true 55 Tn1915 .no y2)])) := by
  kernel_rfl
def g16_3 {R : Type} (S44 : Dn198 → Dn198 → Int → Option Dn1912) (x0 : Dn198) (x1 : Dn198) (x2 : Int) (k0 : Dn198 → Int → Dn198 → Option R) : Option R :=
(g16_0 x0 x1 x2 (fun y0 y1 y2 => (g16_1 S44 y0 y1 y2 (fun y0 y1 y2 => (g16_2 y0 y1 y2 (fun y0 y1 y2 => (k0 y0 y1 y2)))))))
theorem t16_3 {N : Nat} {cl : Cal} (S44 : Dn198 → Dn198 → Int → Option Dn1912) (h44 : (ctr44 S44).holds cl) {R : Type} (K : KE R) (x0 : Dn198) (x1 : Dn198) (x2 : Int) : exec cl N c16_3 [(0, .v Tn1918 x0), (1, .v Tn1918 x1), (2, .v Tn192 x2)] K = (g16_3 S44 x0 x1 x2 (fun y0 y1 y2 => K .ret [(6, .v Tn1918 y0), (7, .ref 10 []), (8, .v Tn192 y1), (10, .own true 55 Tn1915 .no y2)])) := by
  simp only [c16_3, exec_seq, seqK_normal, seqK_exit, seqK_ret, t16_0, t16_1 S44 h44, t16_2, exec_ret]
  rfl

theorem rk16_0 (y0 : Dn198) (y1 : Int) (y2 : Dn198) : retK d16 .ret [(6, .v Tn1918 y0), (7, .ref 10 []), (8, .v Tn192 y1), (10, .own true 55 Tn1915 .no y2)] = some [.v Tn1918 y0, .own true 55 Tn1915 .no y2, .v Tn192 y1] := by kernel_rfl
def g16 {R : Type} (S44 : Dn198 → Dn198 → Int → Option Dn1912) (x0 : Dn198) (x1 : Dn198) (x2 : Int) (k : Dn198 → Dn198 → Int → Option R) : Option R :=
(g16_3 S44 x0 x1 x2 (fun y0 y1 y2 => k y0 y2 y1))
theorem gen16 {N : Nat} {cl : Cal} (S44 : Dn198 → Dn198 → Int → Option Dn1912) (h44 : (ctr44 S44).holds cl) (x0 : Dn198) (x1 : Dn198) (x2 : Int) {R : Type} (k : List E → Option R) : exec cl N c16 (params 0 [.v Tn1918 x0, .v Tn1918 x1, .v Tn192 x2]) (fun e env => (retK d16 e env).bind k) = g16 S44 x0 x1 x2 (fun (r0 : Dn198) (r1 : Dn198) (r2 : Int) => k [.v Tn1918 r0, .own true 55 Tn1915 .no r1, .v Tn192 r2]) := by
  have e0 : params 0 [.v Tn1918 x0, .v Tn1918 x1, .v Tn192 x2] = [(0, .v Tn1918 x0), (1, .v Tn1918 x1), (2, .v Tn192 x2)] := by kernel_rfl
  simp only [c16, e0, t16_3 S44 h44, rk16_0, Option.bind_some]
  rfl

def ctr16 (S : Dn198 → Dn198 → Int → Option Dn1911) : Ctr := { A := Dn198 × Dn198 × Int × Unit, B := Dn198 × Dn198 × Int, f := 16, enc := fun a => [.v Tn1918 a.1, .v Tn1918 a.2.1, .v Tn192 a.2.2.1], dec := (decC (decV Tn1918) (decC (decV Tn1918) (decC (decV Tn192) dec0))), S := fun a => S a.1 a.2.1 a.2.2.1, ent := fun b => [.v Tn1918 b.1, .own true 55 Tn1915 .no b.2.1, .v Tn192 b.2.2], ok := (decV_cons (T := Tn1918) (decV_cons (T := Tn1918) (decV_cons (T := Tn192) (fun es b h => dec0_some h)))) }
def S16 (N : Nat) (x0 : Dn198) (x1 : Dn198) (x2 : Int) : Option Dn1911 := g16 (S44 N) x0 x1 x2 (fun (r0 : Dn198) (r1 : Dn198) (r2 : Int) => some (r0, r1, r2))
-- anceps/ancepsref11.Nucleus
def g45_0 {R : Type} (x0 : Dn196) (k0 : Dn196 → Option R) : Option R :=
k0 x0
theorem t45_0 {N : Nat} {cl : Cal} {R : Type} (K : KE R) (x0 : Dn196) : exec cl N c45_0 [(0, .v Tn1915 x0)] K = (g45_0 x0 (fun y0 => K .normal [(1, .loc Tn1915 .no y0)])) := by
  kernel_rfl
def g45_1 {R : Type} (x0 : Dn196) (k0 : Bool → Option R) : Option R :=
brB (x0.1 == (1 : Int)) (k0 true) (k0 (x0.1 == (2 : Int)))
theorem t45_1 {N : Nat} {cl : Cal} {R : Type} (K : KE R) (x0 : Dn196) : exec cl N c45_1 [(1, .loc Tn1915 .no x0)] K = (g45_1 x0 (fun y0 => K .normal [(2, .v .bool y0)])) := by
  kernel_rfl
def g45_2 {R : Type} (x0 : Dn196) (k0 : Bool → Option R) : Option R :=
(g45_0 x0 (fun y0 => (g45_1 y0 (fun y0 => (k0 y0)))))
theorem t45_2 {N : Nat} {cl : Cal} {R : Type} (K : KE R) (x0 : Dn196) : exec cl N c45_2 [(0, .v Tn1915 x0)] K = (g45_2 x0 (fun y0 => K .ret [(2, .v .bool y0)])) := by
  simp only [c45_2, exec_seq, seqK_normal, seqK_exit, seqK_ret, t45_0, t45_1, exec_ret]
  rfl

theorem rk45_0 (y0 : Bool) : retK d45 .ret [(2, .v .bool y0)] = some [.v .bool y0] := by kernel_rfl
def g45 {R : Type} (x0 : Dn196) (k : Bool → Option R) : Option R :=
(g45_2 x0 (fun y0 => k y0))
theorem gen45 {N : Nat} {cl : Cal} (x0 : Dn196) {R : Type} (k : List E → Option R) : exec cl N c45 (params 0 [.v Tn1915 x0]) (fun e env => (retK d45 e env).bind k) = g45 x0 (fun (r0 : Bool) => k [.v .bool r0]) := by
  have e0 : params 0 [.v Tn1915 x0] = [(0, .v Tn1915 x0)] := by kernel_rfl
  simp only [c45, e0, t45_2, rk45_0, Option.bind_some]
  rfl

def ctr45 (S : Dn196 → Option (Bool)) : Ctr := { A := Dn196 × Unit, B := Bool, f := 45, enc := fun a => [.v Tn1915 a.1], dec := (decC (decV Tn1915) dec0), S := fun a => S a.1, ent := fun b => [.v .bool b], ok := (decV_cons (T := Tn1915) (fun es b h => dec0_some h)) }
def S45 (N : Nat) (x0 : Dn196) : Option (Bool) := g45 x0 (fun (r0 : Bool) => some (r0))
-- anceps/ancepsref11.Nuclei
def g17_0 {R : Type} (x0 : Dn198) (k0 : Dn198 → Option R) : Option R :=
k0 x0
theorem t17_0 {N : Nat} {cl : Cal} {R : Type} (K : KE R) (x0 : Dn198) : exec cl N c17_0 [(0, .v Tn1918 x0)] K = (g17_0 x0 (fun y0 => K .normal [(0, .v Tn1918 y0)])) := by
  kernel_rfl
def g17_1 {R : Type} (x0 : Dn198) (k0 : Dn198 → Dn190 → Option R) : Option R :=
k0 x0 []
theorem t17_1 {N : Nat} {cl : Cal} {R : Type} (K : KE R) (x0 : Dn198) : exec cl N c17_1 [(0, .v Tn1918 x0)] K = (g17_1 x0 (fun y0 y1 => K .normal [(0, .v Tn1918 y0), (3, .own true 3 Tn192 .no y1)])) := by
  kernel_rfl
def g17_2 {R : Type} (x0 : Dn198) (x1 : Dn190) (k0 : Dn198 → Dn190 → Int → Option R) : Option R :=
k0 x0 x1 (0 : Int)
theorem t17_2 {N : Nat} {cl : Cal} {R : Type} (K : KE R) (x0 : Dn198) (x1 : Dn190) : exec cl N c17_2 [(0, .v Tn1918 x0), (3, .own true 3 Tn192 .no x1)] K = (g17_2 x0 x1 (fun y0 y1 y2 => K .normal [(0, .v Tn1918 y0), (3, .own true 3 Tn192 .no y1), (4, .v Tn192 y2)])) := by
  kernel_rfl
theorem kp17_0 (x0 : Dn198) (x1 : Dn190) (x2 : Int) : keep [0, 3, 4] [(0, .v Tn1918 x0), (3, .own true 3 Tn192 .no x1), (4, .v Tn192 x2)] = [(0, .v Tn1918 x0), (3, .own true 3 Tn192 .no x1), (4, .v Tn192 x2)] := by kernel_rfl
def g17_3 {R : Type} (x0 : Dn198) (x1 : Dn190) (x2 : Int) (k0 : Dn198 → Dn190 → Int → Bool → Option R) : Option R :=
k0 x0 x1 x2 (decide (x2 < (x0.length : Int)))
theorem t17_3 {N : Nat} {cl : Cal} {R : Type} (K : KE R) (x0 : Dn198) (x1 : Dn190) (x2 : Int) : exec cl N c17_3 [(0, .v Tn1918 x0), (3, .own true 3 Tn192 .no x1), (4, .v Tn192 x2)] K = (g17_3 x0 x1 x2 (fun y0 y1 y2 y3 => K .normal [(0, .v Tn1918 y0), (3, .own true 3 Tn192 .no y1), (4, .v Tn192 y2), (8, .v .bool y3)])) := by
  kernel_rfl
theorem kp17_1 (x0 : Dn198) (x1 : Dn190) (x2 : Int) (x3 : Bool) : keep [0, 3, 4] [(0, .v Tn1918 x0), (3, .own true 3 Tn192 .no x1), (4, .v Tn192 x2), (8, .v .bool x3)] = [(0, .v Tn1918 x0), (3, .own true 3 Tn192 .no x1), (4, .v Tn192 x2)] := by kernel_rfl
theorem hb17_0 (x0 : Dn198) (x1 : Dn190) (x2 : Int) (x3 : Bool) : boolOf? (ent [(0, .v Tn1918 x0), (3, .own true 3 Tn192 .no x1), (4, .v Tn192 x2), (8, .v .bool x3)] (.t 8)) = some x3 := by kernel_rfl
def g17_5 {R : Type} (S45 : Dn196 → Option (Bool)) (x0 : Dn198) (x1 : Dn190) (x2 : Int) (k0 : Dn198 → Dn190 → Int → Bool → Option R) : Option R :=
if 0 ≤ x2 ∧ x2 < (x0.length : Int) then
(S45 (x0.getD x2.toNat ((0 : Int), ((0 : Int), ([], ()))))).bind fun r272 =>
k0 x0 x1 x2 r272
else none
theorem t17_5 {N : Nat} {cl : Cal} (S45 : Dn196 → Option (Bool)) (h45 : (ctr45 S45).holds cl) {R : Type} (K : KE R) (x0 : Dn198) (x1 : Dn190) (x2 : Int) : exec cl N c17_5 [(0, .v Tn1918 x0), (3, .own true 3 Tn192 .no x1), (4, .v Tn192 x2)] K = (g17_5 S45 x0 x1 x2 (fun y0 y1 y2 y3 => K .normal [(0, .v Tn1918 y0), (3, .own true 3 Tn192 .no y1), (4, .v Tn192 y2), (15, .v .bool y3)])) := by
  rw [← put_eq h45]
  kernel_rfl
def g17_6 {R : Type} (x0 : Dn198) (x1 : Dn190) (x2 : Int) (x3 : Bool) (k0 : Dn198 → Dn190 → Int → Option R) : Option R :=
if x1.length + [x2].length ≤ 17592186044416 then
k0 x0 (x1 ++ [x2]) x2
else none
theorem t17_6 {N : Nat} {cl : Cal} {R : Type} (K : KE R) (x0 : Dn198) (x1 : Dn190) (x2 : Int) (x3 : Bool) : exec cl N c17_6 [(0, .v Tn1918 x0), (3, .own true 3 Tn192 .no x1), (4, .v Tn192 x2), (15, .v .bool x3)] K = (g17_6 x0 x1 x2 x3 (fun y0 y1 y2 => K .normal [(0, .v Tn1918 y0), (3, .own true 3 Tn192 .no y1), (4, .v Tn192 y2)])) := by
  kernel_rfl
theorem kp17_2 (x0 : Dn198) (x1 : Dn190) (x2 : Int) (x3 : Bool) : keep [0, 3, 4] [(0, .v Tn1918 x0), (3, .own true 3 Tn192 .no x1), (4, .v Tn192 x2), (15, .v .bool x3)] = [(0, .v Tn1918 x0), (3, .own true 3 Tn192 .no x1), (4, .v Tn192 x2)] := by kernel_rfl
theorem hb17_1 (x0 : Dn198) (x1 : Dn190) (x2 : Int) (x3 : Bool) : boolOf? (ent [(0, .v Tn1918 x0), (3, .own true 3 Tn192 .no x1), (4, .v Tn192 x2), (15, .v .bool x3)] (.t 15)) = some x3 := by kernel_rfl
def g17_8 {R : Type} (S45 : Dn196 → Option (Bool)) (x0 : Dn198) (x1 : Dn190) (x2 : Int) (k0 : Dn198 → Dn190 → Int → Option R) : Option R :=
(g17_5 S45 x0 x1 x2 (fun y0 y1 y2 y3 => brB y3 (g17_6 y0 y1 y2 y3 (fun y0 y1 y2 => (k0 y0 y1 y2))) (k0 y0 y1 y2)))
theorem t17_8 {N : Nat} {cl : Cal} (S45 : Dn196 → Option (Bool)) (h45 : (ctr45 S45).holds cl) {R : Type} (K : KE R) (x0 : Dn198) (x1 : Dn190) (x2 : Int) : exec cl N c17_8 [(0, .v Tn1918 x0), (3, .own true 3 Tn192 .no x1), (4, .v Tn192 x2)] K = (g17_8 S45 x0 x1 x2 (fun y0 y1 y2 => K .normal [(0, .v Tn1918 y0), (3, .own true 3 Tn192 .no y1), (4, .v Tn192 y2)])) := by
  simp only [c17_8, exec_out, exec_block, exec_seq, seqK_normal, seqK_exit, seqK_ret, t17_5 S45 h45, c17_7, exec_cond', hb17_1, Option.bind_some, brB_true, brB_false, t17_6, exec_skip, kp17_0, kp17_2, blockK_normal, blockK_ret, blockK_eq]
  rfl

def g17_9 {R : Type} (x0 : Dn198) (x1 : Dn190) (x2 : Int) (k0 : Dn198 → Dn190 → Int → Option R) : Option R :=
k0 x0 x1 (IntKind.i64.wrap (x2 + (1 : Int)))
theorem t17_9 {N : Nat} {cl : Cal} {R : Type} (K : KE R) (x0 : Dn198) (x1 : Dn190) (x2 : Int) : exec cl N c17_9 [(0, .v Tn1918 x0), (3, .own true 3 Tn192 .no x1), (4, .v Tn192 x2)] K = (g17_9 x0 x1 x2 (fun y0 y1 y2 => K .normal [(0, .v Tn1918 y0), (3, .own true 3 Tn192 .no y1), (4, .v Tn192 y2)])) := by
  kernel_rfl
def g17_10 {R : Type} (S45 : Dn196 → Option (Bool)) (x0 : Dn198) (x1 : Dn190) (x2 : Int) (k0 : Dn198 → Dn190 → Int → Option R) (k1 : Dn198 → Dn190 → Int → Option R) : Option R :=
(g17_3 x0 x1 x2 (fun y0 y1 y2 y3 => brB y3 ((fun y0 y1 y2 => (g17_8 S45 y0 y1 y2 (fun y0 y1 y2 => (g17_9 y0 y1 y2 k0)))) y0 y1 y2) (k1 y0 y1 y2)))
theorem t17_10 {N : Nat} {cl : Cal} (S45 : Dn196 → Option (Bool)) (h45 : (ctr45 S45).holds cl) {R : Type} (K : KE R) (x0 : Dn198) (x1 : Dn190) (x2 : Int) : exec cl N c17_10 [(0, .v Tn1918 x0), (3, .own true 3 Tn192 .no x1), (4, .v Tn192 x2)] K = (g17_10 S45 x0 x1 x2 (fun y0 y1 y2 => K .normal [(0, .v Tn1918 y0), (3, .own true 3 Tn192 .no y1), (4, .v Tn192 y2)]) (fun y0 y1 y2 => K (.exit 0) [(0, .v Tn1918 y0), (3, .own true 3 Tn192 .no y1), (4, .v Tn192 y2)])) := by
  simp only [c17_10, exec_seq, seqK_normal, seqK_exit, seqK_ret, t17_3, c17_4, exec_out, exec_cond', hb17_0, Option.bind_some, brB_true, brB_false, exec_skip, exec_exit, kp17_1, t17_8 S45 h45, t17_9]
  rfl

def l17_11 {R : Type} (S45 : Dn196 → Option (Bool)) (k0 : Dn198 → Dn190 → Int → Option R) : Nat → Dn198 → Dn190 → Int → Option R
  | 0, _, _, _ => none
  | m + 1, x0, x1, x2 => (g17_10 S45 x0 x1 x2 (fun y0 y1 y2 => l17_11 S45 k0 m y0 y1 y2) k0)
theorem lt17_11 {N : Nat} {cl : Cal} (S45 : Dn196 → Option (Bool)) (h45 : (ctr45 S45).holds cl) {R : Type} (K : KE R) : ∀ (m : Nat) (x0 : Dn198) (x1 : Dn190) (x2 : Int), iter [0, 3, 4] (fun env K => exec cl N c17_10 env K) K m [(0, .v Tn1918 x0), (3, .own true 3 Tn192 .no x1), (4, .v Tn192 x2)] = l17_11 S45 (fun y0 y1 y2 => K (.exit 0) [(0, .v Tn1918 y0), (3, .own true 3 Tn192 .no y1), (4, .v Tn192 y2)]) m x0 x1 x2 := by
  intro m
  induction m with
  | zero => intros; rfl
  | succ m ih =>
    intro x0 x1 x2
    simp only [iter_succ, t17_10 S45 h45, loopK_normal, loopK_exit, loopK_ret, kp17_0, ih]
    rfl

theorem kp17_3 (x0 : Dn198) (x1 : Dn190) (x2 : Int) : keep [3] [(0, .v Tn1918 x0), (3, .own true 3 Tn192 .no x1), (4, .v Tn192 x2)] = [(3, .own true 3 Tn192 .no x1)] := by kernel_rfl
def g17_11 {R : Type} (N : Nat) (S45 : Dn196 → Option (Bool)) (x0 : Dn198) (x1 : Dn190) (x2 : Int) (k0 : Dn190 → Option R) : Option R :=
l17_11 S45 (fun y0 y1 y2 => k0 y1) N x0 x1 x2
theorem t17_11 {N : Nat} {cl : Cal} (S45 : Dn196 → Option (Bool)) (h45 : (ctr45 S45).holds cl) {R : Type} (K : KE R) (x0 : Dn198) (x1 : Dn190) (x2 : Int) : exec cl N c17_11 [(0, .v Tn1918 x0), (3, .own true 3 Tn192 .no x1), (4, .v Tn192 x2)] K = (g17_11 N S45 x0 x1 x2 (fun y0 => K (.exit 0) [(3, .own true 3 Tn192 .no y0)])) := by
  simp only [c17_11, exec_out, exec_loop, kp17_0, lt17_11 S45 h45, kp17_3]
  rfl

theorem kp17_4 (x0 : Dn190) : keep [3] [(3, .own true 3 Tn192 .no x0)] = [(3, .own true 3 Tn192 .no x0)] := by kernel_rfl
def g17_13 {R : Type} (x0 : Dn190) (k0 : Dn190 → Option R) : Option R :=
k0 x0
theorem t17_13 {N : Nat} {cl : Cal} {R : Type} (K : KE R) (x0 : Dn190) : exec cl N c17_13 [(3, .own true 3 Tn192 .no x0)] K = (g17_13 x0 (fun y0 => K .normal [(2, .ref 3 []), (3, .own true 3 Tn192 .no y0)])) := by
  kernel_rfl
def g17_14 {R : Type} (N : Nat) (S45 : Dn196 → Option (Bool)) (x0 : Dn198) (k0 : Dn190 → Option R) : Option R :=
(g17_0 x0 (fun y0 => (g17_1 y0 (fun y0 y1 => (g17_2 y0 y1 (fun y0 y1 y2 => (g17_11 N S45 y0 y1 y2 (fun y0 => ((fun y0 => (g17_13 y0 (fun y0 => (k0 y0)))) y0)))))))))
theorem t17_14 {N : Nat} {cl : Cal} (S45 : Dn196 → Option (Bool)) (h45 : (ctr45 S45).holds cl) {R : Type} (K : KE R) (x0 : Dn198) : exec cl N c17_14 [(0, .v Tn1918 x0)] K = (g17_14 N S45 x0 (fun y0 => K .ret [(2, .ref 3 []), (3, .own true 3 Tn192 .no y0)])) := by
  simp only [c17_14, exec_seq, seqK_normal, seqK_exit, seqK_ret, t17_0, t17_1, t17_2, c17_12, exec_out, exec_block, t17_11 S45 h45, blockK_normal, blockK_ret, blockK_eq, kp17_4, t17_13, exec_ret]
  rfl

theorem rk17_0 (y0 : Dn190) : retK d17 .ret [(2, .ref 3 []), (3, .own true 3 Tn192 .no y0)] = some [.own true 3 Tn192 .no y0] := by kernel_rfl
def g17 {R : Type} (N : Nat) (S45 : Dn196 → Option (Bool)) (x0 : Dn198) (k : Dn190 → Option R) : Option R :=
(g17_14 N S45 x0 (fun y0 => k y0))
theorem gen17 {N : Nat} {cl : Cal} (S45 : Dn196 → Option (Bool)) (h45 : (ctr45 S45).holds cl) (x0 : Dn198) {R : Type} (k : List E → Option R) : exec cl N c17 (params 0 [.v Tn1918 x0]) (fun e env => (retK d17 e env).bind k) = g17 N S45 x0 (fun (r0 : Dn190) => k [.own true 3 Tn192 .no r0]) := by
  have e0 : params 0 [.v Tn1918 x0] = [(0, .v Tn1918 x0)] := by kernel_rfl
  simp only [c17, e0, t17_14 S45 h45, rk17_0, Option.bind_some]
  rfl

def ctr17 (S : Dn198 → Option Dn192) : Ctr := { A := Dn198 × Unit, B := Dn190, f := 17, enc := fun a => [.v Tn1918 a.1], dec := (decC (decV Tn1918) dec0), S := fun a => S a.1, ent := fun b => [.own true 3 Tn192 .no b], ok := (decV_cons (T := Tn1918) (fun es b h => dec0_some h)) }
def S17 (N : Nat) (x0 : Dn198) : Option Dn192 := g17 N (S45 N) x0 (fun (r0 : Dn190) => some (r0))
-- anceps/ancepslaw19.JunctionNuclei
def g4_0 {R : Type} (x0 : Dn190) (x1 : Dn190) (x2 : Int) (k0 : Dn190 → Dn190 → Int → Option R) : Option R :=
k0 x0 x1 x2
theorem t4_0 {N : Nat} {cl : Cal} {R : Type} (K : KE R) (x0 : Dn190) (x1 : Dn190) (x2 : Int) : exec cl N c4_0 [(0, .v Tn194 x0), (1, .v Tn194 x1), (2, .v Tn190 x2)] K = (g4_0 x0 x1 x2 (fun y0 y1 y2 => K .normal [(0, .v Tn194 y0), (1, .v Tn194 y1), (2, .v Tn190 y2)])) := by
  kernel_rfl
def g4_1 {R : Type} (S8 : Option (Bool)) (x0 : Dn190) (x1 : Dn190) (x2 : Int) (k0 : Dn190 → Dn190 → Int → Bool → Option R) : Option R :=
(S8).bind fun r283 =>
brB (!r283) (k0 x0 x1 x2 true) (brB (decide ((x0.length : Int) > (60 : Int))) (k0 x0 x1 x2 true) (k0 x0 x1 x2 (decide ((x1.length : Int) > (60 : Int)))))
theorem t4_1 {N : Nat} {cl : Cal} (S8 : Option (Bool)) (h8 : (ctr8 S8).holds cl) {R : Type} (K : KE R) (x0 : Dn190) (x1 : Dn190) (x2 : Int) : exec cl N c4_1 [(0, .v Tn194 x0), (1, .v Tn194 x1), (2, .v Tn190 x2)] K = (g4_1 S8 x0 x1 x2 (fun y0 y1 y2 y3 => K .normal [(0, .v Tn194 y0), (1, .v Tn194 y1), (2, .v Tn190 y2), (25, .v .bool y3)])) := by
  rw [← put_eq h8]
  kernel_rfl
def g4_2 {R : Type} (S8 : Option (Bool)) (x0 : Dn190) (x1 : Dn190) (x2 : Int) (x3 : Bool) (k0 : Bool → Option R) : Option R :=
(S8).bind fun r286 =>
k0 r286
theorem t4_2 {N : Nat} {cl : Cal} (S8 : Option (Bool)) (h8 : (ctr8 S8).holds cl) {R : Type} (K : KE R) (x0 : Dn190) (x1 : Dn190) (x2 : Int) (x3 : Bool) : exec cl N c4_2 [(0, .v Tn194 x0), (1, .v Tn194 x1), (2, .v Tn190 x2), (25, .v .bool x3)] K = (g4_2 S8 x0 x1 x2 x3 (fun y0 => K .normal [(6, .v .bool y0)])) := by
  rw [← put_eq h8]
  kernel_rfl
theorem kp4_0 (x0 : Bool) : keep [0, 1, 2, 6] [(6, .v .bool x0)] = [(0, .dead), (1, .dead), (2, .dead), (6, .v .bool x0)] := by kernel_rfl
theorem kp4_1 (x0 : Dn190) (x1 : Dn190) (x2 : Int) (x3 : Bool) : keep [0, 1, 2, 6] [(0, .v Tn194 x0), (1, .v Tn194 x1), (2, .v Tn190 x2), (25, .v .bool x3)] = [(0, .v Tn194 x0), (1, .v Tn194 x1), (2, .v Tn190 x2), (6, .dead)] := by kernel_rfl
theorem hb4_0 (x0 : Dn190) (x1 : Dn190) (x2 : Int) (x3 : Bool) : boolOf? (ent [(0, .v Tn194 x0), (1, .v Tn194 x1), (2, .v Tn190 x2), (25, .v .bool x3)] (.t 25)) = some x3 := by kernel_rfl
def g4_4 {R : Type} (S10 : Dn190 → Option Dn199) (x0 : Dn190) (x1 : Dn190) (x2 : Int) (k0 : Int → Dn198 → Dn198 → Option R) : Option R :=
(S10 x0).bind fun r287 =>
(S10 x1).bind fun r288 =>
k0 x2 r287 r288
theorem t4_4 {N : Nat} {cl : Cal} (S10 : Dn190 → Option Dn199) (h10 : (ctr10 S10).holds cl) {R : Type} (K : KE R) (x0 : Dn190) (x1 : Dn190) (x2 : Int) : exec cl N c4_4 [(0, .v Tn194 x0), (1, .v Tn194 x1), (2, .v Tn190 x2), (6, .dead)] K = (g4_4 S10 x0 x1 x2 (fun y0 y1 y2 => K .normal [(2, .v Tn190 y0), (7, .own true 55 Tn1915 .no y1), (8, .own true 55 Tn1915 .no y2)])) := by
  rw [← put_eq h10]
  kernel_rfl
def g4_5 {R : Type} (x0 : Int) (x1 : Dn198) (x2 : Dn198) (k0 : Dn198 → Dn198 → Int → Option R) : Option R :=
k0 x1 x2 (IntKind.i64.wrap (Int.tmod x0 (5 : Int)))
theorem t4_5 {N : Nat} {cl : Cal} {R : Type} (K : KE R) (x0 : Int) (x1 : Dn198) (x2 : Dn198) : exec cl N c4_5 [(2, .v Tn190 x0), (7, .own true 55 Tn1915 .no x1), (8, .own true 55 Tn1915 .no x2)] K = (g4_5 x0 x1 x2 (fun y0 y1 y2 => K .normal [(7, .own true 55 Tn1915 .no y0), (8, .own true 55 Tn1915 .no y1), (9, .v Tn192 y2)])) := by
  kernel_rfl
def g4_6 {R : Type} (S16 : Dn198 → Dn198 → Int → Option Dn1911) (x0 : Dn198) (x1 : Dn198) (x2 : Int) (k0 : Dn198 → Dn198 → Int → Dn198 → Dn198 → Int → Option R) : Option R :=
(S16 x0 x1 x2).bind fun r291 =>
k0 x0 x1 x2 r291.1 r291.2.1 r291.2.2
theorem t4_6 {N : Nat} {cl : Cal} (S16 : Dn198 → Dn198 → Int → Option Dn1911) (h16 : (ctr16 S16).holds cl) {R : Type} (K : KE R) (x0 : Dn198) (x1 : Dn198) (x2 : Int) : exec cl N c4_6 [(7, .own true 55 Tn1915 .no x0), (8, .own true 55 Tn1915 .no x1), (9, .v Tn192 x2)] K = (g4_6 S16 x0 x1 x2 (fun y0 y1 y2 y3 y4 y5 => K .normal [(7, .own false 55 Tn1915 .no y0), (8, .own false 55 Tn1915 .no y1), (9, .v Tn192 y2), (10, .v Tn1918 y3), (11, .own true 55 Tn1915 .no y4), (12, .v Tn192 y5)])) := by
  rw [← put_eq h16]
  kernel_rfl
def g4_7 {R : Type} (x0 : Dn198) (x1 : Dn198) (x2 : Int) (x3 : Dn198) (x4 : Dn198) (x5 : Int) (k0 : Dn198 → Dn198 → Int → Dn198 → Dn198 → Int → Bool → Option R) : Option R :=
k0 x0 x1 x2 x3 x4 x5 (x5 != (0 : Int))
theorem t4_7 {N : Nat} {cl : Cal} {R : Type} (K : KE R) (x0 : Dn198) (x1 : Dn198) (x2 : Int) (x3 : Dn198) (x4 : Dn198) (x5 : Int) : exec cl N c4_7 [(7, .own false 55 Tn1915 .no x0), (8, .own false 55 Tn1915 .no x1), (9, .v Tn192 x2), (10, .v Tn1918 x3), (11, .own true 55 Tn1915 .no x4), (12, .v Tn192 x5)] K = (g4_7 x0 x1 x2 x3 x4 x5 (fun y0 y1 y2 y3 y4 y5 y6 => K .normal [(7, .own false 55 Tn1915 .no y0), (8, .own false 55 Tn1915 .no y1), (9, .v Tn192 y2), (10, .v Tn1918 y3), (11, .own true 55 Tn1915 .no y4), (12, .v Tn192 y5), (43, .v .bool y6)])) := by
  kernel_rfl
def g4_8 {R : Type} (x0 : Dn198) (x1 : Dn198) (x2 : Int) (x3 : Dn198) (x4 : Dn198) (x5 : Int) (x6 : Bool) (k0 : Bool → Option R) : Option R :=
k0 (x5 == (8 : Int))
theorem t4_8 {N : Nat} {cl : Cal} {R : Type} (K : KE R) (x0 : Dn198) (x1 : Dn198) (x2 : Int) (x3 : Dn198) (x4 : Dn198) (x5 : Int) (x6 : Bool) : exec cl N c4_8 [(7, .own false 55 Tn1915 .no x0), (8, .own false 55 Tn1915 .no x1), (9, .v Tn192 x2), (10, .v Tn1918 x3), (11, .own true 55 Tn1915 .no x4), (12, .v Tn192 x5), (43, .v .bool x6)] K = (g4_8 x0 x1 x2 x3 x4 x5 x6 (fun y0 => K .normal [(6, .v .bool y0)])) := by
  kernel_rfl
theorem kp4_2 (x0 : Bool) : keep [6, 7, 8, 9, 10, 11] [(6, .v .bool x0)] = [(6, .v .bool x0), (7, .dead), (8, .dead), (9, .dead), (10, .dead), (11, .dead)] := by kernel_rfl
theorem kp4_3 (x0 : Dn198) (x1 : Dn198) (x2 : Int) (x3 : Dn198) (x4 : Dn198) (x5 : Int) (x6 : Bool) : keep [6, 7, 8, 9, 10, 11] [(7, .own false 55 Tn1915 .no x0), (8, .own false 55 Tn1915 .no x1), (9, .v Tn192 x2), (10, .v Tn1918 x3), (11, .own true 55 Tn1915 .no x4), (12, .v Tn192 x5), (43, .v .bool x6)] = [(6, .dead), (7, .own false 55 Tn1915 .no x0), (8, .own false 55 Tn1915 .no x1), (9, .v Tn192 x2), (10, .v Tn1918 x3), (11, .own true 55 Tn1915 .no x4)] := by kernel_rfl
theorem hb4_1 (x0 : Dn198) (x1 : Dn198) (x2 : Int) (x3 : Dn198) (x4 : Dn198) (x5 : Int) (x6 : Bool) : boolOf? (ent [(7, .own false 55 Tn1915 .no x0), (8, .own false 55 Tn1915 .no x1), (9, .v Tn192 x2), (10, .v Tn1918 x3), (11, .own true 55 Tn1915 .no x4), (12, .v Tn192 x5), (43, .v .bool x6)] (.t 43)) = some x6 := by kernel_rfl
def g4_10 {R : Type} (S17 : Dn198 → Option Dn192) (x0 : Dn198) (x1 : Dn198) (x2 : Int) (x3 : Dn198) (x4 : Dn198) (k0 : Int → Dn198 → Dn198 → Int → Option R) : Option R :=
(S17 x0).bind fun r294 =>
(S17 x1).bind fun r295 =>
k0 x2 x3 x4 (IntKind.i64.wrap ((r294.length : Int) + (r295.length : Int)))
theorem t4_10 {N : Nat} {cl : Cal} (S17 : Dn198 → Option Dn192) (h17 : (ctr17 S17).holds cl) {R : Type} (K : KE R) (x0 : Dn198) (x1 : Dn198) (x2 : Int) (x3 : Dn198) (x4 : Dn198) : exec cl N c4_10 [(6, .dead), (7, .own false 55 Tn1915 .no x0), (8, .own false 55 Tn1915 .no x1), (9, .v Tn192 x2), (10, .v Tn1918 x3), (11, .own true 55 Tn1915 .no x4)] K = (g4_10 S17 x0 x1 x2 x3 x4 (fun y0 y1 y2 y3 => K .normal [(9, .v Tn192 y0), (10, .v Tn1918 y1), (11, .own true 55 Tn1915 .no y2), (13, .v Tn192 y3)])) := by
  rw [← put_eq h17]
  kernel_rfl
def g4_11 {R : Type} (x0 : Int) (x1 : Dn198) (x2 : Dn198) (x3 : Int) (k0 : Dn198 → Dn198 → Int → Bool → Option R) : Option R :=
brB (x0 == (1 : Int)) (k0 x1 x2 x3 true) (k0 x1 x2 x3 (x0 == (2 : Int)))
theorem t4_11 {N : Nat} {cl : Cal} {R : Type} (K : KE R) (x0 : Int) (x1 : Dn198) (x2 : Dn198) (x3 : Int) : exec cl N c4_11 [(9, .v Tn192 x0), (10, .v Tn1918 x1), (11, .own true 55 Tn1915 .no x2), (13, .v Tn192 x3)] K = (g4_11 x0 x1 x2 x3 (fun y0 y1 y2 y3 => K .normal [(10, .v Tn1918 y0), (11, .own true 55 Tn1915 .no y1), (13, .v Tn192 y2), (58, .v .bool y3)])) := by
  kernel_rfl
def g4_12 {R : Type} (x0 : Dn198) (x1 : Dn198) (x2 : Int) (x3 : Bool) (k0 : Dn198 → Dn198 → Int → Option R) : Option R :=
k0 x0 x1 (IntKind.i64.wrap (x2 - (1 : Int)))
theorem t4_12 {N : Nat} {cl : Cal} {R : Type} (K : KE R) (x0 : Dn198) (x1 : Dn198) (x2 : Int) (x3 : Bool) : exec cl N c4_12 [(10, .v Tn1918 x0), (11, .own true 55 Tn1915 .no x1), (13, .v Tn192 x2), (58, .v .bool x3)] K = (g4_12 x0 x1 x2 x3 (fun y0 y1 y2 => K .normal [(10, .v Tn1918 y0), (11, .own true 55 Tn1915 .no y1), (13, .v Tn192 y2)])) := by
  kernel_rfl
theorem kp4_4 (x0 : Dn198) (x1 : Dn198) (x2 : Int) : keep [10, 11, 13] [(10, .v Tn1918 x0), (11, .own true 55 Tn1915 .no x1), (13, .v Tn192 x2)] = [(10, .v Tn1918 x0), (11, .own true 55 Tn1915 .no x1), (13, .v Tn192 x2)] := by kernel_rfl
theorem kp4_5 (x0 : Dn198) (x1 : Dn198) (x2 : Int) (x3 : Bool) : keep [10, 11, 13] [(10, .v Tn1918 x0), (11, .own true 55 Tn1915 .no x1), (13, .v Tn192 x2), (58, .v .bool x3)] = [(10, .v Tn1918 x0), (11, .own true 55 Tn1915 .no x1), (13, .v Tn192 x2)] := by kernel_rfl
theorem hb4_2 (x0 : Dn198) (x1 : Dn198) (x2 : Int) (x3 : Bool) : boolOf? (ent [(10, .v Tn1918 x0), (11, .own true 55 Tn1915 .no x1), (13, .v Tn192 x2), (58, .v .bool x3)] (.t 58)) = some x3 := by kernel_rfl
def g4_14 {R : Type} (x0 : Int) (x1 : Dn198) (x2 : Dn198) (x3 : Int) (k0 : Dn198 → Dn198 → Int → Option R) : Option R :=
(g4_11 x0 x1 x2 x3 (fun y0 y1 y2 y3 => brB y3 (g4_12 y0 y1 y2 y3 (fun y0 y1 y2 => (k0 y0 y1 y2))) (k0 y0 y1 y2)))
theorem t4_14 {N : Nat} {cl : Cal} {R : Type} (K : KE R) (x0 : Int) (x1 : Dn198) (x2 : Dn198) (x3 : Int) : exec cl N c4_14 [(9, .v Tn192 x0), (10, .v Tn1918 x1), (11, .own true 55 Tn1915 .no x2), (13, .v Tn192 x3)] K = (g4_14 x0 x1 x2 x3 (fun y0 y1 y2 => K .normal [(10, .v Tn1918 y0), (11, .own true 55 Tn1915 .no y1), (13, .v Tn192 y2)])) := by
  simp only [c4_14, exec_seq, seqK_normal, seqK_exit, seqK_ret, t4_11, c4_13, exec_out, exec_cond', hb4_2, Option.bind_some, brB_true, brB_false, t4_12, exec_skip, kp4_4, kp4_5]
  rfl

def g4_15 {R : Type} (S17 : Dn198 → Option Dn192) (x0 : Dn198) (x1 : Dn198) (x2 : Int) (k0 : Bool → Option R) : Option R :=
(S17 x0).bind fun r300 =>
(S17 x1).bind fun r301 =>
k0 ((IntKind.i64.wrap ((r300.length : Int) + (r301.length : Int))) == x2)
theorem t4_15 {N : Nat} {cl : Cal} (S17 : Dn198 → Option Dn192) (h17 : (ctr17 S17).holds cl) {R : Type} (K : KE R) (x0 : Dn198) (x1 : Dn198) (x2 : Int) : exec cl N c4_15 [(10, .v Tn1918 x0), (11, .own true 55 Tn1915 .no x1), (13, .v Tn192 x2)] K = (g4_15 S17 x0 x1 x2 (fun y0 => K .normal [(6, .v .bool y0)])) := by
  rw [← put_eq h17]
  kernel_rfl
def g4_16 {R : Type} (S8 : Option (Bool)) (S10 : Dn190 → Option Dn199) (S16 : Dn198 → Dn198 → Int → Option Dn1911) (S17 : Dn198 → Option Dn192) (x0 : Dn190) (x1 : Dn190) (x2 : Int) (k0 : Bool → Option R) (k1 : Bool → Option R) (k2 : Bool → Option R) : Option R :=
(g4_0 x0 x1 x2 (fun y0 y1 y2 => (g4_1 S8 y0 y1 y2 (fun y0 y1 y2 y3 => brB y3 (g4_2 S8 y0 y1 y2 y3 (fun y0 => ((fun y0 => (k0 y0)) y0))) ((fun y0 y1 y2 => (g4_4 S10 y0 y1 y2 (fun y0 y1 y2 => (g4_5 y0 y1 y2 (fun y0 y1 y2 => (g4_6 S16 y0 y1 y2 (fun y0 y1 y2 y3 y4 y5 => (g4_7 y0 y1 y2 y3 y4 y5 (fun y0 y1 y2 y3 y4 y5 y6 => brB y6 (g4_8 y0 y1 y2 y3 y4 y5 y6 (fun y0 => ((fun y0 => (k1 y0)) y0))) ((fun y0 y1 y2 y3 y4 => (g4_10 S17 y0 y1 y2 y3 y4 (fun y0 y1 y2 y3 => (g4_14 y0 y1 y2 y3 (fun y0 y1 y2 => (g4_15 S17 y0 y1 y2 (fun y0 => (k2 y0)))))))) y0 y1 y2 y3 y4)))))))))) y0 y1 y2)))))
theorem t4_16 {N : Nat} {cl : Cal} (S8 : Option (Bool)) (S10 : Dn190 → Option Dn199) (S16 : Dn198 → Dn198 → Int → Option Dn1911) (S17 : Dn198 → Option Dn192) (h8 : (ctr8 S8).holds cl) (h10 : (ctr10 S10).holds cl) (h16 : (ctr16 S16).holds cl) (h17 : (ctr17 S17).holds cl) {R : Type} (K : KE R) (x0 : Dn190) (x1 : Dn190) (x2 : Int) : exec cl N c4_16 [(0, .v Tn194 x0), (1, .v Tn194 x1), (2, .v Tn190 x2)] K = (g4_16 S8 S10 S16 S17 x0 x1 x2 (fun y0 => K .ret [(0, .dead), (1, .dead), (2, .dead), (6, .v .bool y0)]) (fun y0 => K .ret [(6, .v .bool y0), (7, .dead), (8, .dead), (9, .dead), (10, .dead), (11, .dead)]) (fun y0 => K .ret [(6, .v .bool y0)])) := by
  simp only [c4_16, exec_seq, seqK_normal, seqK_exit, seqK_ret, t4_0, t4_1 S8 h8, c4_3, exec_out, exec_cond', hb4_0, Option.bind_some, brB_true, brB_false, t4_2 S8 h8, exec_ret, exec_skip, kp4_0, kp4_1, t4_4 S10 h10, t4_5, t4_6 S16 h16, t4_7, c4_9, hb4_1, t4_8, kp4_2, kp4_3, t4_10 S17 h17, t4_14, t4_15 S17 h17]
  rfl

theorem rk4_0 (y0 : Bool) : retK d4 .ret [(0, .dead), (1, .dead), (2, .dead), (6, .v .bool y0)] = some [.v .bool y0] := by kernel_rfl
theorem rk4_1 (y0 : Bool) : retK d4 .ret [(6, .v .bool y0), (7, .dead), (8, .dead), (9, .dead), (10, .dead), (11, .dead)] = some [.v .bool y0] := by kernel_rfl
theorem rk4_2 (y0 : Bool) : retK d4 .ret [(6, .v .bool y0)] = some [.v .bool y0] := by kernel_rfl
def g4 {R : Type} (S8 : Option (Bool)) (S10 : Dn190 → Option Dn199) (S16 : Dn198 → Dn198 → Int → Option Dn1911) (S17 : Dn198 → Option Dn192) (x0 : Dn190) (x1 : Dn190) (x2 : Int) (k : Bool → Option R) : Option R :=
(g4_16 S8 S10 S16 S17 x0 x1 x2 (fun y0 => k y0) (fun y0 => k y0) (fun y0 => k y0))
theorem gen4 {N : Nat} {cl : Cal} (S8 : Option (Bool)) (S10 : Dn190 → Option Dn199) (S16 : Dn198 → Dn198 → Int → Option Dn1911) (S17 : Dn198 → Option Dn192) (h8 : (ctr8 S8).holds cl) (h10 : (ctr10 S10).holds cl) (h16 : (ctr16 S16).holds cl) (h17 : (ctr17 S17).holds cl) (x0 : Dn190) (x1 : Dn190) (x2 : Int) {R : Type} (k : List E → Option R) : exec cl N c4 (params 0 [.v Tn194 x0, .v Tn194 x1, .v Tn190 x2]) (fun e env => (retK d4 e env).bind k) = g4 S8 S10 S16 S17 x0 x1 x2 (fun (r0 : Bool) => k [.v .bool r0]) := by
  have e0 : params 0 [.v Tn194 x0, .v Tn194 x1, .v Tn190 x2] = [(0, .v Tn194 x0), (1, .v Tn194 x1), (2, .v Tn190 x2)] := by kernel_rfl
  simp only [c4, e0, t4_16 S8 S10 S16 S17 h8 h10 h16 h17, rk4_0, rk4_1, rk4_2, Option.bind_some]
  rfl

def ctr4 (S : Dn190 → Dn190 → Int → Option (Bool)) : Ctr := { A := Dn190 × Dn190 × Int × Unit, B := Bool, f := 4, enc := fun a => [.v Tn194 a.1, .v Tn194 a.2.1, .v Tn190 a.2.2.1], dec := (decC (decV Tn194) (decC (decV Tn194) (decC (decV Tn190) dec0))), S := fun a => S a.1 a.2.1 a.2.2.1, ent := fun b => [.v .bool b], ok := (decV_cons (T := Tn194) (decV_cons (T := Tn194) (decV_cons (T := Tn190) (fun es b h => dec0_some h)))) }
def S4 (N : Nat) (x0 : Dn190) (x1 : Dn190) (x2 : Int) : Option (Bool) := g4 (S8 N) (S10 N) (S16 N) (S17 N) x0 x1 x2 (fun (r0 : Bool) => some (r0))
end Go.Fw.L19
