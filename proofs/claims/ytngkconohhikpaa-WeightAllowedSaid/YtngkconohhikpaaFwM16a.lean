import Derived.Test.YtngkconohhikpaaFwL16
import Derived.Test.YtngkconohhikpaaFwP
set_option linter.unusedVariables false
set_option linter.unusedSimpArgs false
namespace Go.Fw.L16
open Go Go.Fw
set_option maxRecDepth 100000
set_option linter.unusedVariables false
set_option linter.unusedSimpArgs false
def ctr27 (S : D167 → Option D168) : Ctr := { A := D167 × Unit, B := D167, f := 27, enc := fun a => [.v T167 a.1], dec := (decC (decV T167) dec0), S := fun a => S a.1, ent := fun b => [.own true 33 T166 .no b], ok := (decV_cons (T := T167) (fun es b h => dec0_some h)) }
def S27 (_ : Nat) (x0 : List D165) : Option D167 := if x0.length ≤ 5864062014805 then some x0 else none
def ctr28 (S : D160 → Option D162) : Ctr := { A := D160 × Unit, B := D160, f := 28, enc := fun a => [.v T162 a.1], dec := (decC (decV T162) dec0), S := fun a => S a.1, ent := fun b => [.own true 3 T161 .no b], ok := (decV_cons (T := T162) (fun es b h => dec0_some h)) }
def S28 (_ : Nat) (x0 : List Int) : Option D160 := if x0.length ≤ 17592186044416 then some x0 else none
-- anceps/weight.light
def g32_0 {R : Type} (x0 : Int) (x1 : Int) (k0 : Int → Int → D165 → Option R) : Option R :=
k0 x0 x1 ((0 : Int), ((0 : Int), ((0 : Int), ())))
theorem ng32_0 {R R2 : Type} (x0 : Int) (x1 : Int) (k0 : Int → Int → D165 → Option R) (h : R → Option R2) : ((g32_0 x0 x1 k0)).bind h = (g32_0 x0 x1 (fun y0 y1 y2 => (k0 y0 y1 y2).bind h)) := by
  simp only [g32_0, bind_brB, bind_ite, bind_none', Option.bind_assoc]
theorem t32_0 {N : Nat} {cl : Cal} {R : Type} (K : KE R) (x0 : Int) (x1 : Int) : exec cl N c32_0 [(0, .v T161 x0), (1, .v T161 x1)] K = (g32_0 x0 x1 (fun y0 y1 y2 => K .normal [(0, .v T161 y0), (1, .v T161 y1), (4, .loc T166 .no y2)])) := by
  kernel_rfl
def g32_1 {R : Type} (x0 : Int) (x1 : Int) (x2 : D165) (k0 : D165 → Option R) : Option R :=
k0 ((1 : Int), x0, x1, ())
theorem ng32_1 {R R2 : Type} (x0 : Int) (x1 : Int) (x2 : D165) (k0 : D165 → Option R) (h : R → Option R2) : ((g32_1 x0 x1 x2 k0)).bind h = (g32_1 x0 x1 x2 (fun y0 => (k0 y0).bind h)) := by
  simp only [g32_1, bind_brB, bind_ite, bind_none', Option.bind_assoc]
theorem t32_1 {N : Nat} {cl : Cal} {R : Type} (K : KE R) (x0 : Int) (x1 : Int) (x2 : D165) : exec cl N c32_1 [(0, .v T161 x0), (1, .v T161 x1), (4, .loc T166 .no x2)] K = (g32_1 x0 x1 x2 (fun y0 => K .normal [(4, .loc T166 .no y0)])) := by
  kernel_rfl
def g32_2 {R : Type} (x0 : Int) (x1 : Int) (k0 : D165 → Option R) : Option R :=
(g32_0 x0 x1 (fun y0 y1 y2 => (g32_1 y0 y1 y2 (fun y0 => (k0 y0)))))
theorem ng32_2 {R R2 : Type} (x0 : Int) (x1 : Int) (k0 : D165 → Option R) (h : R → Option R2) : ((g32_2 x0 x1 k0)).bind h = (g32_2 x0 x1 (fun y0 => (k0 y0).bind h)) := by
  simp only [g32_2, ng32_0, ng32_1, bind_brB, bind_ite, bind_none', Option.bind_assoc]
theorem t32_2 {N : Nat} {cl : Cal} {R : Type} (K : KE R) (x0 : Int) (x1 : Int) : exec cl N c32_2 [(0, .v T161 x0), (1, .v T161 x1)] K = (g32_2 x0 x1 (fun y0 => K .ret [(4, .loc T166 .no y0)])) := by
  simp only [c32_2, exec_seq, seqK_normal, seqK_exit, seqK_ret, t32_0, t32_1, exec_ret]
  rfl

theorem rk32_0 (y0 : D165) : retK d32 .ret [(4, .loc T166 .no y0)] = some [.v T166 y0] := by kernel_rfl
def g32 {R : Type} (x0 : Int) (x1 : Int) (k : D165 → Option R) : Option R :=
(g32_2 x0 x1 (fun y0 => k y0))
theorem gen32 {N : Nat} {cl : Cal} (x0 : Int) (x1 : Int) : exec cl N c32 (params 0 [.v T161 x0, .v T161 x1]) (retK d32) = g32 x0 x1 (fun (r0 : D165) => some [.v T166 r0]) := by
  have e0 : params 0 [.v T161 x0, .v T161 x1] = [(0, .v T161 x0), (1, .v T161 x1)] := by kernel_rfl
  simp only [c32, e0, t32_2, rk32_0]
  rfl

def ctr32 (S : Int → Int → Option D166) : Ctr := { A := Int × Int × Unit, B := D165, f := 32, enc := fun a => [.v T161 a.1, .v T161 a.2.1], dec := (decC (decV T161) (decC (decV T161) dec0)), S := fun a => S a.1 a.2.1, ent := fun b => [.v T166 b], ok := (decV_cons (T := T161) (decV_cons (T := T161) (fun es b h => dec0_some h))) }
def S32 (N : Nat) (x0 : Int) (x1 : Int) : Option D166 := g32 x0 x1 (fun (r0 : D165) => some (r0))
theorem ng32 {R R2 : Type} (x0 : Int) (x1 : Int) (k : D165 → Option R) (h : R → Option R2) : (g32 x0 x1 k).bind h = g32 x0 x1 (fun (r0 : D165) => (k r0).bind h) := by
  simp only [g32, ng32_2]
-- anceps/weight.heavy
def g31_0 {R : Type} (x0 : Int) (x1 : Int) (k0 : Int → Int → D165 → Option R) : Option R :=
k0 x0 x1 ((0 : Int), ((0 : Int), ((0 : Int), ())))
theorem ng31_0 {R R2 : Type} (x0 : Int) (x1 : Int) (k0 : Int → Int → D165 → Option R) (h : R → Option R2) : ((g31_0 x0 x1 k0)).bind h = (g31_0 x0 x1 (fun y0 y1 y2 => (k0 y0 y1 y2).bind h)) := by
  simp only [g31_0, bind_brB, bind_ite, bind_none', Option.bind_assoc]
theorem t31_0 {N : Nat} {cl : Cal} {R : Type} (K : KE R) (x0 : Int) (x1 : Int) : exec cl N c31_0 [(0, .v T161 x0), (1, .v T161 x1)] K = (g31_0 x0 x1 (fun y0 y1 y2 => K .normal [(0, .v T161 y0), (1, .v T161 y1), (4, .loc T166 .no y2)])) := by
  kernel_rfl
def g31_1 {R : Type} (x0 : Int) (x1 : Int) (x2 : D165) (k0 : D165 → Option R) : Option R :=
k0 ((2 : Int), x0, x1, ())
theorem ng31_1 {R R2 : Type} (x0 : Int) (x1 : Int) (x2 : D165) (k0 : D165 → Option R) (h : R → Option R2) : ((g31_1 x0 x1 x2 k0)).bind h = (g31_1 x0 x1 x2 (fun y0 => (k0 y0).bind h)) := by
  simp only [g31_1, bind_brB, bind_ite, bind_none', Option.bind_assoc]
theorem t31_1 {N : Nat} {cl : Cal} {R : Type} (K : KE R) (x0 : Int) (x1 : Int) (x2 : D165) : exec cl N c31_1 [(0, .v T161 x0), (1, .v T161 x1), (4, .loc T166 .no x2)] K = (g31_1 x0 x1 x2 (fun y0 => K .normal [(4, .loc T166 .no y0)])) := by
  kernel_rfl
def g31_2 {R : Type} (x0 : Int) (x1 : Int) (k0 : D165 → Option R) : Option R :=
(g31_0 x0 x1 (fun y0 y1 y2 => (g31_1 y0 y1 y2 (fun y0 => (k0 y0)))))
theorem ng31_2 {R R2 : Type} (x0 : Int) (x1 : Int) (k0 : D165 → Option R) (h : R → Option R2) : ((g31_2 x0 x1 k0)).bind h = (g31_2 x0 x1 (fun y0 => (k0 y0).bind h)) := by
  simp only [g31_2, ng31_0, ng31_1, bind_brB, bind_ite, bind_none', Option.bind_assoc]
theorem t31_2 {N : Nat} {cl : Cal} {R : Type} (K : KE R) (x0 : Int) (x1 : Int) : exec cl N c31_2 [(0, .v T161 x0), (1, .v T161 x1)] K = (g31_2 x0 x1 (fun y0 => K .ret [(4, .loc T166 .no y0)])) := by
  simp only [c31_2, exec_seq, seqK_normal, seqK_exit, seqK_ret, t31_0, t31_1, exec_ret]
  rfl

theorem rk31_0 (y0 : D165) : retK d31 .ret [(4, .loc T166 .no y0)] = some [.v T166 y0] := by kernel_rfl
def g31 {R : Type} (x0 : Int) (x1 : Int) (k : D165 → Option R) : Option R :=
(g31_2 x0 x1 (fun y0 => k y0))
theorem gen31 {N : Nat} {cl : Cal} (x0 : Int) (x1 : Int) : exec cl N c31 (params 0 [.v T161 x0, .v T161 x1]) (retK d31) = g31 x0 x1 (fun (r0 : D165) => some [.v T166 r0]) := by
  have e0 : params 0 [.v T161 x0, .v T161 x1] = [(0, .v T161 x0), (1, .v T161 x1)] := by kernel_rfl
  simp only [c31, e0, t31_2, rk31_0]
  rfl

def ctr31 (S : Int → Int → Option D166) : Ctr := { A := Int × Int × Unit, B := D165, f := 31, enc := fun a => [.v T161 a.1, .v T161 a.2.1], dec := (decC (decV T161) (decC (decV T161) dec0)), S := fun a => S a.1 a.2.1, ent := fun b => [.v T166 b], ok := (decV_cons (T := T161) (decV_cons (T := T161) (fun es b h => dec0_some h))) }
def S31 (N : Nat) (x0 : Int) (x1 : Int) : Option D166 := g31 x0 x1 (fun (r0 : D165) => some (r0))
theorem ng31 {R R2 : Type} (x0 : Int) (x1 : Int) (k : D165 → Option R) (h : R → Option R2) : (g31 x0 x1 k).bind h = g31 x0 x1 (fun (r0 : D165) => (k r0).bind h) := by
  simp only [g31, ng31_2]
-- anceps/weight.natural
def g30_0 {R : Type} (x0 : Int) (x1 : Int) (k0 : Int → Int → Option R) : Option R :=
k0 x0 x1
theorem ng30_0 {R R2 : Type} (x0 : Int) (x1 : Int) (k0 : Int → Int → Option R) (h : R → Option R2) : ((g30_0 x0 x1 k0)).bind h = (g30_0 x0 x1 (fun y0 y1 => (k0 y0 y1).bind h)) := by
  simp only [g30_0, bind_brB, bind_ite, bind_none', Option.bind_assoc]
theorem t30_0 {N : Nat} {cl : Cal} {R : Type} (K : KE R) (x0 : Int) (x1 : Int) : exec cl N c30_0 [(0, .v T161 x0), (1, .v T161 x1)] K = (g30_0 x0 x1 (fun y0 y1 => K .normal [(0, .v T161 y0), (1, .v T161 y1)])) := by
  kernel_rfl
def g30_1 {R : Type} (x0 : Int) (x1 : Int) (k0 : Int → Int → Option R) : Option R :=
k0 x1 x0
theorem ng30_1 {R R2 : Type} (x0 : Int) (x1 : Int) (k0 : Int → Int → Option R) (h : R → Option R2) : ((g30_1 x0 x1 k0)).bind h = (g30_1 x0 x1 (fun y0 y1 => (k0 y0 y1).bind h)) := by
  simp only [g30_1, bind_brB, bind_ite, bind_none', Option.bind_assoc]
theorem t30_1 {N : Nat} {cl : Cal} {R : Type} (K : KE R) (x0 : Int) (x1 : Int) : exec cl N c30_1 [(0, .v T161 x0), (1, .v T161 x1)] K = (g30_1 x0 x1 (fun y0 y1 => K .normal [(1, .v T161 y0), (5, .v T161 y1)])) := by
  kernel_rfl
def g30_2 {R : Type} (x0 : Int) (x1 : Int) (k0 : Int → Int → Bool → Option R) : Option R :=
k0 x0 x1 (x1 == (1 : Int))
theorem ng30_2 {R R2 : Type} (x0 : Int) (x1 : Int) (k0 : Int → Int → Bool → Option R) (h : R → Option R2) : ((g30_2 x0 x1 k0)).bind h = (g30_2 x0 x1 (fun y0 y1 y2 => (k0 y0 y1 y2).bind h)) := by
  simp only [g30_2, bind_brB, bind_ite, bind_none', Option.bind_assoc]
theorem t30_2 {N : Nat} {cl : Cal} {R : Type} (K : KE R) (x0 : Int) (x1 : Int) : exec cl N c30_2 [(1, .v T161 x0), (5, .v T161 x1)] K = (g30_2 x0 x1 (fun y0 y1 y2 => K .normal [(1, .v T161 y0), (5, .v T161 y1), (6, .v .bool y2)])) := by
  kernel_rfl
def g30_3 {R : Type} (x0 : Int) (x1 : Int) (x2 : Bool) (k0 : Int → Bool → Option R) : Option R :=
k0 x0 (x0 == (0 : Int))
theorem ng30_3 {R R2 : Type} (x0 : Int) (x1 : Int) (x2 : Bool) (k0 : Int → Bool → Option R) (h : R → Option R2) : ((g30_3 x0 x1 x2 k0)).bind h = (g30_3 x0 x1 x2 (fun y0 y1 => (k0 y0 y1).bind h)) := by
  simp only [g30_3, bind_brB, bind_ite, bind_none', Option.bind_assoc]
theorem t30_3 {N : Nat} {cl : Cal} {R : Type} (K : KE R) (x0 : Int) (x1 : Int) (x2 : Bool) : exec cl N c30_3 [(1, .v T161 x0), (5, .v T161 x1), (6, .v .bool x2)] K = (g30_3 x0 x1 x2 (fun y0 y1 => K .normal [(1, .v T161 y0), (9, .v .bool y1)])) := by
  kernel_rfl
def g30_4 {R : Type} (S32 : Int → Int → Option D166) (x0 : Int) (x1 : Bool) (k0 : D167 → Option R) : Option R :=
(S32 (1 : Int) (0 : Int)).bind fun r19 =>
k0 [r19]
theorem ng30_4 {R R2 : Type} (S32 : Int → Int → Option D166) (x0 : Int) (x1 : Bool) (k0 : D167 → Option R) (h : R → Option R2) : ((g30_4 S32 x0 x1 k0)).bind h = (g30_4 S32 x0 x1 (fun y0 => (k0 y0).bind h)) := by
  simp only [g30_4, bind_brB, bind_ite, bind_none', Option.bind_assoc]
theorem t30_4 {N : Nat} {cl : Cal} (S32 : Int → Int → Option D166) (h32 : (ctr32 S32).holds cl) {R : Type} (K : KE R) (x0 : Int) (x1 : Bool) : exec cl N c30_4 [(1, .v T161 x0), (9, .v .bool x1)] K = (g30_4 S32 x0 x1 (fun y0 => K .normal [(4, .own true 33 T166 .no y0)])) := by
  rw [← put_eq h32]
  kernel_rfl
theorem kp30_0 (x0 : D167) : keep [1, 4] [(4, .own true 33 T166 .no x0)] = [(1, .dead), (4, .own true 33 T166 .no x0)] := by kernel_rfl
theorem kp30_1 (x0 : Int) (x1 : Bool) : keep [1, 4] [(1, .v T161 x0), (9, .v .bool x1)] = [(1, .v T161 x0), (4, .dead)] := by kernel_rfl
theorem hb30_0 (x0 : Int) (x1 : Bool) : boolOf? (ent [(1, .v T161 x0), (9, .v .bool x1)] (.t 9)) = some x1 := by kernel_rfl
def g30_6 {R : Type} (S31 : Int → Int → Option D166) (S32 : Int → Int → Option D166) (x0 : Int) (k0 : D167 → Option R) : Option R :=
(S32 (1 : Int) (0 : Int)).bind fun r20 =>
(S31 (5 : Int) x0).bind fun r21 =>
k0 [r20, r21]
theorem ng30_6 {R R2 : Type} (S31 : Int → Int → Option D166) (S32 : Int → Int → Option D166) (x0 : Int) (k0 : D167 → Option R) (h : R → Option R2) : ((g30_6 S31 S32 x0 k0)).bind h = (g30_6 S31 S32 x0 (fun y0 => (k0 y0).bind h)) := by
  simp only [g30_6, bind_brB, bind_ite, bind_none', Option.bind_assoc]
theorem t30_6 {N : Nat} {cl : Cal} (S31 : Int → Int → Option D166) (S32 : Int → Int → Option D166) (h31 : (ctr31 S31).holds cl) (h32 : (ctr32 S32).holds cl) {R : Type} (K : KE R) (x0 : Int) : exec cl N c30_6 [(1, .v T161 x0), (4, .dead)] K = (g30_6 S31 S32 x0 (fun y0 => K .normal [(4, .own true 33 T166 .no y0)])) := by
  rw [← put_eq h31]
  rw [← put_eq h32]
  kernel_rfl
theorem kp30_2 (x0 : D167) : keep [4] [(1, .dead), (4, .own true 33 T166 .no x0)] = [(4, .own true 33 T166 .no x0)] := by kernel_rfl
theorem kp30_3 (x0 : D167) : keep [4] [(4, .own true 33 T166 .no x0)] = [(4, .own true 33 T166 .no x0)] := by kernel_rfl
def g30_7 {R : Type} (x0 : Int) (x1 : Int) (x2 : Bool) (k0 : Bool → Option R) : Option R :=
k0 (x1 == (2 : Int))
theorem ng30_7 {R R2 : Type} (x0 : Int) (x1 : Int) (x2 : Bool) (k0 : Bool → Option R) (h : R → Option R2) : ((g30_7 x0 x1 x2 k0)).bind h = (g30_7 x0 x1 x2 (fun y0 => (k0 y0).bind h)) := by
  simp only [g30_7, bind_brB, bind_ite, bind_none', Option.bind_assoc]
theorem t30_7 {N : Nat} {cl : Cal} {R : Type} (K : KE R) (x0 : Int) (x1 : Int) (x2 : Bool) : exec cl N c30_7 [(1, .v T161 x0), (5, .v T161 x1), (6, .v .bool x2)] K = (g30_7 x0 x1 x2 (fun y0 => K .normal [(16, .v .bool y0)])) := by
  kernel_rfl
def g30_8 {R : Type} (S31 : Int → Int → Option D166) (x0 : Bool) (k0 : D167 → Option R) : Option R :=
(S31 (2 : Int) (0 : Int)).bind fun r23 =>
k0 [r23]
theorem ng30_8 {R R2 : Type} (S31 : Int → Int → Option D166) (x0 : Bool) (k0 : D167 → Option R) (h : R → Option R2) : ((g30_8 S31 x0 k0)).bind h = (g30_8 S31 x0 (fun y0 => (k0 y0).bind h)) := by
  simp only [g30_8, bind_brB, bind_ite, bind_none', Option.bind_assoc]
theorem t30_8 {N : Nat} {cl : Cal} (S31 : Int → Int → Option D166) (h31 : (ctr31 S31).holds cl) {R : Type} (K : KE R) (x0 : Bool) : exec cl N c30_8 [(16, .v .bool x0)] K = (g30_8 S31 x0 (fun y0 => K .normal [(4, .own true 33 T166 .no y0)])) := by
  rw [← put_eq h31]
  kernel_rfl
theorem kp30_4 (x0 : Bool) : keep [4] [(16, .v .bool x0)] = [(4, .dead)] := by kernel_rfl
theorem hb30_1 (x0 : Bool) : boolOf? (ent [(16, .v .bool x0)] (.t 16)) = some x0 := by kernel_rfl
theorem kp30_5 : keep [4] [(4, .dead)] = [(4, .dead)] := by kernel_rfl
theorem hb30_2 (x0 : Int) (x1 : Int) (x2 : Bool) : boolOf? (ent [(1, .v T161 x0), (5, .v T161 x1), (6, .v .bool x2)] (.t 6)) = some x2 := by kernel_rfl
def g30_12 {R : Type} (S31 : Int → Int → Option D166) (S32 : Int → Int → Option D166) (k0 : D167 → Option R) : Option R :=
(S32 (3 : Int) (0 : Int)).bind fun r24 =>
(S31 (3 : Int) (0 : Int)).bind fun r25 =>
k0 [r24, r25]
theorem ng30_12 {R R2 : Type} (S31 : Int → Int → Option D166) (S32 : Int → Int → Option D166) (k0 : D167 → Option R) (h : R → Option R2) : ((g30_12 S31 S32 k0)).bind h = (g30_12 S31 S32 (fun y0 => (k0 y0).bind h)) := by
  simp only [g30_12, bind_brB, bind_ite, bind_none', Option.bind_assoc]
theorem t30_12 {N : Nat} {cl : Cal} (S31 : Int → Int → Option D166) (S32 : Int → Int → Option D166) (h31 : (ctr31 S31).holds cl) (h32 : (ctr32 S32).holds cl) {R : Type} (K : KE R) : exec cl N c30_12 [(4, .dead)] K = (g30_12 S31 S32 (fun y0 => K .normal [(4, .own true 33 T166 .no y0)])) := by
  rw [← put_eq h31]
  rw [← put_eq h32]
  kernel_rfl
def g30_13 {R : Type} (S31 : Int → Int → Option D166) (S32 : Int → Int → Option D166) (x0 : Int) (x1 : Int) (k0 : D167 → Option R) : Option R :=
(g30_0 x0 x1 (fun y0 y1 => (g30_1 y0 y1 (fun y0 y1 => (g30_2 y0 y1 (fun y0 y1 y2 => brB y2 (g30_3 y0 y1 y2 (fun y0 y1 => brB y1 (g30_4 S32 y0 y1 (fun y0 => ((fun y0 => (k0 y0)) y0))) ((fun y0 => (g30_6 S31 S32 y0 (fun y0 => ((fun y0 => (k0 y0)) y0)))) y0))) (g30_7 y0 y1 y2 (fun y0 => brB y0 (g30_8 S31 y0 (fun y0 => ((fun y0 => (k0 y0)) y0))) (g30_12 S31 S32 (fun y0 => (k0 y0)))))))))))
theorem ng30_13 {R R2 : Type} (S31 : Int → Int → Option D166) (S32 : Int → Int → Option D166) (x0 : Int) (x1 : Int) (k0 : D167 → Option R) (h : R → Option R2) : ((g30_13 S31 S32 x0 x1 k0)).bind h = (g30_13 S31 S32 x0 x1 (fun y0 => (k0 y0).bind h)) := by
  simp only [g30_13, ng30_0, ng30_1, ng30_12, ng30_2, ng30_3, ng30_4, ng30_6, ng30_7, ng30_8, bind_brB, bind_ite, bind_none', Option.bind_assoc]
theorem t30_13 {N : Nat} {cl : Cal} (S31 : Int → Int → Option D166) (S32 : Int → Int → Option D166) (h31 : (ctr31 S31).holds cl) (h32 : (ctr32 S32).holds cl) {R : Type} (K : KE R) (x0 : Int) (x1 : Int) : exec cl N c30_13 [(0, .v T161 x0), (1, .v T161 x1)] K = (g30_13 S31 S32 x0 x1 (fun y0 => K .ret [(4, .own true 33 T166 .no y0)])) := by
  simp only [c30_13, exec_seq, seqK_normal, seqK_exit, seqK_ret, t30_0, t30_1, c30_11, exec_out, exec_block, t30_2, c30_10, exec_cond', hb30_2, Option.bind_some, brB_true, brB_false, t30_3, c30_5, hb30_0, t30_4 S32 h32, exec_ret, exec_skip, kp30_0, kp30_1, t30_6 S31 S32 h31 h32, t30_7, c30_9, hb30_1, t30_8 S31 h31, kp30_3, kp30_4, kp30_2, kp30_5, blockK_normal, blockK_ret, blockK_eq, t30_12 S31 S32 h31 h32]
  rfl

theorem rk30_0 (y0 : D167) : retK d30 .ret [(4, .own true 33 T166 .no y0)] = some [.own true 33 T166 .no y0] := by kernel_rfl
def g30 {R : Type} (S31 : Int → Int → Option D166) (S32 : Int → Int → Option D166) (x0 : Int) (x1 : Int) (k : D167 → Option R) : Option R :=
(g30_13 S31 S32 x0 x1 (fun y0 => k y0))
theorem gen30 {N : Nat} {cl : Cal} (S31 : Int → Int → Option D166) (S32 : Int → Int → Option D166) (h31 : (ctr31 S31).holds cl) (h32 : (ctr32 S32).holds cl) (x0 : Int) (x1 : Int) : exec cl N c30 (params 0 [.v T161 x0, .v T161 x1]) (retK d30) = g30 S31 S32 x0 x1 (fun (r0 : D167) => some [.own true 33 T166 .no r0]) := by
  have e0 : params 0 [.v T161 x0, .v T161 x1] = [(0, .v T161 x0), (1, .v T161 x1)] := by kernel_rfl
  simp only [c30, e0, t30_13 S31 S32 h31 h32, rk30_0]
  rfl

def ctr30 (S : Int → Int → Option D168) : Ctr := { A := Int × Int × Unit, B := D167, f := 30, enc := fun a => [.v T161 a.1, .v T161 a.2.1], dec := (decC (decV T161) (decC (decV T161) dec0)), S := fun a => S a.1 a.2.1, ent := fun b => [.own true 33 T166 .no b], ok := (decV_cons (T := T161) (decV_cons (T := T161) (fun es b h => dec0_some h))) }
def S30 (N : Nat) (x0 : Int) (x1 : Int) : Option D168 := g30 (S31 N) (S32 N) x0 x1 (fun (r0 : D167) => some (r0))
theorem ng30 {R R2 : Type} (S31 : Int → Int → Option D166) (S32 : Int → Int → Option D166) (x0 : Int) (x1 : Int) (k : D167 → Option R) (h : R → Option R2) : (g30 S31 S32 x0 x1 k).bind h = g30 S31 S32 x0 x1 (fun (r0 : D167) => (k r0).bind h) := by
  simp only [g30, ng30_13]
-- anceps/weight.Weights
def g19_0 {R : Type} (x0 : D167) (k0 : D167 → Option R) : Option R :=
k0 x0
theorem ng19_0 {R R2 : Type} (x0 : D167) (k0 : D167 → Option R) (h : R → Option R2) : ((g19_0 x0 k0)).bind h = (g19_0 x0 (fun y0 => (k0 y0).bind h)) := by
  simp only [g19_0, bind_brB, bind_ite, bind_none', Option.bind_assoc]
theorem t19_0 {N : Nat} {cl : Cal} {R : Type} (K : KE R) (x0 : D167) : exec cl N c19_0 [(0, .v T167 x0)] K = (g19_0 x0 (fun y0 => K .normal [(0, .v T167 y0)])) := by
  kernel_rfl
def g19_1 {R : Type} (x0 : D167) (k0 : D167 → Int → Option R) : Option R :=
k0 x0 (0 : Int)
theorem ng19_1 {R R2 : Type} (x0 : D167) (k0 : D167 → Int → Option R) (h : R → Option R2) : ((g19_1 x0 k0)).bind h = (g19_1 x0 (fun y0 y1 => (k0 y0 y1).bind h)) := by
  simp only [g19_1, bind_brB, bind_ite, bind_none', Option.bind_assoc]
theorem t19_1 {N : Nat} {cl : Cal} {R : Type} (K : KE R) (x0 : D167) : exec cl N c19_1 [(0, .v T167 x0)] K = (g19_1 x0 (fun y0 y1 => K .normal [(0, .v T167 y0), (3, .v T161 y1)])) := by
  kernel_rfl
def g19_2 {R : Type} (x0 : D167) (x1 : Int) (k0 : Int → D167 → Int → Int → Option R) : Option R :=
k0 x1 x0 (x0.length : Int) (0 : Int)
theorem ng19_2 {R R2 : Type} (x0 : D167) (x1 : Int) (k0 : Int → D167 → Int → Int → Option R) (h : R → Option R2) : ((g19_2 x0 x1 k0)).bind h = (g19_2 x0 x1 (fun y0 y1 y2 y3 => (k0 y0 y1 y2 y3).bind h)) := by
  simp only [g19_2, bind_brB, bind_ite, bind_none', Option.bind_assoc]
theorem t19_2 {N : Nat} {cl : Cal} {R : Type} (K : KE R) (x0 : D167) (x1 : Int) : exec cl N c19_2 [(0, .v T167 x0), (3, .v T161 x1)] K = (g19_2 x0 x1 (fun y0 y1 y2 y3 => K .normal [(3, .v T161 y0), (6, .v T167 y1), (7, .v T161 y2), (8, .v T161 y3)])) := by
  kernel_rfl
theorem kp19_0 (x0 : Int) (x1 : D167) (x2 : Int) (x3 : Int) : keep [3, 6, 7, 8] [(3, .v T161 x0), (6, .v T167 x1), (7, .v T161 x2), (8, .v T161 x3)] = [(3, .v T161 x0), (6, .v T167 x1), (7, .v T161 x2), (8, .v T161 x3)] := by kernel_rfl
def g19_3 {R : Type} (x0 : Int) (x1 : D167) (x2 : Int) (x3 : Int) (k0 : Int → D167 → Int → Int → Bool → Option R) : Option R :=
k0 x0 x1 x2 x3 (decide (x3 < x2))
theorem ng19_3 {R R2 : Type} (x0 : Int) (x1 : D167) (x2 : Int) (x3 : Int) (k0 : Int → D167 → Int → Int → Bool → Option R) (h : R → Option R2) : ((g19_3 x0 x1 x2 x3 k0)).bind h = (g19_3 x0 x1 x2 x3 (fun y0 y1 y2 y3 y4 => (k0 y0 y1 y2 y3 y4).bind h)) := by
  simp only [g19_3, bind_brB, bind_ite, bind_none', Option.bind_assoc]
theorem t19_3 {N : Nat} {cl : Cal} {R : Type} (K : KE R) (x0 : Int) (x1 : D167) (x2 : Int) (x3 : Int) : exec cl N c19_3 [(3, .v T161 x0), (6, .v T167 x1), (7, .v T161 x2), (8, .v T161 x3)] K = (g19_3 x0 x1 x2 x3 (fun y0 y1 y2 y3 y4 => K .normal [(3, .v T161 y0), (6, .v T167 y1), (7, .v T161 y2), (8, .v T161 y3), (9, .v .bool y4)])) := by
  kernel_rfl
theorem kp19_1 (x0 : Int) (x1 : D167) (x2 : Int) (x3 : Int) (x4 : Bool) : keep [3, 6, 7, 8] [(3, .v T161 x0), (6, .v T167 x1), (7, .v T161 x2), (8, .v T161 x3), (9, .v .bool x4)] = [(3, .v T161 x0), (6, .v T167 x1), (7, .v T161 x2), (8, .v T161 x3)] := by kernel_rfl
theorem hb19_0 (x0 : Int) (x1 : D167) (x2 : Int) (x3 : Int) (x4 : Bool) : boolOf? (ent [(3, .v T161 x0), (6, .v T167 x1), (7, .v T161 x2), (8, .v T161 x3), (9, .v .bool x4)] (.t 9)) = some x4 := by kernel_rfl
def g19_5 {R : Type} (x0 : Int) (x1 : D167) (x2 : Int) (x3 : Int) (k0 : Int → D165 → D167 → Int → Int → Option R) : Option R :=
if 0 ≤ x3 ∧ x3 < (x1.length : Int) then
k0 x0 (x1.getD x3.toNat ((0 : Int), ((0 : Int), ((0 : Int), ())))) x1 x2 x3
else none
theorem ng19_5 {R R2 : Type} (x0 : Int) (x1 : D167) (x2 : Int) (x3 : Int) (k0 : Int → D165 → D167 → Int → Int → Option R) (h : R → Option R2) : ((g19_5 x0 x1 x2 x3 k0)).bind h = (g19_5 x0 x1 x2 x3 (fun y0 y1 y2 y3 y4 => (k0 y0 y1 y2 y3 y4).bind h)) := by
  simp only [g19_5, bind_brB, bind_ite, bind_none', Option.bind_assoc]
theorem t19_5 {N : Nat} {cl : Cal} {R : Type} (K : KE R) (x0 : Int) (x1 : D167) (x2 : Int) (x3 : Int) : exec cl N c19_5 [(3, .v T161 x0), (6, .v T167 x1), (7, .v T161 x2), (8, .v T161 x3)] K = (g19_5 x0 x1 x2 x3 (fun y0 y1 y2 y3 y4 => K .normal [(3, .v T161 y0), (5, .loc T166 .no y1), (6, .v T167 y2), (7, .v T161 y3), (8, .v T161 y4)])) := by
  kernel_rfl
def g19_6 {R : Type} (x0 : Int) (x1 : D165) (x2 : D167) (x3 : Int) (x4 : Int) (k0 : Int → D165 → D167 → Int → Int → Bool → Option R) : Option R :=
brB (x1.1 == (1 : Int)) (k0 x0 x1 x2 x3 x4 true) (k0 x0 x1 x2 x3 x4 (x1.1 == (2 : Int)))
theorem ng19_6 {R R2 : Type} (x0 : Int) (x1 : D165) (x2 : D167) (x3 : Int) (x4 : Int) (k0 : Int → D165 → D167 → Int → Int → Bool → Option R) (h : R → Option R2) : ((g19_6 x0 x1 x2 x3 x4 k0)).bind h = (g19_6 x0 x1 x2 x3 x4 (fun y0 y1 y2 y3 y4 y5 => (k0 y0 y1 y2 y3 y4 y5).bind h)) := by
  simp only [g19_6, bind_brB, bind_ite, bind_none', Option.bind_assoc]
theorem t19_6 {N : Nat} {cl : Cal} {R : Type} (K : KE R) (x0 : Int) (x1 : D165) (x2 : D167) (x3 : Int) (x4 : Int) : exec cl N c19_6 [(3, .v T161 x0), (5, .loc T166 .no x1), (6, .v T167 x2), (7, .v T161 x3), (8, .v T161 x4)] K = (g19_6 x0 x1 x2 x3 x4 (fun y0 y1 y2 y3 y4 y5 => K .normal [(3, .v T161 y0), (5, .loc T166 .no y1), (6, .v T167 y2), (7, .v T161 y3), (8, .v T161 y4), (19, .v .bool y5)])) := by
  kernel_rfl
def g19_7 {R : Type} (x0 : Int) (x1 : D165) (x2 : D167) (x3 : Int) (x4 : Int) (x5 : Bool) (k0 : Int → D167 → Int → Int → Option R) : Option R :=
k0 (Go.bits .or IntKind.i64 x0 x1.1) x2 x3 x4
theorem ng19_7 {R R2 : Type} (x0 : Int) (x1 : D165) (x2 : D167) (x3 : Int) (x4 : Int) (x5 : Bool) (k0 : Int → D167 → Int → Int → Option R) (h : R → Option R2) : ((g19_7 x0 x1 x2 x3 x4 x5 k0)).bind h = (g19_7 x0 x1 x2 x3 x4 x5 (fun y0 y1 y2 y3 => (k0 y0 y1 y2 y3).bind h)) := by
  simp only [g19_7, bind_brB, bind_ite, bind_none', Option.bind_assoc]
theorem t19_7 {N : Nat} {cl : Cal} {R : Type} (K : KE R) (x0 : Int) (x1 : D165) (x2 : D167) (x3 : Int) (x4 : Int) (x5 : Bool) : exec cl N c19_7 [(3, .v T161 x0), (5, .loc T166 .no x1), (6, .v T167 x2), (7, .v T161 x3), (8, .v T161 x4), (19, .v .bool x5)] K = (g19_7 x0 x1 x2 x3 x4 x5 (fun y0 y1 y2 y3 => K .normal [(3, .v T161 y0), (6, .v T167 y1), (7, .v T161 y2), (8, .v T161 y3)])) := by
  kernel_rfl
theorem kp19_2 (x0 : Int) (x1 : D165) (x2 : D167) (x3 : Int) (x4 : Int) (x5 : Bool) : keep [3, 6, 7, 8] [(3, .v T161 x0), (5, .loc T166 .no x1), (6, .v T167 x2), (7, .v T161 x3), (8, .v T161 x4), (19, .v .bool x5)] = [(3, .v T161 x0), (6, .v T167 x2), (7, .v T161 x3), (8, .v T161 x4)] := by kernel_rfl
theorem hb19_1 (x0 : Int) (x1 : D165) (x2 : D167) (x3 : Int) (x4 : Int) (x5 : Bool) : boolOf? (ent [(3, .v T161 x0), (5, .loc T166 .no x1), (6, .v T167 x2), (7, .v T161 x3), (8, .v T161 x4), (19, .v .bool x5)] (.t 19)) = some x5 := by kernel_rfl
def g19_9 {R : Type} (x0 : Int) (x1 : D167) (x2 : Int) (x3 : Int) (k0 : Int → D167 → Int → Int → Option R) : Option R :=
(g19_5 x0 x1 x2 x3 (fun y0 y1 y2 y3 y4 => (g19_6 y0 y1 y2 y3 y4 (fun y0 y1 y2 y3 y4 y5 => brB y5 (g19_7 y0 y1 y2 y3 y4 y5 (fun y0 y1 y2 y3 => (k0 y0 y1 y2 y3))) (k0 y0 y2 y3 y4)))))
theorem ng19_9 {R R2 : Type} (x0 : Int) (x1 : D167) (x2 : Int) (x3 : Int) (k0 : Int → D167 → Int → Int → Option R) (h : R → Option R2) : ((g19_9 x0 x1 x2 x3 k0)).bind h = (g19_9 x0 x1 x2 x3 (fun y0 y1 y2 y3 => (k0 y0 y1 y2 y3).bind h)) := by
  simp only [g19_9, ng19_5, ng19_6, ng19_7, bind_brB, bind_ite, bind_none', Option.bind_assoc]
theorem t19_9 {N : Nat} {cl : Cal} {R : Type} (K : KE R) (x0 : Int) (x1 : D167) (x2 : Int) (x3 : Int) : exec cl N c19_9 [(3, .v T161 x0), (6, .v T167 x1), (7, .v T161 x2), (8, .v T161 x3)] K = (g19_9 x0 x1 x2 x3 (fun y0 y1 y2 y3 => K .normal [(3, .v T161 y0), (6, .v T167 y1), (7, .v T161 y2), (8, .v T161 y3)])) := by
  simp only [c19_9, exec_out, exec_block, exec_seq, seqK_normal, seqK_exit, seqK_ret, t19_5, t19_6, c19_8, exec_cond', hb19_1, Option.bind_some, brB_true, brB_false, t19_7, exec_skip, kp19_0, kp19_2, blockK_normal, blockK_ret, blockK_eq]
  rfl

def g19_10 {R : Type} (x0 : Int) (x1 : D167) (x2 : Int) (x3 : Int) (k0 : Int → D167 → Int → Int → Option R) : Option R :=
k0 x0 x1 x2 (IntKind.i64.wrap (x3 + (1 : Int)))
theorem ng19_10 {R R2 : Type} (x0 : Int) (x1 : D167) (x2 : Int) (x3 : Int) (k0 : Int → D167 → Int → Int → Option R) (h : R → Option R2) : ((g19_10 x0 x1 x2 x3 k0)).bind h = (g19_10 x0 x1 x2 x3 (fun y0 y1 y2 y3 => (k0 y0 y1 y2 y3).bind h)) := by
  simp only [g19_10, bind_brB, bind_ite, bind_none', Option.bind_assoc]
theorem t19_10 {N : Nat} {cl : Cal} {R : Type} (K : KE R) (x0 : Int) (x1 : D167) (x2 : Int) (x3 : Int) : exec cl N c19_10 [(3, .v T161 x0), (6, .v T167 x1), (7, .v T161 x2), (8, .v T161 x3)] K = (g19_10 x0 x1 x2 x3 (fun y0 y1 y2 y3 => K .normal [(3, .v T161 y0), (6, .v T167 y1), (7, .v T161 y2), (8, .v T161 y3)])) := by
  kernel_rfl
def g19_11 {R : Type} (x0 : Int) (x1 : D167) (x2 : Int) (x3 : Int) (k0 : Int → D167 → Int → Int → Option R) (k1 : Int → D167 → Int → Int → Option R) : Option R :=
(g19_3 x0 x1 x2 x3 (fun y0 y1 y2 y3 y4 => brB y4 ((fun y0 y1 y2 y3 => (g19_9 y0 y1 y2 y3 (fun y0 y1 y2 y3 => (g19_10 y0 y1 y2 y3 k0)))) y0 y1 y2 y3) (k1 y0 y1 y2 y3)))
theorem ng19_11 {R R2 : Type} (x0 : Int) (x1 : D167) (x2 : Int) (x3 : Int) (k0 : Int → D167 → Int → Int → Option R) (k1 : Int → D167 → Int → Int → Option R) (h : R → Option R2) : ((g19_11 x0 x1 x2 x3 k0 k1)).bind h = (g19_11 x0 x1 x2 x3 (fun y0 y1 y2 y3 => (k0 y0 y1 y2 y3).bind h) (fun y0 y1 y2 y3 => (k1 y0 y1 y2 y3).bind h)) := by
  simp only [g19_11, ng19_10, ng19_3, ng19_9, bind_brB, bind_ite, bind_none', Option.bind_assoc]
theorem t19_11 {N : Nat} {cl : Cal} {R : Type} (K : KE R) (x0 : Int) (x1 : D167) (x2 : Int) (x3 : Int) : exec cl N c19_11 [(3, .v T161 x0), (6, .v T167 x1), (7, .v T161 x2), (8, .v T161 x3)] K = (g19_11 x0 x1 x2 x3 (fun y0 y1 y2 y3 => K .normal [(3, .v T161 y0), (6, .v T167 y1), (7, .v T161 y2), (8, .v T161 y3)]) (fun y0 y1 y2 y3 => K (.exit 0) [(3, .v T161 y0), (6, .v T167 y1), (7, .v T161 y2), (8, .v T161 y3)])) := by
  simp only [c19_11, exec_seq, seqK_normal, seqK_exit, seqK_ret, t19_3, c19_4, exec_out, exec_cond', hb19_0, Option.bind_some, brB_true, brB_false, exec_skip, exec_exit, kp19_1, t19_9, t19_10]
  rfl

def l19_12 {R : Type} (k0 : Int → D167 → Int → Int → Option R) : Nat → Int → D167 → Int → Int → Option R
  | 0, _, _, _, _ => none
  | m + 1, x0, x1, x2, x3 => (g19_11 x0 x1 x2 x3 (fun y0 y1 y2 y3 => l19_12 k0 m y0 y1 y2 y3) k0)
theorem nl19_12 {R R2 : Type} (k0 : Int → D167 → Int → Int → Option R) (h : R → Option R2) : ∀ (m : Nat) (x0 : Int) (x1 : D167) (x2 : Int) (x3 : Int), (l19_12 k0 m x0 x1 x2 x3).bind h = l19_12 (fun y0 y1 y2 y3 => (k0 y0 y1 y2 y3).bind h) m x0 x1 x2 x3 := by
  intro m
  induction m with
  | zero => intros; rfl
  | succ m ih =>
    intro x0 x1 x2 x3
    simp only [l19_12, ng19_11, bind_brB, bind_ite, bind_none', ih]
theorem lt19_12 {N : Nat} {cl : Cal} {R : Type} (K : KE R) : ∀ (m : Nat) (x0 : Int) (x1 : D167) (x2 : Int) (x3 : Int), iter [3, 6, 7, 8] (fun env K => exec cl N c19_11 env K) K m [(3, .v T161 x0), (6, .v T167 x1), (7, .v T161 x2), (8, .v T161 x3)] = l19_12 (fun y0 y1 y2 y3 => K (.exit 0) [(3, .v T161 y0), (6, .v T167 y1), (7, .v T161 y2), (8, .v T161 y3)]) m x0 x1 x2 x3 := by
  intro m
  induction m with
  | zero => intros; rfl
  | succ m ih =>
    intro x0 x1 x2 x3
    simp only [iter_succ, t19_11, loopK_normal, loopK_exit, loopK_ret, kp19_0, ih]
    rfl

theorem kp19_3 (x0 : Int) (x1 : D167) (x2 : Int) (x3 : Int) : keep [3] [(3, .v T161 x0), (6, .v T167 x1), (7, .v T161 x2), (8, .v T161 x3)] = [(3, .v T161 x0)] := by kernel_rfl
def g19_12 {R : Type} (N : Nat) (x0 : Int) (x1 : D167) (x2 : Int) (x3 : Int) (k0 : Int → Option R) : Option R :=
l19_12 (fun y0 y1 y2 y3 => k0 y0) N x0 x1 x2 x3
theorem ng19_12 {R R2 : Type} (N : Nat) (x0 : Int) (x1 : D167) (x2 : Int) (x3 : Int) (k0 : Int → Option R) (h : R → Option R2) : ((g19_12 N x0 x1 x2 x3 k0)).bind h = (g19_12 N x0 x1 x2 x3 (fun y0 => (k0 y0).bind h)) := by
  simp only [g19_12, nl19_12, bind_brB, bind_ite, bind_none', Option.bind_assoc]
theorem t19_12 {N : Nat} {cl : Cal} {R : Type} (K : KE R) (x0 : Int) (x1 : D167) (x2 : Int) (x3 : Int) : exec cl N c19_12 [(3, .v T161 x0), (6, .v T167 x1), (7, .v T161 x2), (8, .v T161 x3)] K = (g19_12 N x0 x1 x2 x3 (fun y0 => K (.exit 0) [(3, .v T161 y0)])) := by
  simp only [c19_12, exec_out, exec_loop, kp19_0, lt19_12, kp19_3]
  rfl

theorem kp19_4 (x0 : Int) : keep [3] [(3, .v T161 x0)] = [(3, .v T161 x0)] := by kernel_rfl
def g19_14 {R : Type} (x0 : Int) (k0 : Int → Option R) : Option R :=
k0 x0
theorem ng19_14 {R R2 : Type} (x0 : Int) (k0 : Int → Option R) (h : R → Option R2) : ((g19_14 x0 k0)).bind h = (g19_14 x0 (fun y0 => (k0 y0).bind h)) := by
  simp only [g19_14, bind_brB, bind_ite, bind_none', Option.bind_assoc]
theorem t19_14 {N : Nat} {cl : Cal} {R : Type} (K : KE R) (x0 : Int) : exec cl N c19_14 [(3, .v T161 x0)] K = (g19_14 x0 (fun y0 => K .normal [(2, .v T161 y0)])) := by
  kernel_rfl
def g19_15 {R : Type} (N : Nat) (x0 : D167) (k0 : Int → Option R) : Option R :=
(g19_0 x0 (fun y0 => (g19_1 y0 (fun y0 y1 => (g19_2 y0 y1 (fun y0 y1 y2 y3 => (g19_12 N y0 y1 y2 y3 (fun y0 => ((fun y0 => (g19_14 y0 (fun y0 => (k0 y0)))) y0)))))))))
theorem ng19_15 {R R2 : Type} (N : Nat) (x0 : D167) (k0 : Int → Option R) (h : R → Option R2) : ((g19_15 N x0 k0)).bind h = (g19_15 N x0 (fun y0 => (k0 y0).bind h)) := by
  simp only [g19_15, ng19_0, ng19_1, ng19_12, ng19_14, ng19_2, bind_brB, bind_ite, bind_none', Option.bind_assoc]
theorem t19_15 {N : Nat} {cl : Cal} {R : Type} (K : KE R) (x0 : D167) : exec cl N c19_15 [(0, .v T167 x0)] K = (g19_15 N x0 (fun y0 => K .ret [(2, .v T161 y0)])) := by
  simp only [c19_15, exec_seq, seqK_normal, seqK_exit, seqK_ret, t19_0, t19_1, t19_2, c19_13, exec_out, exec_block, t19_12, blockK_normal, blockK_ret, blockK_eq, kp19_4, t19_14, exec_ret]
  rfl

theorem rk19_0 (y0 : Int) : retK d19 .ret [(2, .v T161 y0)] = some [.v T161 y0] := by kernel_rfl
def g19 {R : Type} (N : Nat) (x0 : D167) (k : Int → Option R) : Option R :=
(g19_15 N x0 (fun y0 => k y0))
theorem gen19 {N : Nat} {cl : Cal} (x0 : D167) : exec cl N c19 (params 0 [.v T167 x0]) (retK d19) = g19 N x0 (fun (r0 : Int) => some [.v T161 r0]) := by
  have e0 : params 0 [.v T167 x0] = [(0, .v T167 x0)] := by kernel_rfl
  simp only [c19, e0, t19_15, rk19_0]
  rfl

def ctr19 (S : D167 → Option (Int)) : Ctr := { A := D167 × Unit, B := Int, f := 19, enc := fun a => [.v T167 a.1], dec := (decC (decV T167) dec0), S := fun a => S a.1, ent := fun b => [.v T161 b], ok := (decV_cons (T := T167) (fun es b h => dec0_some h)) }
def S19 (N : Nat) (x0 : D167) : Option (Int) := g19 N x0 (fun (r0 : Int) => some (r0))
theorem ng19 {R R2 : Type} (N : Nat) (x0 : D167) (k : Int → Option R) (h : R → Option R2) : (g19 N x0 k).bind h = g19 N x0 (fun (r0 : Int) => (k r0).bind h) := by
  simp only [g19, ng19_15]
-- anceps/weight.Options
def g12_0 {R : Type} (x0 : Int) (x1 : Int) (k0 : Int → Int → Option R) : Option R :=
k0 x0 x1
theorem ng12_0 {R R2 : Type} (x0 : Int) (x1 : Int) (k0 : Int → Int → Option R) (h : R → Option R2) : ((g12_0 x0 x1 k0)).bind h = (g12_0 x0 x1 (fun y0 y1 => (k0 y0 y1).bind h)) := by
  simp only [g12_0, bind_brB, bind_ite, bind_none', Option.bind_assoc]
theorem t12_0 {N : Nat} {cl : Cal} {R : Type} (K : KE R) (x0 : Int) (x1 : Int) : exec cl N c12_0 [(0, .v T161 x0), (1, .v T161 x1)] K = (g12_0 x0 x1 (fun y0 y1 => K .normal [(0, .v T161 y0), (1, .v T161 y1)])) := by
  kernel_rfl
def g12_1 {R : Type} (x0 : Int) (x1 : Int) (k0 : Int → Int → Bool → Option R) : Option R :=
brB (decide (x0 < (1 : Int))) (k0 x0 x1 true) (k0 x0 x1 (decide (x0 > (3 : Int))))
theorem ng12_1 {R R2 : Type} (x0 : Int) (x1 : Int) (k0 : Int → Int → Bool → Option R) (h : R → Option R2) : ((g12_1 x0 x1 k0)).bind h = (g12_1 x0 x1 (fun y0 y1 y2 => (k0 y0 y1 y2).bind h)) := by
  simp only [g12_1, bind_brB, bind_ite, bind_none', Option.bind_assoc]
theorem t12_1 {N : Nat} {cl : Cal} {R : Type} (K : KE R) (x0 : Int) (x1 : Int) : exec cl N c12_1 [(0, .v T161 x0), (1, .v T161 x1)] K = (g12_1 x0 x1 (fun y0 y1 y2 => K .normal [(0, .v T161 y0), (1, .v T161 y1), (13, .v .bool y2)])) := by
  kernel_rfl
def g12_2 {R : Type} (x0 : Int) (x1 : Int) (x2 : Bool) (k0 : D167 → Int → Option R) : Option R :=
k0 [] (6 : Int)
theorem ng12_2 {R R2 : Type} (x0 : Int) (x1 : Int) (x2 : Bool) (k0 : D167 → Int → Option R) (h : R → Option R2) : ((g12_2 x0 x1 x2 k0)).bind h = (g12_2 x0 x1 x2 (fun y0 y1 => (k0 y0 y1).bind h)) := by
  simp only [g12_2, bind_brB, bind_ite, bind_none', Option.bind_assoc]
theorem t12_2 {N : Nat} {cl : Cal} {R : Type} (K : KE R) (x0 : Int) (x1 : Int) (x2 : Bool) : exec cl N c12_2 [(0, .v T161 x0), (1, .v T161 x1), (13, .v .bool x2)] K = (g12_2 x0 x1 x2 (fun y0 y1 => K .normal [(4, .own true 33 T166 .no y0), (5, .v T161 y1)])) := by
  kernel_rfl
theorem kp12_0 (x0 : D167) (x1 : Int) : keep [0, 1, 4, 5] [(4, .own true 33 T166 .no x0), (5, .v T161 x1)] = [(0, .dead), (1, .dead), (4, .own true 33 T166 .no x0), (5, .v T161 x1)] := by kernel_rfl
theorem kp12_1 (x0 : Int) (x1 : Int) (x2 : Bool) : keep [0, 1, 4, 5] [(0, .v T161 x0), (1, .v T161 x1), (13, .v .bool x2)] = [(0, .v T161 x0), (1, .v T161 x1), (4, .dead), (5, .dead)] := by kernel_rfl
theorem hb12_0 (x0 : Int) (x1 : Int) (x2 : Bool) : boolOf? (ent [(0, .v T161 x0), (1, .v T161 x1), (13, .v .bool x2)] (.t 13)) = some x2 := by kernel_rfl
def g12_4 {R : Type} (x0 : Int) (x1 : Int) (k0 : Int → Int → Option R) : Option R :=
k0 x0 x1
theorem ng12_4 {R R2 : Type} (x0 : Int) (x1 : Int) (k0 : Int → Int → Option R) (h : R → Option R2) : ((g12_4 x0 x1 k0)).bind h = (g12_4 x0 x1 (fun y0 y1 => (k0 y0 y1).bind h)) := by
  simp only [g12_4, bind_brB, bind_ite, bind_none', Option.bind_assoc]
theorem t12_4 {N : Nat} {cl : Cal} {R : Type} (K : KE R) (x0 : Int) (x1 : Int) : exec cl N c12_4 [(0, .v T161 x0), (1, .v T161 x1), (4, .dead), (5, .dead)] K = (g12_4 x0 x1 (fun y0 y1 => K .normal [(0, .v T161 y0), (1, .v T161 y1)])) := by
  kernel_rfl
def g12_5 {R : Type} (x0 : Int) (x1 : Int) (k0 : Int → Int → Int → Option R) : Option R :=
k0 x0 x1 x1
theorem ng12_5 {R R2 : Type} (x0 : Int) (x1 : Int) (k0 : Int → Int → Int → Option R) (h : R → Option R2) : ((g12_5 x0 x1 k0)).bind h = (g12_5 x0 x1 (fun y0 y1 y2 => (k0 y0 y1 y2).bind h)) := by
  simp only [g12_5, bind_brB, bind_ite, bind_none', Option.bind_assoc]
theorem t12_5 {N : Nat} {cl : Cal} {R : Type} (K : KE R) (x0 : Int) (x1 : Int) : exec cl N c12_5 [(0, .v T161 x0), (1, .v T161 x1)] K = (g12_5 x0 x1 (fun y0 y1 y2 => K .normal [(0, .v T161 y0), (1, .v T161 y1), (14, .v T161 y2)])) := by
  kernel_rfl
def g12_6 {R : Type} (x0 : Int) (x1 : Int) (x2 : Int) (k0 : Int → Int → Int → Bool → Option R) : Option R :=
k0 x0 x1 x2 (x2 == (1 : Int))
theorem ng12_6 {R R2 : Type} (x0 : Int) (x1 : Int) (x2 : Int) (k0 : Int → Int → Int → Bool → Option R) (h : R → Option R2) : ((g12_6 x0 x1 x2 k0)).bind h = (g12_6 x0 x1 x2 (fun y0 y1 y2 y3 => (k0 y0 y1 y2 y3).bind h)) := by
  simp only [g12_6, bind_brB, bind_ite, bind_none', Option.bind_assoc]
theorem t12_6 {N : Nat} {cl : Cal} {R : Type} (K : KE R) (x0 : Int) (x1 : Int) (x2 : Int) : exec cl N c12_6 [(0, .v T161 x0), (1, .v T161 x1), (14, .v T161 x2)] K = (g12_6 x0 x1 x2 (fun y0 y1 y2 y3 => K .normal [(0, .v T161 y0), (1, .v T161 y1), (14, .v T161 y2), (15, .v .bool y3)])) := by
  kernel_rfl
def g12_7 {R : Type} (S30 : Int → Int → Option D168) (x0 : Int) (x1 : Int) (x2 : Int) (x3 : Bool) (k0 : Int → D167 → Option R) : Option R :=
(S30 x0 (0 : Int)).bind fun r54 =>
k0 x1 r54
theorem ng12_7 {R R2 : Type} (S30 : Int → Int → Option D168) (x0 : Int) (x1 : Int) (x2 : Int) (x3 : Bool) (k0 : Int → D167 → Option R) (h : R → Option R2) : ((g12_7 S30 x0 x1 x2 x3 k0)).bind h = (g12_7 S30 x0 x1 x2 x3 (fun y0 y1 => (k0 y0 y1).bind h)) := by
  simp only [g12_7, bind_brB, bind_ite, bind_none', Option.bind_assoc]
theorem t12_7 {N : Nat} {cl : Cal} (S30 : Int → Int → Option D168) (h30 : (ctr30 S30).holds cl) {R : Type} (K : KE R) (x0 : Int) (x1 : Int) (x2 : Int) (x3 : Bool) : exec cl N c12_7 [(0, .v T161 x0), (1, .v T161 x1), (14, .v T161 x2), (15, .v .bool x3)] K = (g12_7 S30 x0 x1 x2 x3 (fun y0 y1 => K .normal [(1, .v T161 y0), (6, .own true 33 T166 .no y1)])) := by
  rw [← put_eq h30]
  kernel_rfl
theorem kp12_2 (x0 : Int) (x1 : D167) : keep [1, 4, 5, 6] [(1, .v T161 x0), (6, .own true 33 T166 .no x1)] = [(1, .v T161 x0), (4, .dead), (5, .dead), (6, .own true 33 T166 .no x1)] := by kernel_rfl
def g12_8 {R : Type} (x0 : Int) (x1 : Int) (x2 : Int) (x3 : Bool) (k0 : Int → Int → Int → Bool → Option R) : Option R :=
k0 x0 x1 x2 (x2 == (2 : Int))
theorem ng12_8 {R R2 : Type} (x0 : Int) (x1 : Int) (x2 : Int) (x3 : Bool) (k0 : Int → Int → Int → Bool → Option R) (h : R → Option R2) : ((g12_8 x0 x1 x2 x3 k0)).bind h = (g12_8 x0 x1 x2 x3 (fun y0 y1 y2 y3 => (k0 y0 y1 y2 y3).bind h)) := by
  simp only [g12_8, bind_brB, bind_ite, bind_none', Option.bind_assoc]
theorem t12_8 {N : Nat} {cl : Cal} {R : Type} (K : KE R) (x0 : Int) (x1 : Int) (x2 : Int) (x3 : Bool) : exec cl N c12_8 [(0, .v T161 x0), (1, .v T161 x1), (14, .v T161 x2), (15, .v .bool x3)] K = (g12_8 x0 x1 x2 x3 (fun y0 y1 y2 y3 => K .normal [(0, .v T161 y0), (1, .v T161 y1), (14, .v T161 y2), (19, .v .bool y3)])) := by
  kernel_rfl
def g12_9 {R : Type} (S30 : Int → Int → Option D168) (x0 : Int) (x1 : Int) (x2 : Int) (x3 : Bool) (k0 : Int → D167 → Option R) : Option R :=
(S30 x0 (1 : Int)).bind fun r56 =>
k0 x1 r56
theorem ng12_9 {R R2 : Type} (S30 : Int → Int → Option D168) (x0 : Int) (x1 : Int) (x2 : Int) (x3 : Bool) (k0 : Int → D167 → Option R) (h : R → Option R2) : ((g12_9 S30 x0 x1 x2 x3 k0)).bind h = (g12_9 S30 x0 x1 x2 x3 (fun y0 y1 => (k0 y0 y1).bind h)) := by
  simp only [g12_9, bind_brB, bind_ite, bind_none', Option.bind_assoc]
theorem t12_9 {N : Nat} {cl : Cal} (S30 : Int → Int → Option D168) (h30 : (ctr30 S30).holds cl) {R : Type} (K : KE R) (x0 : Int) (x1 : Int) (x2 : Int) (x3 : Bool) : exec cl N c12_9 [(0, .v T161 x0), (1, .v T161 x1), (14, .v T161 x2), (19, .v .bool x3)] K = (g12_9 S30 x0 x1 x2 x3 (fun y0 y1 => K .normal [(1, .v T161 y0), (6, .own true 33 T166 .no y1)])) := by
  rw [← put_eq h30]
  kernel_rfl
def g12_10 {R : Type} (x0 : Int) (x1 : Int) (x2 : Int) (x3 : Bool) (k0 : Int → Int → Int → Bool → Option R) : Option R :=
k0 x0 x1 x2 (x2 == (3 : Int))
theorem ng12_10 {R R2 : Type} (x0 : Int) (x1 : Int) (x2 : Int) (x3 : Bool) (k0 : Int → Int → Int → Bool → Option R) (h : R → Option R2) : ((g12_10 x0 x1 x2 x3 k0)).bind h = (g12_10 x0 x1 x2 x3 (fun y0 y1 y2 y3 => (k0 y0 y1 y2 y3).bind h)) := by
  simp only [g12_10, bind_brB, bind_ite, bind_none', Option.bind_assoc]
theorem t12_10 {N : Nat} {cl : Cal} {R : Type} (K : KE R) (x0 : Int) (x1 : Int) (x2 : Int) (x3 : Bool) : exec cl N c12_10 [(0, .v T161 x0), (1, .v T161 x1), (14, .v T161 x2), (19, .v .bool x3)] K = (g12_10 x0 x1 x2 x3 (fun y0 y1 y2 y3 => K .normal [(0, .v T161 y0), (1, .v T161 y1), (14, .v T161 y2), (23, .v .bool y3)])) := by
  kernel_rfl
def g12_11 {R : Type} (S30 : Int → Int → Option D168) (x0 : Int) (x1 : Int) (x2 : Int) (x3 : Bool) (k0 : Int → D167 → Option R) : Option R :=
(S30 x0 (2 : Int)).bind fun r58 =>
k0 x1 r58
theorem ng12_11 {R R2 : Type} (S30 : Int → Int → Option D168) (x0 : Int) (x1 : Int) (x2 : Int) (x3 : Bool) (k0 : Int → D167 → Option R) (h : R → Option R2) : ((g12_11 S30 x0 x1 x2 x3 k0)).bind h = (g12_11 S30 x0 x1 x2 x3 (fun y0 y1 => (k0 y0 y1).bind h)) := by
  simp only [g12_11, bind_brB, bind_ite, bind_none', Option.bind_assoc]
theorem t12_11 {N : Nat} {cl : Cal} (S30 : Int → Int → Option D168) (h30 : (ctr30 S30).holds cl) {R : Type} (K : KE R) (x0 : Int) (x1 : Int) (x2 : Int) (x3 : Bool) : exec cl N c12_11 [(0, .v T161 x0), (1, .v T161 x1), (14, .v T161 x2), (23, .v .bool x3)] K = (g12_11 S30 x0 x1 x2 x3 (fun y0 y1 => K .normal [(1, .v T161 y0), (6, .own true 33 T166 .no y1)])) := by
  rw [← put_eq h30]
  kernel_rfl
def g12_12 {R : Type} (x0 : Int) (x1 : Int) (x2 : Int) (x3 : Bool) (k0 : Int → Bool → Option R) : Option R :=
k0 x1 (x2 == (4 : Int))
theorem ng12_12 {R R2 : Type} (x0 : Int) (x1 : Int) (x2 : Int) (x3 : Bool) (k0 : Int → Bool → Option R) (h : R → Option R2) : ((g12_12 x0 x1 x2 x3 k0)).bind h = (g12_12 x0 x1 x2 x3 (fun y0 y1 => (k0 y0 y1).bind h)) := by
  simp only [g12_12, bind_brB, bind_ite, bind_none', Option.bind_assoc]
theorem t12_12 {N : Nat} {cl : Cal} {R : Type} (K : KE R) (x0 : Int) (x1 : Int) (x2 : Int) (x3 : Bool) : exec cl N c12_12 [(0, .v T161 x0), (1, .v T161 x1), (14, .v T161 x2), (23, .v .bool x3)] K = (g12_12 x0 x1 x2 x3 (fun y0 y1 => K .normal [(1, .v T161 y0), (27, .v .bool y1)])) := by
  kernel_rfl
def g12_13 {R : Type} (S31 : Int → Int → Option D166) (x0 : Int) (x1 : Bool) (k0 : Int → D167 → Option R) : Option R :=
(S31 (4 : Int) (0 : Int)).bind fun r60 =>
k0 x0 [r60]
theorem ng12_13 {R R2 : Type} (S31 : Int → Int → Option D166) (x0 : Int) (x1 : Bool) (k0 : Int → D167 → Option R) (h : R → Option R2) : ((g12_13 S31 x0 x1 k0)).bind h = (g12_13 S31 x0 x1 (fun y0 y1 => (k0 y0 y1).bind h)) := by
  simp only [g12_13, bind_brB, bind_ite, bind_none', Option.bind_assoc]
theorem t12_13 {N : Nat} {cl : Cal} (S31 : Int → Int → Option D166) (h31 : (ctr31 S31).holds cl) {R : Type} (K : KE R) (x0 : Int) (x1 : Bool) : exec cl N c12_13 [(1, .v T161 x0), (27, .v .bool x1)] K = (g12_13 S31 x0 x1 (fun y0 y1 => K .normal [(1, .v T161 y0), (6, .own true 33 T166 .no y1)])) := by
  rw [← put_eq h31]
  kernel_rfl
def g12_14 {R : Type} (x0 : Int) (x1 : Bool) (k0 : D167 → Int → Option R) : Option R :=
k0 [] (6 : Int)
theorem ng12_14 {R R2 : Type} (x0 : Int) (x1 : Bool) (k0 : D167 → Int → Option R) (h : R → Option R2) : ((g12_14 x0 x1 k0)).bind h = (g12_14 x0 x1 (fun y0 y1 => (k0 y0 y1).bind h)) := by
  simp only [g12_14, bind_brB, bind_ite, bind_none', Option.bind_assoc]
theorem t12_14 {N : Nat} {cl : Cal} {R : Type} (K : KE R) (x0 : Int) (x1 : Bool) : exec cl N c12_14 [(1, .v T161 x0), (27, .v .bool x1)] K = (g12_14 x0 x1 (fun y0 y1 => K .normal [(4, .own true 33 T166 .no y0), (5, .v T161 y1)])) := by
  kernel_rfl
theorem kp12_3 (x0 : D167) (x1 : Int) : keep [1, 4, 5, 6] [(4, .own true 33 T166 .no x0), (5, .v T161 x1)] = [(1, .dead), (4, .own true 33 T166 .no x0), (5, .v T161 x1), (6, .dead)] := by kernel_rfl
theorem hb12_1 (x0 : Int) (x1 : Bool) : boolOf? (ent [(1, .v T161 x0), (27, .v .bool x1)] (.t 27)) = some x1 := by kernel_rfl
theorem kp12_4 (x0 : Int) (x1 : D167) : keep [1, 4, 5, 6] [(1, .v T161 x0), (4, .dead), (5, .dead), (6, .own true 33 T166 .no x1)] = [(1, .v T161 x0), (4, .dead), (5, .dead), (6, .own true 33 T166 .no x1)] := by kernel_rfl
theorem kp12_5 (x0 : D167) (x1 : Int) : keep [1, 4, 5, 6] [(1, .dead), (4, .own true 33 T166 .no x0), (5, .v T161 x1), (6, .dead)] = [(1, .dead), (4, .own true 33 T166 .no x0), (5, .v T161 x1), (6, .dead)] := by kernel_rfl
theorem hb12_2 (x0 : Int) (x1 : Int) (x2 : Int) (x3 : Bool) : boolOf? (ent [(0, .v T161 x0), (1, .v T161 x1), (14, .v T161 x2), (23, .v .bool x3)] (.t 23)) = some x3 := by kernel_rfl
theorem hb12_3 (x0 : Int) (x1 : Int) (x2 : Int) (x3 : Bool) : boolOf? (ent [(0, .v T161 x0), (1, .v T161 x1), (14, .v T161 x2), (19, .v .bool x3)] (.t 19)) = some x3 := by kernel_rfl
theorem hb12_4 (x0 : Int) (x1 : Int) (x2 : Int) (x3 : Bool) : boolOf? (ent [(0, .v T161 x0), (1, .v T161 x1), (14, .v T161 x2), (15, .v .bool x3)] (.t 15)) = some x3 := by kernel_rfl
def g12_20 {R : Type} (S30 : Int → Int → Option D168) (S31 : Int → Int → Option D166) (x0 : Int) (x1 : Int) (k0 : Int → D167 → Option R) (k1 : D167 → Int → Option R) : Option R :=
(g12_5 x0 x1 (fun y0 y1 y2 => (g12_6 y0 y1 y2 (fun y0 y1 y2 y3 => brB y3 (g12_7 S30 y0 y1 y2 y3 (fun y0 y1 => (k0 y0 y1))) (g12_8 y0 y1 y2 y3 (fun y0 y1 y2 y3 => brB y3 (g12_9 S30 y0 y1 y2 y3 (fun y0 y1 => (k0 y0 y1))) (g12_10 y0 y1 y2 y3 (fun y0 y1 y2 y3 => brB y3 (g12_11 S30 y0 y1 y2 y3 (fun y0 y1 => (k0 y0 y1))) (g12_12 y0 y1 y2 y3 (fun y0 y1 => brB y1 (g12_13 S31 y0 y1 (fun y0 y1 => (k0 y0 y1))) (g12_14 y0 y1 (fun y0 y1 => ((fun y0 y1 => (k1 y0 y1)) y0 y1)))))))))))))
theorem ng12_20 {R R2 : Type} (S30 : Int → Int → Option D168) (S31 : Int → Int → Option D166) (x0 : Int) (x1 : Int) (k0 : Int → D167 → Option R) (k1 : D167 → Int → Option R) (h : R → Option R2) : ((g12_20 S30 S31 x0 x1 k0 k1)).bind h = (g12_20 S30 S31 x0 x1 (fun y0 y1 => (k0 y0 y1).bind h) (fun y0 y1 => (k1 y0 y1).bind h)) := by
  simp only [g12_20, ng12_10, ng12_11, ng12_12, ng12_13, ng12_14, ng12_5, ng12_6, ng12_7, ng12_8, ng12_9, bind_brB, bind_ite, bind_none', Option.bind_assoc]
theorem t12_20 {N : Nat} {cl : Cal} (S30 : Int → Int → Option D168) (S31 : Int → Int → Option D166) (h30 : (ctr30 S30).holds cl) (h31 : (ctr31 S31).holds cl) {R : Type} (K : KE R) (x0 : Int) (x1 : Int) : exec cl N c12_20 [(0, .v T161 x0), (1, .v T161 x1)] K = (g12_20 S30 S31 x0 x1 (fun y0 y1 => K .normal [(1, .v T161 y0), (4, .dead), (5, .dead), (6, .own true 33 T166 .no y1)]) (fun y0 y1 => K .ret [(1, .dead), (4, .own true 33 T166 .no y0), (5, .v T161 y1), (6, .dead)])) := by
  simp only [c12_20, exec_seq, seqK_normal, seqK_exit, seqK_ret, t12_5, c12_19, exec_out, exec_block, t12_6, c12_18, exec_cond', hb12_4, Option.bind_some, brB_true, brB_false, t12_7 S30 h30, t12_8, c12_17, hb12_3, t12_9 S30 h30, t12_10, c12_16, hb12_2, t12_11 S30 h30, t12_12, c12_15, hb12_1, t12_13 S31 h31, t12_14, exec_ret, kp12_2, kp12_3, kp12_4, kp12_5, blockK_normal, blockK_ret, blockK_eq]
  rfl

def g12_21 {R : Type} (S19 : D167 → Option (Int)) (x0 : Int) (x1 : D167) (k0 : Int → D167 → Int → Option R) : Option R :=
(S19 x1).bind fun r61 =>
k0 x0 x1 r61
theorem ng12_21 {R R2 : Type} (S19 : D167 → Option (Int)) (x0 : Int) (x1 : D167) (k0 : Int → D167 → Int → Option R) (h : R → Option R2) : ((g12_21 S19 x0 x1 k0)).bind h = (g12_21 S19 x0 x1 (fun y0 y1 y2 => (k0 y0 y1 y2).bind h)) := by
  simp only [g12_21, bind_brB, bind_ite, bind_none', Option.bind_assoc]
theorem t12_21 {N : Nat} {cl : Cal} (S19 : D167 → Option (Int)) (h19 : (ctr19 S19).holds cl) {R : Type} (K : KE R) (x0 : Int) (x1 : D167) : exec cl N c12_21 [(1, .v T161 x0), (4, .dead), (5, .dead), (6, .own true 33 T166 .no x1)] K = (g12_21 S19 x0 x1 (fun y0 y1 y2 => K .normal [(1, .v T161 y0), (6, .own true 33 T166 .no y1), (7, .v T161 y2)])) := by
  rw [← put_eq h19]
  kernel_rfl
def g12_22 {R : Type} (x0 : Int) (x1 : D167) (x2 : Int) (k0 : Int → D167 → Int → Bool → Option R) : Option R :=
k0 x0 x1 x2 ((Go.bits .and IntKind.i64 x2 (2 : Int)) == (0 : Int))
theorem ng12_22 {R R2 : Type} (x0 : Int) (x1 : D167) (x2 : Int) (k0 : Int → D167 → Int → Bool → Option R) (h : R → Option R2) : ((g12_22 x0 x1 x2 k0)).bind h = (g12_22 x0 x1 x2 (fun y0 y1 y2 y3 => (k0 y0 y1 y2 y3).bind h)) := by
  simp only [g12_22, bind_brB, bind_ite, bind_none', Option.bind_assoc]
theorem t12_22 {N : Nat} {cl : Cal} {R : Type} (K : KE R) (x0 : Int) (x1 : D167) (x2 : Int) : exec cl N c12_22 [(1, .v T161 x0), (6, .own true 33 T166 .no x1), (7, .v T161 x2)] K = (g12_22 x0 x1 x2 (fun y0 y1 y2 y3 => K .normal [(1, .v T161 y0), (6, .own true 33 T166 .no y1), (7, .v T161 y2), (35, .v .bool y3)])) := by
  kernel_rfl
def g12_23 {R : Type} (S31 : Int → Int → Option D166) (x0 : Int) (x1 : D167) (x2 : Int) (x3 : Bool) (k0 : Int → D167 → Int → Option R) : Option R :=
(S31 (7 : Int) (5 : Int)).bind fun r64 =>
if x1.length + [r64].length ≤ 5864062014805 then
k0 x0 (x1 ++ [r64]) x2
else none
theorem ng12_23 {R R2 : Type} (S31 : Int → Int → Option D166) (x0 : Int) (x1 : D167) (x2 : Int) (x3 : Bool) (k0 : Int → D167 → Int → Option R) (h : R → Option R2) : ((g12_23 S31 x0 x1 x2 x3 k0)).bind h = (g12_23 S31 x0 x1 x2 x3 (fun y0 y1 y2 => (k0 y0 y1 y2).bind h)) := by
  simp only [g12_23, bind_brB, bind_ite, bind_none', Option.bind_assoc]
theorem t12_23 {N : Nat} {cl : Cal} (S31 : Int → Int → Option D166) (h31 : (ctr31 S31).holds cl) {R : Type} (K : KE R) (x0 : Int) (x1 : D167) (x2 : Int) (x3 : Bool) : exec cl N c12_23 [(1, .v T161 x0), (6, .own true 33 T166 .no x1), (7, .v T161 x2), (35, .v .bool x3)] K = (g12_23 S31 x0 x1 x2 x3 (fun y0 y1 y2 => K .normal [(1, .v T161 y0), (6, .own true 33 T166 .no y1), (7, .v T161 y2)])) := by
  rw [← put_eq h31]
  kernel_rfl
theorem kp12_6 (x0 : Int) (x1 : D167) (x2 : Int) : keep [1, 6, 7] [(1, .v T161 x0), (6, .own true 33 T166 .no x1), (7, .v T161 x2)] = [(1, .v T161 x0), (6, .own true 33 T166 .no x1), (7, .v T161 x2)] := by kernel_rfl
theorem kp12_7 (x0 : Int) (x1 : D167) (x2 : Int) (x3 : Bool) : keep [1, 6, 7] [(1, .v T161 x0), (6, .own true 33 T166 .no x1), (7, .v T161 x2), (35, .v .bool x3)] = [(1, .v T161 x0), (6, .own true 33 T166 .no x1), (7, .v T161 x2)] := by kernel_rfl
theorem hb12_5 (x0 : Int) (x1 : D167) (x2 : Int) (x3 : Bool) : boolOf? (ent [(1, .v T161 x0), (6, .own true 33 T166 .no x1), (7, .v T161 x2), (35, .v .bool x3)] (.t 35)) = some x3 := by kernel_rfl
def g12_25 {R : Type} (S31 : Int → Int → Option D166) (x0 : Int) (x1 : D167) (x2 : Int) (k0 : Int → D167 → Int → Option R) : Option R :=
(g12_22 x0 x1 x2 (fun y0 y1 y2 y3 => brB y3 (g12_23 S31 y0 y1 y2 y3 (fun y0 y1 y2 => (k0 y0 y1 y2))) (k0 y0 y1 y2)))
theorem ng12_25 {R R2 : Type} (S31 : Int → Int → Option D166) (x0 : Int) (x1 : D167) (x2 : Int) (k0 : Int → D167 → Int → Option R) (h : R → Option R2) : ((g12_25 S31 x0 x1 x2 k0)).bind h = (g12_25 S31 x0 x1 x2 (fun y0 y1 y2 => (k0 y0 y1 y2).bind h)) := by
  simp only [g12_25, ng12_22, ng12_23, bind_brB, bind_ite, bind_none', Option.bind_assoc]
theorem t12_25 {N : Nat} {cl : Cal} (S31 : Int → Int → Option D166) (h31 : (ctr31 S31).holds cl) {R : Type} (K : KE R) (x0 : Int) (x1 : D167) (x2 : Int) : exec cl N c12_25 [(1, .v T161 x0), (6, .own true 33 T166 .no x1), (7, .v T161 x2)] K = (g12_25 S31 x0 x1 x2 (fun y0 y1 y2 => K .normal [(1, .v T161 y0), (6, .own true 33 T166 .no y1), (7, .v T161 y2)])) := by
  simp only [c12_25, exec_seq, seqK_normal, seqK_exit, seqK_ret, t12_22, c12_24, exec_out, exec_cond', hb12_5, Option.bind_some, brB_true, brB_false, t12_23 S31 h31, exec_skip, kp12_6, kp12_7]
  rfl

def g12_26 {R : Type} (x0 : Int) (x1 : D167) (x2 : Int) (k0 : D167 → Bool → Option R) : Option R :=
brB ((Go.bits .and IntKind.i64 x2 (1 : Int)) == (0 : Int)) (k0 x1 (x0 == (1 : Int))) (k0 x1 false)
theorem ng12_26 {R R2 : Type} (x0 : Int) (x1 : D167) (x2 : Int) (k0 : D167 → Bool → Option R) (h : R → Option R2) : ((g12_26 x0 x1 x2 k0)).bind h = (g12_26 x0 x1 x2 (fun y0 y1 => (k0 y0 y1).bind h)) := by
  simp only [g12_26, bind_brB, bind_ite, bind_none', Option.bind_assoc]
theorem t12_26 {N : Nat} {cl : Cal} {R : Type} (K : KE R) (x0 : Int) (x1 : D167) (x2 : Int) : exec cl N c12_26 [(1, .v T161 x0), (6, .own true 33 T166 .no x1), (7, .v T161 x2)] K = (g12_26 x0 x1 x2 (fun y0 y1 => K .normal [(6, .own true 33 T166 .no y0), (46, .v .bool y1)])) := by
  kernel_rfl
def g12_27 {R : Type} (S32 : Int → Int → Option D166) (x0 : D167) (x1 : Bool) (k0 : D167 → Option R) : Option R :=
(S32 (7 : Int) (6 : Int)).bind fun r68 =>
if x0.length + [r68].length ≤ 5864062014805 then
k0 (x0 ++ [r68])
else none
theorem ng12_27 {R R2 : Type} (S32 : Int → Int → Option D166) (x0 : D167) (x1 : Bool) (k0 : D167 → Option R) (h : R → Option R2) : ((g12_27 S32 x0 x1 k0)).bind h = (g12_27 S32 x0 x1 (fun y0 => (k0 y0).bind h)) := by
  simp only [g12_27, bind_brB, bind_ite, bind_none', Option.bind_assoc]
theorem t12_27 {N : Nat} {cl : Cal} (S32 : Int → Int → Option D166) (h32 : (ctr32 S32).holds cl) {R : Type} (K : KE R) (x0 : D167) (x1 : Bool) : exec cl N c12_27 [(6, .own true 33 T166 .no x0), (46, .v .bool x1)] K = (g12_27 S32 x0 x1 (fun y0 => K .normal [(6, .own true 33 T166 .no y0)])) := by
  rw [← put_eq h32]
  kernel_rfl
theorem kp12_8 (x0 : D167) : keep [6] [(6, .own true 33 T166 .no x0)] = [(6, .own true 33 T166 .no x0)] := by kernel_rfl
theorem kp12_9 (x0 : D167) (x1 : Bool) : keep [6] [(6, .own true 33 T166 .no x0), (46, .v .bool x1)] = [(6, .own true 33 T166 .no x0)] := by kernel_rfl
theorem hb12_6 (x0 : D167) (x1 : Bool) : boolOf? (ent [(6, .own true 33 T166 .no x0), (46, .v .bool x1)] (.t 46)) = some x1 := by kernel_rfl
def g12_29 {R : Type} (S32 : Int → Int → Option D166) (x0 : Int) (x1 : D167) (x2 : Int) (k0 : D167 → Option R) : Option R :=
(g12_26 x0 x1 x2 (fun y0 y1 => brB y1 (g12_27 S32 y0 y1 (fun y0 => (k0 y0))) (k0 y0)))
theorem ng12_29 {R R2 : Type} (S32 : Int → Int → Option D166) (x0 : Int) (x1 : D167) (x2 : Int) (k0 : D167 → Option R) (h : R → Option R2) : ((g12_29 S32 x0 x1 x2 k0)).bind h = (g12_29 S32 x0 x1 x2 (fun y0 => (k0 y0).bind h)) := by
  simp only [g12_29, ng12_26, ng12_27, bind_brB, bind_ite, bind_none', Option.bind_assoc]
theorem t12_29 {N : Nat} {cl : Cal} (S32 : Int → Int → Option D166) (h32 : (ctr32 S32).holds cl) {R : Type} (K : KE R) (x0 : Int) (x1 : D167) (x2 : Int) : exec cl N c12_29 [(1, .v T161 x0), (6, .own true 33 T166 .no x1), (7, .v T161 x2)] K = (g12_29 S32 x0 x1 x2 (fun y0 => K .normal [(6, .own true 33 T166 .no y0)])) := by
  simp only [c12_29, exec_seq, seqK_normal, seqK_exit, seqK_ret, t12_26, c12_28, exec_out, exec_cond', hb12_6, Option.bind_some, brB_true, brB_false, t12_27 S32 h32, exec_skip, kp12_8, kp12_9]
  rfl

def g12_30 {R : Type} (x0 : D167) (k0 : Int → D167 → Option R) : Option R :=
k0 (0 : Int) x0
theorem ng12_30 {R R2 : Type} (x0 : D167) (k0 : Int → D167 → Option R) (h : R → Option R2) : ((g12_30 x0 k0)).bind h = (g12_30 x0 (fun y0 y1 => (k0 y0 y1).bind h)) := by
  simp only [g12_30, bind_brB, bind_ite, bind_none', Option.bind_assoc]
theorem t12_30 {N : Nat} {cl : Cal} {R : Type} (K : KE R) (x0 : D167) : exec cl N c12_30 [(6, .own true 33 T166 .no x0)] K = (g12_30 x0 (fun y0 y1 => K .normal [(4, .ref 6 []), (5, .v T161 y0), (6, .own true 33 T166 .no y1)])) := by
  kernel_rfl
def g12_31 {R : Type} (S19 : D167 → Option (Int)) (S30 : Int → Int → Option D168) (S31 : Int → Int → Option D166) (S32 : Int → Int → Option D166) (x0 : Int) (x1 : Int) (k0 : D167 → Int → Option R) (k1 : Int → D167 → Option R) (k2 : D167 → Int → Option R) : Option R :=
(g12_0 x0 x1 (fun y0 y1 => (g12_1 y0 y1 (fun y0 y1 y2 => brB y2 (g12_2 y0 y1 y2 (fun y0 y1 => ((fun y0 y1 => (k0 y0 y1)) y0 y1))) ((fun y0 y1 => (g12_4 y0 y1 (fun y0 y1 => (g12_20 S30 S31 y0 y1 (fun y0 y1 => (g12_21 S19 y0 y1 (fun y0 y1 y2 => (g12_25 S31 y0 y1 y2 (fun y0 y1 y2 => (g12_29 S32 y0 y1 y2 (fun y0 => (g12_30 y0 (fun y0 y1 => (k1 y0 y1)))))))))) k2)))) y0 y1)))))
theorem ng12_31 {R R2 : Type} (S19 : D167 → Option (Int)) (S30 : Int → Int → Option D168) (S31 : Int → Int → Option D166) (S32 : Int → Int → Option D166) (x0 : Int) (x1 : Int) (k0 : D167 → Int → Option R) (k1 : Int → D167 → Option R) (k2 : D167 → Int → Option R) (h : R → Option R2) : ((g12_31 S19 S30 S31 S32 x0 x1 k0 k1 k2)).bind h = (g12_31 S19 S30 S31 S32 x0 x1 (fun y0 y1 => (k0 y0 y1).bind h) (fun y0 y1 => (k1 y0 y1).bind h) (fun y0 y1 => (k2 y0 y1).bind h)) := by
  simp only [g12_31, ng12_0, ng12_1, ng12_2, ng12_20, ng12_21, ng12_25, ng12_29, ng12_30, ng12_4, bind_brB, bind_ite, bind_none', Option.bind_assoc]
theorem t12_31 {N : Nat} {cl : Cal} (S19 : D167 → Option (Int)) (S30 : Int → Int → Option D168) (S31 : Int → Int → Option D166) (S32 : Int → Int → Option D166) (h19 : (ctr19 S19).holds cl) (h30 : (ctr30 S30).holds cl) (h31 : (ctr31 S31).holds cl) (h32 : (ctr32 S32).holds cl) {R : Type} (K : KE R) (x0 : Int) (x1 : Int) : exec cl N c12_31 [(0, .v T161 x0), (1, .v T161 x1)] K = (g12_31 S19 S30 S31 S32 x0 x1 (fun y0 y1 => K .ret [(0, .dead), (1, .dead), (4, .own true 33 T166 .no y0), (5, .v T161 y1)]) (fun y0 y1 => K .ret [(4, .ref 6 []), (5, .v T161 y0), (6, .own true 33 T166 .no y1)]) (fun y0 y1 => K .ret [(1, .dead), (4, .own true 33 T166 .no y0), (5, .v T161 y1), (6, .dead)])) := by
  simp only [c12_31, exec_seq, seqK_normal, seqK_exit, seqK_ret, t12_0, t12_1, c12_3, exec_out, exec_cond', hb12_0, Option.bind_some, brB_true, brB_false, t12_2, exec_ret, exec_skip, kp12_0, kp12_1, t12_4, t12_20 S30 S31 h30 h31, t12_21 S19 h19, t12_25 S31 h31, t12_29 S32 h32, t12_30]
  rfl

theorem rk12_0 (y0 : D167) (y1 : Int) : retK d12 .ret [(0, .dead), (1, .dead), (4, .own true 33 T166 .no y0), (5, .v T161 y1)] = some [.own true 33 T166 .no y0, .v T161 y1] := by kernel_rfl
theorem rk12_1 (y0 : Int) (y1 : D167) : retK d12 .ret [(4, .ref 6 []), (5, .v T161 y0), (6, .own true 33 T166 .no y1)] = some [.own true 33 T166 .no y1, .v T161 y0] := by kernel_rfl
theorem rk12_2 (y0 : D167) (y1 : Int) : retK d12 .ret [(1, .dead), (4, .own true 33 T166 .no y0), (5, .v T161 y1), (6, .dead)] = some [.own true 33 T166 .no y0, .v T161 y1] := by kernel_rfl
def g12 {R : Type} (S19 : D167 → Option (Int)) (S30 : Int → Int → Option D168) (S31 : Int → Int → Option D166) (S32 : Int → Int → Option D166) (x0 : Int) (x1 : Int) (k : D167 → Int → Option R) : Option R :=
(g12_31 S19 S30 S31 S32 x0 x1 (fun y0 y1 => k y0 y1) (fun y0 y1 => k y1 y0) (fun y0 y1 => k y0 y1))
theorem gen12 {N : Nat} {cl : Cal} (S19 : D167 → Option (Int)) (S30 : Int → Int → Option D168) (S31 : Int → Int → Option D166) (S32 : Int → Int → Option D166) (h19 : (ctr19 S19).holds cl) (h30 : (ctr30 S30).holds cl) (h31 : (ctr31 S31).holds cl) (h32 : (ctr32 S32).holds cl) (x0 : Int) (x1 : Int) : exec cl N c12 (params 0 [.v T161 x0, .v T161 x1]) (retK d12) = g12 S19 S30 S31 S32 x0 x1 (fun (r0 : D167) (r1 : Int) => some [.own true 33 T166 .no r0, .v T161 r1]) := by
  have e0 : params 0 [.v T161 x0, .v T161 x1] = [(0, .v T161 x0), (1, .v T161 x1)] := by kernel_rfl
  simp only [c12, e0, t12_31 S19 S30 S31 S32 h19 h30 h31 h32, rk12_0, rk12_1, rk12_2]
  rfl

def ctr12 (S : Int → Int → Option D1610) : Ctr := { A := Int × Int × Unit, B := D167 × Int, f := 12, enc := fun a => [.v T161 a.1, .v T161 a.2.1], dec := (decC (decV T161) (decC (decV T161) dec0)), S := fun a => S a.1 a.2.1, ent := fun b => [.own true 33 T166 .no b.1, .v T161 b.2], ok := (decV_cons (T := T161) (decV_cons (T := T161) (fun es b h => dec0_some h))) }
def S12 (N : Nat) (x0 : Int) (x1 : Int) : Option D1610 := g12 (S19 N) (S30 N) (S31 N) (S32 N) x0 x1 (fun (r0 : D167) (r1 : Int) => some (r0, r1))
theorem ng12 {R R2 : Type} (S19 : D167 → Option (Int)) (S30 : Int → Int → Option D168) (S31 : Int → Int → Option D166) (S32 : Int → Int → Option D166) (x0 : Int) (x1 : Int) (k : D167 → Int → Option R) (h : R → Option R2) : (g12 S19 S30 S31 S32 x0 x1 k).bind h = g12 S19 S30 S31 S32 x0 x1 (fun (r0 : D167) (r1 : Int) => (k r0 r1).bind h) := by
  simp only [g12, ng12_31]
-- anceps/weight.Final
def g15_0 {R : Type} (x0 : Int) (x1 : Bool) (k0 : Int → Bool → Option R) : Option R :=
k0 x0 x1
theorem ng15_0 {R R2 : Type} (x0 : Int) (x1 : Bool) (k0 : Int → Bool → Option R) (h : R → Option R2) : ((g15_0 x0 x1 k0)).bind h = (g15_0 x0 x1 (fun y0 y1 => (k0 y0 y1).bind h)) := by
  simp only [g15_0, bind_brB, bind_ite, bind_none', Option.bind_assoc]
theorem t15_0 {N : Nat} {cl : Cal} {R : Type} (K : KE R) (x0 : Int) (x1 : Bool) : exec cl N c15_0 [(0, .v T161 x0), (1, .v .bool x1)] K = (g15_0 x0 x1 (fun y0 y1 => K .normal [(0, .v T161 y0), (1, .v .bool y1)])) := by
  kernel_rfl
def g15_1 {R : Type} (x0 : Int) (x1 : Bool) (k0 : Int → Bool → Bool → Option R) : Option R :=
brB (decide (x0 < (1 : Int))) (k0 x0 x1 true) (k0 x0 x1 (decide (x0 > (3 : Int))))
theorem ng15_1 {R R2 : Type} (x0 : Int) (x1 : Bool) (k0 : Int → Bool → Bool → Option R) (h : R → Option R2) : ((g15_1 x0 x1 k0)).bind h = (g15_1 x0 x1 (fun y0 y1 y2 => (k0 y0 y1 y2).bind h)) := by
  simp only [g15_1, bind_brB, bind_ite, bind_none', Option.bind_assoc]
theorem t15_1 {N : Nat} {cl : Cal} {R : Type} (K : KE R) (x0 : Int) (x1 : Bool) : exec cl N c15_1 [(0, .v T161 x0), (1, .v .bool x1)] K = (g15_1 x0 x1 (fun y0 y1 y2 => K .normal [(0, .v T161 y0), (1, .v .bool y1), (6, .v .bool y2)])) := by
  kernel_rfl
def g15_2 {R : Type} (x0 : Int) (x1 : Bool) (x2 : Bool) (k0 : D167 → Int → Option R) : Option R :=
k0 [] (6 : Int)
theorem ng15_2 {R R2 : Type} (x0 : Int) (x1 : Bool) (x2 : Bool) (k0 : D167 → Int → Option R) (h : R → Option R2) : ((g15_2 x0 x1 x2 k0)).bind h = (g15_2 x0 x1 x2 (fun y0 y1 => (k0 y0 y1).bind h)) := by
  simp only [g15_2, bind_brB, bind_ite, bind_none', Option.bind_assoc]
theorem t15_2 {N : Nat} {cl : Cal} {R : Type} (K : KE R) (x0 : Int) (x1 : Bool) (x2 : Bool) : exec cl N c15_2 [(0, .v T161 x0), (1, .v .bool x1), (6, .v .bool x2)] K = (g15_2 x0 x1 x2 (fun y0 y1 => K .normal [(4, .own true 33 T166 .no y0), (5, .v T161 y1)])) := by
  kernel_rfl
theorem kp15_0 (x0 : D167) (x1 : Int) : keep [0, 4, 5] [(4, .own true 33 T166 .no x0), (5, .v T161 x1)] = [(0, .dead), (4, .own true 33 T166 .no x0), (5, .v T161 x1)] := by kernel_rfl
def g15_3 {R : Type} (x0 : Int) (x1 : Bool) (x2 : Bool) (k0 : Int → Bool → Option R) : Option R :=
k0 x0 x1
theorem ng15_3 {R R2 : Type} (x0 : Int) (x1 : Bool) (x2 : Bool) (k0 : Int → Bool → Option R) (h : R → Option R2) : ((g15_3 x0 x1 x2 k0)).bind h = (g15_3 x0 x1 x2 (fun y0 y1 => (k0 y0 y1).bind h)) := by
  simp only [g15_3, bind_brB, bind_ite, bind_none', Option.bind_assoc]
theorem t15_3 {N : Nat} {cl : Cal} {R : Type} (K : KE R) (x0 : Int) (x1 : Bool) (x2 : Bool) : exec cl N c15_3 [(0, .v T161 x0), (1, .v .bool x1), (6, .v .bool x2)] K = (g15_3 x0 x1 x2 (fun y0 y1 => K .normal [(0, .v T161 y0), (13, .v .bool y1)])) := by
  kernel_rfl
def g15_4 {R : Type} (S31 : Int → Int → Option D166) (S32 : Int → Int → Option D166) (x0 : Int) (x1 : Bool) (k0 : D167 → Int → Option R) : Option R :=
(S32 (6 : Int) (0 : Int)).bind fun r84 =>
(S31 (6 : Int) (0 : Int)).bind fun r85 =>
k0 [r84, r85] (0 : Int)
theorem ng15_4 {R R2 : Type} (S31 : Int → Int → Option D166) (S32 : Int → Int → Option D166) (x0 : Int) (x1 : Bool) (k0 : D167 → Int → Option R) (h : R → Option R2) : ((g15_4 S31 S32 x0 x1 k0)).bind h = (g15_4 S31 S32 x0 x1 (fun y0 y1 => (k0 y0 y1).bind h)) := by
  simp only [g15_4, bind_brB, bind_ite, bind_none', Option.bind_assoc]
theorem t15_4 {N : Nat} {cl : Cal} (S31 : Int → Int → Option D166) (S32 : Int → Int → Option D166) (h31 : (ctr31 S31).holds cl) (h32 : (ctr32 S32).holds cl) {R : Type} (K : KE R) (x0 : Int) (x1 : Bool) : exec cl N c15_4 [(0, .v T161 x0), (13, .v .bool x1)] K = (g15_4 S31 S32 x0 x1 (fun y0 y1 => K .normal [(4, .own true 33 T166 .no y0), (5, .v T161 y1)])) := by
  rw [← put_eq h31]
  rw [← put_eq h32]
  kernel_rfl
def g15_5 {R : Type} (x0 : Int) (x1 : Bool) (k0 : Int → Bool → Option R) : Option R :=
k0 x0 (x0 == (1 : Int))
theorem ng15_5 {R R2 : Type} (x0 : Int) (x1 : Bool) (k0 : Int → Bool → Option R) (h : R → Option R2) : ((g15_5 x0 x1 k0)).bind h = (g15_5 x0 x1 (fun y0 y1 => (k0 y0 y1).bind h)) := by
  simp only [g15_5, bind_brB, bind_ite, bind_none', Option.bind_assoc]
theorem t15_5 {N : Nat} {cl : Cal} {R : Type} (K : KE R) (x0 : Int) (x1 : Bool) : exec cl N c15_5 [(0, .v T161 x0), (13, .v .bool x1)] K = (g15_5 x0 x1 (fun y0 y1 => K .normal [(0, .v T161 y0), (18, .v .bool y1)])) := by
  kernel_rfl
def g15_6 {R : Type} (S31 : Int → Int → Option D166) (S32 : Int → Int → Option D166) (x0 : Int) (x1 : Bool) (k0 : D167 → Int → Option R) : Option R :=
(S32 (1 : Int) (0 : Int)).bind fun r87 =>
(S31 (6 : Int) (3 : Int)).bind fun r88 =>
k0 [r87, r88] (0 : Int)
theorem ng15_6 {R R2 : Type} (S31 : Int → Int → Option D166) (S32 : Int → Int → Option D166) (x0 : Int) (x1 : Bool) (k0 : D167 → Int → Option R) (h : R → Option R2) : ((g15_6 S31 S32 x0 x1 k0)).bind h = (g15_6 S31 S32 x0 x1 (fun y0 y1 => (k0 y0 y1).bind h)) := by
  simp only [g15_6, bind_brB, bind_ite, bind_none', Option.bind_assoc]
theorem t15_6 {N : Nat} {cl : Cal} (S31 : Int → Int → Option D166) (S32 : Int → Int → Option D166) (h31 : (ctr31 S31).holds cl) (h32 : (ctr32 S32).holds cl) {R : Type} (K : KE R) (x0 : Int) (x1 : Bool) : exec cl N c15_6 [(0, .v T161 x0), (18, .v .bool x1)] K = (g15_6 S31 S32 x0 x1 (fun y0 y1 => K .normal [(4, .own true 33 T166 .no y0), (5, .v T161 y1)])) := by
  rw [← put_eq h31]
  rw [← put_eq h32]
  kernel_rfl
def g15_7 {R : Type} (x0 : Int) (x1 : Bool) (k0 : Int → Bool → Option R) : Option R :=
k0 x0 (x0 == (2 : Int))
theorem ng15_7 {R R2 : Type} (x0 : Int) (x1 : Bool) (k0 : Int → Bool → Option R) (h : R → Option R2) : ((g15_7 x0 x1 k0)).bind h = (g15_7 x0 x1 (fun y0 y1 => (k0 y0 y1).bind h)) := by
  simp only [g15_7, bind_brB, bind_ite, bind_none', Option.bind_assoc]
theorem t15_7 {N : Nat} {cl : Cal} {R : Type} (K : KE R) (x0 : Int) (x1 : Bool) : exec cl N c15_7 [(0, .v T161 x0), (18, .v .bool x1)] K = (g15_7 x0 x1 (fun y0 y1 => K .normal [(0, .v T161 y0), (24, .v .bool y1)])) := by
  kernel_rfl
def g15_8 {R : Type} (S31 : Int → Int → Option D166) (S32 : Int → Int → Option D166) (x0 : Int) (x1 : Bool) (k0 : D167 → Int → Option R) : Option R :=
(S31 (2 : Int) (0 : Int)).bind fun r90 =>
(S32 (6 : Int) (4 : Int)).bind fun r91 =>
k0 [r90, r91] (0 : Int)
theorem ng15_8 {R R2 : Type} (S31 : Int → Int → Option D166) (S32 : Int → Int → Option D166) (x0 : Int) (x1 : Bool) (k0 : D167 → Int → Option R) (h : R → Option R2) : ((g15_8 S31 S32 x0 x1 k0)).bind h = (g15_8 S31 S32 x0 x1 (fun y0 y1 => (k0 y0 y1).bind h)) := by
  simp only [g15_8, bind_brB, bind_ite, bind_none', Option.bind_assoc]
theorem t15_8 {N : Nat} {cl : Cal} (S31 : Int → Int → Option D166) (S32 : Int → Int → Option D166) (h31 : (ctr31 S31).holds cl) (h32 : (ctr32 S32).holds cl) {R : Type} (K : KE R) (x0 : Int) (x1 : Bool) : exec cl N c15_8 [(0, .v T161 x0), (24, .v .bool x1)] K = (g15_8 S31 S32 x0 x1 (fun y0 y1 => K .normal [(4, .own true 33 T166 .no y0), (5, .v T161 y1)])) := by
  rw [← put_eq h31]
  rw [← put_eq h32]
  kernel_rfl
theorem kp15_1 (x0 : Int) (x1 : Bool) : keep [0, 4, 5] [(0, .v T161 x0), (24, .v .bool x1)] = [(0, .v T161 x0), (4, .dead), (5, .dead)] := by kernel_rfl
theorem hb15_0 (x0 : Int) (x1 : Bool) : boolOf? (ent [(0, .v T161 x0), (24, .v .bool x1)] (.t 24)) = some x1 := by kernel_rfl
theorem kp15_2 (x0 : D167) (x1 : Int) : keep [0, 4, 5] [(0, .dead), (4, .own true 33 T166 .no x0), (5, .v T161 x1)] = [(0, .dead), (4, .own true 33 T166 .no x0), (5, .v T161 x1)] := by kernel_rfl
theorem kp15_3 (x0 : Int) : keep [0, 4, 5] [(0, .v T161 x0), (4, .dead), (5, .dead)] = [(0, .v T161 x0), (4, .dead), (5, .dead)] := by kernel_rfl
theorem hb15_1 (x0 : Int) (x1 : Bool) : boolOf? (ent [(0, .v T161 x0), (18, .v .bool x1)] (.t 18)) = some x1 := by kernel_rfl
theorem hb15_2 (x0 : Int) (x1 : Bool) : boolOf? (ent [(0, .v T161 x0), (13, .v .bool x1)] (.t 13)) = some x1 := by kernel_rfl
theorem hb15_3 (x0 : Int) (x1 : Bool) (x2 : Bool) : boolOf? (ent [(0, .v T161 x0), (1, .v .bool x1), (6, .v .bool x2)] (.t 6)) = some x2 := by kernel_rfl
def g15_14 {R : Type} (S30 : Int → Int → Option D168) (x0 : Int) (k0 : D167 → Int → Option R) : Option R :=
(S30 x0 (0 : Int)).bind fun r92 =>
k0 r92 (0 : Int)
theorem ng15_14 {R R2 : Type} (S30 : Int → Int → Option D168) (x0 : Int) (k0 : D167 → Int → Option R) (h : R → Option R2) : ((g15_14 S30 x0 k0)).bind h = (g15_14 S30 x0 (fun y0 y1 => (k0 y0 y1).bind h)) := by
  simp only [g15_14, bind_brB, bind_ite, bind_none', Option.bind_assoc]
theorem t15_14 {N : Nat} {cl : Cal} (S30 : Int → Int → Option D168) (h30 : (ctr30 S30).holds cl) {R : Type} (K : KE R) (x0 : Int) : exec cl N c15_14 [(0, .v T161 x0), (4, .dead), (5, .dead)] K = (g15_14 S30 x0 (fun y0 y1 => K .normal [(4, .own true 33 T166 .no y0), (5, .v T161 y1)])) := by
  rw [← put_eq h30]
  kernel_rfl
def g15_15 {R : Type} (S30 : Int → Int → Option D168) (S31 : Int → Int → Option D166) (S32 : Int → Int → Option D166) (x0 : Int) (x1 : Bool) (k0 : D167 → Int → Option R) (k1 : D167 → Int → Option R) : Option R :=
(g15_0 x0 x1 (fun y0 y1 => (g15_1 y0 y1 (fun y0 y1 y2 => brB y2 (g15_2 y0 y1 y2 (fun y0 y1 => ((fun y0 y1 => (k0 y0 y1)) y0 y1))) (g15_3 y0 y1 y2 (fun y0 y1 => brB y1 (g15_4 S31 S32 y0 y1 (fun y0 y1 => ((fun y0 y1 => (k0 y0 y1)) y0 y1))) (g15_5 y0 y1 (fun y0 y1 => brB y1 (g15_6 S31 S32 y0 y1 (fun y0 y1 => ((fun y0 y1 => (k0 y0 y1)) y0 y1))) (g15_7 y0 y1 (fun y0 y1 => brB y1 (g15_8 S31 S32 y0 y1 (fun y0 y1 => ((fun y0 y1 => (k0 y0 y1)) y0 y1))) ((fun y0 => ((fun y0 => ((fun y0 => ((fun y0 => ((fun y0 => (g15_14 S30 y0 (fun y0 y1 => (k1 y0 y1)))) y0)) y0)) y0)) y0)) y0)))))))))))
theorem ng15_15 {R R2 : Type} (S30 : Int → Int → Option D168) (S31 : Int → Int → Option D166) (S32 : Int → Int → Option D166) (x0 : Int) (x1 : Bool) (k0 : D167 → Int → Option R) (k1 : D167 → Int → Option R) (h : R → Option R2) : ((g15_15 S30 S31 S32 x0 x1 k0 k1)).bind h = (g15_15 S30 S31 S32 x0 x1 (fun y0 y1 => (k0 y0 y1).bind h) (fun y0 y1 => (k1 y0 y1).bind h)) := by
  simp only [g15_15, ng15_0, ng15_1, ng15_14, ng15_2, ng15_3, ng15_4, ng15_5, ng15_6, ng15_7, ng15_8, bind_brB, bind_ite, bind_none', Option.bind_assoc]
theorem t15_15 {N : Nat} {cl : Cal} (S30 : Int → Int → Option D168) (S31 : Int → Int → Option D166) (S32 : Int → Int → Option D166) (h30 : (ctr30 S30).holds cl) (h31 : (ctr31 S31).holds cl) (h32 : (ctr32 S32).holds cl) {R : Type} (K : KE R) (x0 : Int) (x1 : Bool) : exec cl N c15_15 [(0, .v T161 x0), (1, .v .bool x1)] K = (g15_15 S30 S31 S32 x0 x1 (fun y0 y1 => K .ret [(0, .dead), (4, .own true 33 T166 .no y0), (5, .v T161 y1)]) (fun y0 y1 => K .ret [(4, .own true 33 T166 .no y0), (5, .v T161 y1)])) := by
  simp only [c15_15, exec_seq, seqK_normal, seqK_exit, seqK_ret, t15_0, c15_13, exec_out, exec_block, t15_1, c15_12, exec_cond', hb15_3, Option.bind_some, brB_true, brB_false, t15_2, exec_ret, t15_3, c15_11, hb15_2, t15_4 S31 S32 h31 h32, t15_5, c15_10, hb15_1, t15_6 S31 S32 h31 h32, t15_7, c15_9, hb15_0, t15_8 S31 S32 h31 h32, exec_skip, kp15_0, kp15_1, kp15_2, kp15_3, blockK_normal, blockK_ret, blockK_eq, t15_14 S30 h30]
  rfl

theorem rk15_0 (y0 : D167) (y1 : Int) : retK d15 .ret [(0, .dead), (4, .own true 33 T166 .no y0), (5, .v T161 y1)] = some [.own true 33 T166 .no y0, .v T161 y1] := by kernel_rfl
theorem rk15_1 (y0 : D167) (y1 : Int) : retK d15 .ret [(4, .own true 33 T166 .no y0), (5, .v T161 y1)] = some [.own true 33 T166 .no y0, .v T161 y1] := by kernel_rfl
def g15 {R : Type} (S30 : Int → Int → Option D168) (S31 : Int → Int → Option D166) (S32 : Int → Int → Option D166) (x0 : Int) (x1 : Bool) (k : D167 → Int → Option R) : Option R :=
(g15_15 S30 S31 S32 x0 x1 (fun y0 y1 => k y0 y1) (fun y0 y1 => k y0 y1))
theorem gen15 {N : Nat} {cl : Cal} (S30 : Int → Int → Option D168) (S31 : Int → Int → Option D166) (S32 : Int → Int → Option D166) (h30 : (ctr30 S30).holds cl) (h31 : (ctr31 S31).holds cl) (h32 : (ctr32 S32).holds cl) (x0 : Int) (x1 : Bool) : exec cl N c15 (params 0 [.v T161 x0, .v .bool x1]) (retK d15) = g15 S30 S31 S32 x0 x1 (fun (r0 : D167) (r1 : Int) => some [.own true 33 T166 .no r0, .v T161 r1]) := by
  have e0 : params 0 [.v T161 x0, .v .bool x1] = [(0, .v T161 x0), (1, .v .bool x1)] := by kernel_rfl
  simp only [c15, e0, t15_15 S30 S31 S32 h30 h31 h32, rk15_0, rk15_1]
  rfl

def ctr15 (S : Int → Bool → Option D1610) : Ctr := { A := Int × Bool × Unit, B := D167 × Int, f := 15, enc := fun a => [.v T161 a.1, .v .bool a.2.1], dec := (decC (decV T161) (decC (decV .bool) dec0)), S := fun a => S a.1 a.2.1, ent := fun b => [.own true 33 T166 .no b.1, .v T161 b.2], ok := (decV_cons (T := T161) (decV_cons (T := .bool) (fun es b h => dec0_some h))) }
def S15 (N : Nat) (x0 : Int) (x1 : Bool) : Option D1610 := g15 (S30 N) (S31 N) (S32 N) x0 x1 (fun (r0 : D167) (r1 : Int) => some (r0, r1))
theorem ng15 {R R2 : Type} (S30 : Int → Int → Option D168) (S31 : Int → Int → Option D166) (S32 : Int → Int → Option D166) (x0 : Int) (x1 : Bool) (k : D167 → Int → Option R) (h : R → Option R2) : (g15 S30 S31 S32 x0 x1 k).bind h = g15 S30 S31 S32 x0 x1 (fun (r0 : D167) (r1 : Int) => (k r0 r1).bind h) := by
  simp only [g15, ng15_15]
-- anceps/ancepsref16.Same
def g14_0 {R : Type} (x0 : D167) (x1 : D167) (k0 : D167 → D167 → Option R) : Option R :=
k0 x0 x1
theorem ng14_0 {R R2 : Type} (x0 : D167) (x1 : D167) (k0 : D167 → D167 → Option R) (h : R → Option R2) : ((g14_0 x0 x1 k0)).bind h = (g14_0 x0 x1 (fun y0 y1 => (k0 y0 y1).bind h)) := by
  simp only [g14_0, bind_brB, bind_ite, bind_none', Option.bind_assoc]
theorem t14_0 {N : Nat} {cl : Cal} {R : Type} (K : KE R) (x0 : D167) (x1 : D167) : exec cl N c14_0 [(0, .v T167 x0), (1, .v T167 x1)] K = (g14_0 x0 x1 (fun y0 y1 => K .normal [(0, .v T167 y0), (1, .v T167 y1)])) := by
  kernel_rfl
def g14_1 {R : Type} (x0 : D167) (x1 : D167) (k0 : D167 → D167 → Bool → Option R) : Option R :=
k0 x0 x1 ((x0.length : Int) != (x1.length : Int))
theorem ng14_1 {R R2 : Type} (x0 : D167) (x1 : D167) (k0 : D167 → D167 → Bool → Option R) (h : R → Option R2) : ((g14_1 x0 x1 k0)).bind h = (g14_1 x0 x1 (fun y0 y1 y2 => (k0 y0 y1 y2).bind h)) := by
  simp only [g14_1, bind_brB, bind_ite, bind_none', Option.bind_assoc]
theorem t14_1 {N : Nat} {cl : Cal} {R : Type} (K : KE R) (x0 : D167) (x1 : D167) : exec cl N c14_1 [(0, .v T167 x0), (1, .v T167 x1)] K = (g14_1 x0 x1 (fun y0 y1 y2 => K .normal [(0, .v T167 y0), (1, .v T167 y1), (10, .v .bool y2)])) := by
  kernel_rfl
def g14_2 {R : Type} (x0 : D167) (x1 : D167) (x2 : Bool) (k0 : Bool → Option R) : Option R :=
k0 false
theorem ng14_2 {R R2 : Type} (x0 : D167) (x1 : D167) (x2 : Bool) (k0 : Bool → Option R) (h : R → Option R2) : ((g14_2 x0 x1 x2 k0)).bind h = (g14_2 x0 x1 x2 (fun y0 => (k0 y0).bind h)) := by
  simp only [g14_2, bind_brB, bind_ite, bind_none', Option.bind_assoc]
theorem t14_2 {N : Nat} {cl : Cal} {R : Type} (K : KE R) (x0 : D167) (x1 : D167) (x2 : Bool) : exec cl N c14_2 [(0, .v T167 x0), (1, .v T167 x1), (10, .v .bool x2)] K = (g14_2 x0 x1 x2 (fun y0 => K .normal [(4, .v .bool y0)])) := by
  kernel_rfl
theorem kp14_0 (x0 : Bool) : keep [0, 1, 4] [(4, .v .bool x0)] = [(0, .dead), (1, .dead), (4, .v .bool x0)] := by kernel_rfl
theorem kp14_1 (x0 : D167) (x1 : D167) (x2 : Bool) : keep [0, 1, 4] [(0, .v T167 x0), (1, .v T167 x1), (10, .v .bool x2)] = [(0, .v T167 x0), (1, .v T167 x1), (4, .dead)] := by kernel_rfl
theorem hb14_0 (x0 : D167) (x1 : D167) (x2 : Bool) : boolOf? (ent [(0, .v T167 x0), (1, .v T167 x1), (10, .v .bool x2)] (.t 10)) = some x2 := by kernel_rfl
def g14_4 {R : Type} (x0 : D167) (x1 : D167) (k0 : D167 → D167 → Int → Option R) : Option R :=
k0 x0 x1 (0 : Int)
theorem ng14_4 {R R2 : Type} (x0 : D167) (x1 : D167) (k0 : D167 → D167 → Int → Option R) (h : R → Option R2) : ((g14_4 x0 x1 k0)).bind h = (g14_4 x0 x1 (fun y0 y1 y2 => (k0 y0 y1 y2).bind h)) := by
  simp only [g14_4, bind_brB, bind_ite, bind_none', Option.bind_assoc]
theorem t14_4 {N : Nat} {cl : Cal} {R : Type} (K : KE R) (x0 : D167) (x1 : D167) : exec cl N c14_4 [(0, .v T167 x0), (1, .v T167 x1), (4, .dead)] K = (g14_4 x0 x1 (fun y0 y1 y2 => K .normal [(0, .v T167 y0), (1, .v T167 y1), (5, .v T161 y2)])) := by
  kernel_rfl
theorem kp14_2 (x0 : D167) (x1 : D167) (x2 : Int) : keep [0, 1, 5] [(0, .v T167 x0), (1, .v T167 x1), (5, .v T161 x2)] = [(0, .v T167 x0), (1, .v T167 x1), (5, .v T161 x2)] := by kernel_rfl
def g14_5 {R : Type} (x0 : D167) (x1 : D167) (x2 : Int) (k0 : D167 → D167 → Int → Bool → Option R) : Option R :=
k0 x0 x1 x2 (decide (x2 < (x0.length : Int)))
theorem ng14_5 {R R2 : Type} (x0 : D167) (x1 : D167) (x2 : Int) (k0 : D167 → D167 → Int → Bool → Option R) (h : R → Option R2) : ((g14_5 x0 x1 x2 k0)).bind h = (g14_5 x0 x1 x2 (fun y0 y1 y2 y3 => (k0 y0 y1 y2 y3).bind h)) := by
  simp only [g14_5, bind_brB, bind_ite, bind_none', Option.bind_assoc]
theorem t14_5 {N : Nat} {cl : Cal} {R : Type} (K : KE R) (x0 : D167) (x1 : D167) (x2 : Int) : exec cl N c14_5 [(0, .v T167 x0), (1, .v T167 x1), (5, .v T161 x2)] K = (g14_5 x0 x1 x2 (fun y0 y1 y2 y3 => K .normal [(0, .v T167 y0), (1, .v T167 y1), (5, .v T161 y2), (14, .v .bool y3)])) := by
  kernel_rfl
theorem kp14_3 (x0 : D167) (x1 : D167) (x2 : Int) (x3 : Bool) : keep [0, 1, 5] [(0, .v T167 x0), (1, .v T167 x1), (5, .v T161 x2), (14, .v .bool x3)] = [(0, .v T167 x0), (1, .v T167 x1), (5, .v T161 x2)] := by kernel_rfl
theorem hb14_1 (x0 : D167) (x1 : D167) (x2 : Int) (x3 : Bool) : boolOf? (ent [(0, .v T167 x0), (1, .v T167 x1), (5, .v T161 x2), (14, .v .bool x3)] (.t 14)) = some x3 := by kernel_rfl
def g14_7 {R : Type} (x0 : D167) (x1 : D167) (x2 : Int) (k0 : D167 → D167 → Int → Bool → Option R) : Option R :=
if 0 ≤ x2 ∧ x2 < (x0.length : Int) then
if 0 ≤ x2 ∧ x2 < (x1.length : Int) then
k0 x0 x1 x2 (!(((x0.getD x2.toNat ((0 : Int), ((0 : Int), ((0 : Int), ())))).1 == (x1.getD x2.toNat ((0 : Int), ((0 : Int), ((0 : Int), ())))).1) && (((x0.getD x2.toNat ((0 : Int), ((0 : Int), ((0 : Int), ())))).2.1 == (x1.getD x2.toNat ((0 : Int), ((0 : Int), ((0 : Int), ())))).2.1) && (((x0.getD x2.toNat ((0 : Int), ((0 : Int), ((0 : Int), ())))).2.2.1 == (x1.getD x2.toNat ((0 : Int), ((0 : Int), ((0 : Int), ())))).2.2.1) && true))))
else none
else none
theorem ng14_7 {R R2 : Type} (x0 : D167) (x1 : D167) (x2 : Int) (k0 : D167 → D167 → Int → Bool → Option R) (h : R → Option R2) : ((g14_7 x0 x1 x2 k0)).bind h = (g14_7 x0 x1 x2 (fun y0 y1 y2 y3 => (k0 y0 y1 y2 y3).bind h)) := by
  simp only [g14_7, bind_brB, bind_ite, bind_none', Option.bind_assoc]
theorem t14_7 {N : Nat} {cl : Cal} {R : Type} (K : KE R) (x0 : D167) (x1 : D167) (x2 : Int) : exec cl N c14_7 [(0, .v T167 x0), (1, .v T167 x1), (5, .v T161 x2)] K = (g14_7 x0 x1 x2 (fun y0 y1 y2 y3 => K .normal [(0, .v T167 y0), (1, .v T167 y1), (5, .v T161 y2), (25, .v .bool y3)])) := by
  kernel_rfl
def g14_8 {R : Type} (x0 : D167) (x1 : D167) (x2 : Int) (x3 : Bool) (k0 : Bool → Option R) : Option R :=
k0 false
theorem ng14_8 {R R2 : Type} (x0 : D167) (x1 : D167) (x2 : Int) (x3 : Bool) (k0 : Bool → Option R) (h : R → Option R2) : ((g14_8 x0 x1 x2 x3 k0)).bind h = (g14_8 x0 x1 x2 x3 (fun y0 => (k0 y0).bind h)) := by
  simp only [g14_8, bind_brB, bind_ite, bind_none', Option.bind_assoc]
theorem t14_8 {N : Nat} {cl : Cal} {R : Type} (K : KE R) (x0 : D167) (x1 : D167) (x2 : Int) (x3 : Bool) : exec cl N c14_8 [(0, .v T167 x0), (1, .v T167 x1), (5, .v T161 x2), (25, .v .bool x3)] K = (g14_8 x0 x1 x2 x3 (fun y0 => K .normal [(4, .v .bool y0)])) := by
  kernel_rfl
theorem kp14_4 (x0 : Bool) : keep [0, 1, 4, 5] [(4, .v .bool x0)] = [(0, .dead), (1, .dead), (4, .v .bool x0), (5, .dead)] := by kernel_rfl
theorem kp14_5 (x0 : D167) (x1 : D167) (x2 : Int) (x3 : Bool) : keep [0, 1, 4, 5] [(0, .v T167 x0), (1, .v T167 x1), (5, .v T161 x2), (25, .v .bool x3)] = [(0, .v T167 x0), (1, .v T167 x1), (4, .dead), (5, .v T161 x2)] := by kernel_rfl
theorem hb14_2 (x0 : D167) (x1 : D167) (x2 : Int) (x3 : Bool) : boolOf? (ent [(0, .v T167 x0), (1, .v T167 x1), (5, .v T161 x2), (25, .v .bool x3)] (.t 25)) = some x3 := by kernel_rfl
theorem kp14_6 (x0 : Bool) : keep [0, 1, 4, 5] [(0, .dead), (1, .dead), (4, .v .bool x0), (5, .dead)] = [(0, .dead), (1, .dead), (4, .v .bool x0), (5, .dead)] := by kernel_rfl
theorem kp14_7 (x0 : D167) (x1 : D167) (x2 : Int) : keep [0, 1, 4, 5] [(0, .v T167 x0), (1, .v T167 x1), (4, .dead), (5, .v T161 x2)] = [(0, .v T167 x0), (1, .v T167 x1), (4, .dead), (5, .v T161 x2)] := by kernel_rfl
def g14_11 {R : Type} (x0 : D167) (x1 : D167) (x2 : Int) (k0 : D167 → D167 → Int → Option R) : Option R :=
k0 x0 x1 (IntKind.i64.wrap (x2 + (1 : Int)))
theorem ng14_11 {R R2 : Type} (x0 : D167) (x1 : D167) (x2 : Int) (k0 : D167 → D167 → Int → Option R) (h : R → Option R2) : ((g14_11 x0 x1 x2 k0)).bind h = (g14_11 x0 x1 x2 (fun y0 y1 y2 => (k0 y0 y1 y2).bind h)) := by
  simp only [g14_11, bind_brB, bind_ite, bind_none', Option.bind_assoc]
theorem t14_11 {N : Nat} {cl : Cal} {R : Type} (K : KE R) (x0 : D167) (x1 : D167) (x2 : Int) : exec cl N c14_11 [(0, .v T167 x0), (1, .v T167 x1), (4, .dead), (5, .v T161 x2)] K = (g14_11 x0 x1 x2 (fun y0 y1 y2 => K .normal [(0, .v T167 y0), (1, .v T167 y1), (5, .v T161 y2)])) := by
  kernel_rfl
def g14_12 {R : Type} (x0 : D167) (x1 : D167) (x2 : Int) (k0 : Bool → Option R) (k1 : D167 → D167 → Int → Option R) (k2 : D167 → D167 → Int → Option R) : Option R :=
(g14_5 x0 x1 x2 (fun y0 y1 y2 y3 => brB y3 ((fun y0 y1 y2 => (g14_7 y0 y1 y2 (fun y0 y1 y2 y3 => brB y3 (g14_8 y0 y1 y2 y3 (fun y0 => ((fun y0 => (k0 y0)) y0))) (g14_11 y0 y1 y2 k1)))) y0 y1 y2) (k2 y0 y1 y2)))
theorem ng14_12 {R R2 : Type} (x0 : D167) (x1 : D167) (x2 : Int) (k0 : Bool → Option R) (k1 : D167 → D167 → Int → Option R) (k2 : D167 → D167 → Int → Option R) (h : R → Option R2) : ((g14_12 x0 x1 x2 k0 k1 k2)).bind h = (g14_12 x0 x1 x2 (fun y0 => (k0 y0).bind h) (fun y0 y1 y2 => (k1 y0 y1 y2).bind h) (fun y0 y1 y2 => (k2 y0 y1 y2).bind h)) := by
  simp only [g14_12, ng14_11, ng14_5, ng14_7, ng14_8, bind_brB, bind_ite, bind_none', Option.bind_assoc]
theorem t14_12 {N : Nat} {cl : Cal} {R : Type} (K : KE R) (x0 : D167) (x1 : D167) (x2 : Int) : exec cl N c14_12 [(0, .v T167 x0), (1, .v T167 x1), (5, .v T161 x2)] K = (g14_12 x0 x1 x2 (fun y0 => K .ret [(0, .dead), (1, .dead), (4, .v .bool y0), (5, .dead)]) (fun y0 y1 y2 => K .normal [(0, .v T167 y0), (1, .v T167 y1), (5, .v T161 y2)]) (fun y0 y1 y2 => K (.exit 0) [(0, .v T167 y0), (1, .v T167 y1), (5, .v T161 y2)])) := by
  simp only [c14_12, exec_seq, seqK_normal, seqK_exit, seqK_ret, t14_5, c14_6, exec_out, exec_cond', hb14_1, Option.bind_some, brB_true, brB_false, exec_skip, exec_exit, kp14_3, c14_10, exec_block, t14_7, c14_9, hb14_2, t14_8, exec_ret, kp14_4, kp14_5, blockK_normal, blockK_ret, blockK_eq, kp14_6, kp14_7, t14_11]
  rfl

def l14_13 {R : Type} (k0 : Bool → Option R) (k1 : D167 → D167 → Int → Option R) : Nat → D167 → D167 → Int → Option R
  | 0, _, _, _ => none
  | m + 1, x0, x1, x2 => (g14_12 x0 x1 x2 k0 (fun y0 y1 y2 => l14_13 k0 k1 m y0 y1 y2) k1)
theorem nl14_13 {R R2 : Type} (k0 : Bool → Option R) (k1 : D167 → D167 → Int → Option R) (h : R → Option R2) : ∀ (m : Nat) (x0 : D167) (x1 : D167) (x2 : Int), (l14_13 k0 k1 m x0 x1 x2).bind h = l14_13 (fun y0 => (k0 y0).bind h) (fun y0 y1 y2 => (k1 y0 y1 y2).bind h) m x0 x1 x2 := by
  intro m
  induction m with
  | zero => intros; rfl
  | succ m ih =>
    intro x0 x1 x2
    simp only [l14_13, ng14_12, bind_brB, bind_ite, bind_none', ih]
theorem lt14_13 {N : Nat} {cl : Cal} {R : Type} (K : KE R) : ∀ (m : Nat) (x0 : D167) (x1 : D167) (x2 : Int), iter [0, 1, 5] (fun env K => exec cl N c14_12 env K) K m [(0, .v T167 x0), (1, .v T167 x1), (5, .v T161 x2)] = l14_13 (fun y0 => K .ret [(0, .dead), (1, .dead), (4, .v .bool y0), (5, .dead)]) (fun y0 y1 y2 => K (.exit 0) [(0, .v T167 y0), (1, .v T167 y1), (5, .v T161 y2)]) m x0 x1 x2 := by
  intro m
  induction m with
  | zero => intros; rfl
  | succ m ih =>
    intro x0 x1 x2
    simp only [iter_succ, t14_12, loopK_normal, loopK_exit, loopK_ret, kp14_2, ih]
    rfl

theorem kp14_8 (x0 : Bool) : keep [4] [(0, .dead), (1, .dead), (4, .v .bool x0), (5, .dead)] = [(4, .v .bool x0)] := by kernel_rfl
theorem kp14_9 (x0 : D167) (x1 : D167) (x2 : Int) : keep [4] [(0, .v T167 x0), (1, .v T167 x1), (5, .v T161 x2)] = [(4, .dead)] := by kernel_rfl
def g14_13 {R : Type} (N : Nat) (x0 : D167) (x1 : D167) (x2 : Int) (k0 : Bool → Option R) (k1 : Option R) : Option R :=
l14_13 (fun y0 => k0 y0) (fun y0 y1 y2 => k1) N x0 x1 x2
theorem ng14_13 {R R2 : Type} (N : Nat) (x0 : D167) (x1 : D167) (x2 : Int) (k0 : Bool → Option R) (k1 : Option R) (h : R → Option R2) : ((g14_13 N x0 x1 x2 k0 k1)).bind h = (g14_13 N x0 x1 x2 (fun y0 => (k0 y0).bind h) ((k1).bind h)) := by
  simp only [g14_13, nl14_13, bind_brB, bind_ite, bind_none', Option.bind_assoc]
theorem t14_13 {N : Nat} {cl : Cal} {R : Type} (K : KE R) (x0 : D167) (x1 : D167) (x2 : Int) : exec cl N c14_13 [(0, .v T167 x0), (1, .v T167 x1), (5, .v T161 x2)] K = (g14_13 N x0 x1 x2 (fun y0 => K .ret [(4, .v .bool y0)]) (K (.exit 0) [(4, .dead)])) := by
  simp only [c14_13, exec_out, exec_loop, kp14_2, lt14_13, kp14_8, kp14_9]
  rfl

theorem kp14_10 (x0 : Bool) : keep [4] [(4, .v .bool x0)] = [(4, .v .bool x0)] := by kernel_rfl
theorem kp14_11 : keep [4] [(4, .dead)] = [(4, .dead)] := by kernel_rfl
def g14_15 {R : Type} (k0 : Bool → Option R) : Option R :=
k0 true
theorem ng14_15 {R R2 : Type} (k0 : Bool → Option R) (h : R → Option R2) : ((g14_15 k0)).bind h = (g14_15 (fun y0 => (k0 y0).bind h)) := by
  simp only [g14_15, bind_brB, bind_ite, bind_none', Option.bind_assoc]
theorem t14_15 {N : Nat} {cl : Cal} {R : Type} (K : KE R) : exec cl N c14_15 [(4, .dead)] K = (g14_15 (fun y0 => K .normal [(4, .v .bool y0)])) := by
  kernel_rfl
def g14_16 {R : Type} (N : Nat) (x0 : D167) (x1 : D167) (k0 : Bool → Option R) (k1 : Bool → Option R) : Option R :=
(g14_0 x0 x1 (fun y0 y1 => (g14_1 y0 y1 (fun y0 y1 y2 => brB y2 (g14_2 y0 y1 y2 (fun y0 => ((fun y0 => (k0 y0)) y0))) ((fun y0 y1 => (g14_4 y0 y1 (fun y0 y1 y2 => (g14_13 N y0 y1 y2 (fun y0 => (k1 y0)) (g14_15 (fun y0 => (k1 y0))))))) y0 y1)))))
theorem ng14_16 {R R2 : Type} (N : Nat) (x0 : D167) (x1 : D167) (k0 : Bool → Option R) (k1 : Bool → Option R) (h : R → Option R2) : ((g14_16 N x0 x1 k0 k1)).bind h = (g14_16 N x0 x1 (fun y0 => (k0 y0).bind h) (fun y0 => (k1 y0).bind h)) := by
  simp only [g14_16, ng14_0, ng14_1, ng14_13, ng14_15, ng14_2, ng14_4, bind_brB, bind_ite, bind_none', Option.bind_assoc]
theorem t14_16 {N : Nat} {cl : Cal} {R : Type} (K : KE R) (x0 : D167) (x1 : D167) : exec cl N c14_16 [(0, .v T167 x0), (1, .v T167 x1)] K = (g14_16 N x0 x1 (fun y0 => K .ret [(0, .dead), (1, .dead), (4, .v .bool y0)]) (fun y0 => K .ret [(4, .v .bool y0)])) := by
  simp only [c14_16, exec_seq, seqK_normal, seqK_exit, seqK_ret, t14_0, t14_1, c14_3, exec_out, exec_cond', hb14_0, Option.bind_some, brB_true, brB_false, t14_2, exec_ret, exec_skip, kp14_0, kp14_1, t14_4, c14_14, exec_block, t14_13, blockK_normal, blockK_ret, blockK_eq, kp14_10, kp14_11, t14_15]
  rfl

theorem rk14_0 (y0 : Bool) : retK d14 .ret [(0, .dead), (1, .dead), (4, .v .bool y0)] = some [.v .bool y0] := by kernel_rfl
theorem rk14_1 (y0 : Bool) : retK d14 .ret [(4, .v .bool y0)] = some [.v .bool y0] := by kernel_rfl
def g14 {R : Type} (N : Nat) (x0 : D167) (x1 : D167) (k : Bool → Option R) : Option R :=
(g14_16 N x0 x1 (fun y0 => k y0) (fun y0 => k y0))
theorem gen14 {N : Nat} {cl : Cal} (x0 : D167) (x1 : D167) : exec cl N c14 (params 0 [.v T167 x0, .v T167 x1]) (retK d14) = g14 N x0 x1 (fun (r0 : Bool) => some [.v .bool r0]) := by
  have e0 : params 0 [.v T167 x0, .v T167 x1] = [(0, .v T167 x0), (1, .v T167 x1)] := by kernel_rfl
  simp only [c14, e0, t14_16, rk14_0, rk14_1]
  rfl

def ctr14 (S : D167 → D167 → Option (Bool)) : Ctr := { A := D167 × D167 × Unit, B := Bool, f := 14, enc := fun a => [.v T167 a.1, .v T167 a.2.1], dec := (decC (decV T167) (decC (decV T167) dec0)), S := fun a => S a.1 a.2.1, ent := fun b => [.v .bool b], ok := (decV_cons (T := T167) (decV_cons (T := T167) (fun es b h => dec0_some h))) }
def S14 (N : Nat) (x0 : D167) (x1 : D167) : Option (Bool) := g14 N x0 x1 (fun (r0 : Bool) => some (r0))
theorem ng14 {R R2 : Type} (N : Nat) (x0 : D167) (x1 : D167) (k : Bool → Option R) (h : R → Option R2) : (g14 N x0 x1 k).bind h = g14 N x0 x1 (fun (r0 : Bool) => (k r0).bind h) := by
  simp only [g14, ng14_16]
-- anceps/ancepslaw16.awake
def g11_0 {R : Type} (k0 : Option R) : Option R :=
k0
theorem ng11_0 {R R2 : Type} (k0 : Option R) (h : R → Option R2) : ((g11_0 k0)).bind h = (g11_0 ((k0).bind h)) := by
  simp only [g11_0, bind_brB, bind_ite, bind_none', Option.bind_assoc]
theorem t11_0 {N : Nat} {cl : Cal} {R : Type} (K : KE R) : exec cl N c11_0 [] K = (g11_0 (K .normal [])) := by
  kernel_rfl
def g11_1 {R : Type} (S12 : Int → Int → Option D1610) (k0 : D167 → Int → Option R) : Option R :=
(S12 (1 : Int) (2 : Int)).bind fun r114 =>
k0 r114.1 r114.2
theorem ng11_1 {R R2 : Type} (S12 : Int → Int → Option D1610) (k0 : D167 → Int → Option R) (h : R → Option R2) : ((g11_1 S12 k0)).bind h = (g11_1 S12 (fun y0 y1 => (k0 y0 y1).bind h)) := by
  simp only [g11_1, bind_brB, bind_ite, bind_none', Option.bind_assoc]
theorem t11_1 {N : Nat} {cl : Cal} (S12 : Int → Int → Option D1610) (h12 : (ctr12 S12).holds cl) {R : Type} (K : KE R) : exec cl N c11_1 [] K = (g11_1 S12 (fun y0 y1 => K .normal [(1, .own true 33 T166 .no y0), (2, .v T161 y1)])) := by
  rw [← put_eq h12]
  kernel_rfl
def g11_2 {R : Type} (S12 : Int → Int → Option D1610) (x0 : D167) (x1 : Int) (k0 : D167 → Int → D167 → Int → Option R) : Option R :=
(S12 (2 : Int) (1 : Int)).bind fun r115 =>
k0 x0 x1 r115.1 r115.2
theorem ng11_2 {R R2 : Type} (S12 : Int → Int → Option D1610) (x0 : D167) (x1 : Int) (k0 : D167 → Int → D167 → Int → Option R) (h : R → Option R2) : ((g11_2 S12 x0 x1 k0)).bind h = (g11_2 S12 x0 x1 (fun y0 y1 y2 y3 => (k0 y0 y1 y2 y3).bind h)) := by
  simp only [g11_2, bind_brB, bind_ite, bind_none', Option.bind_assoc]
theorem t11_2 {N : Nat} {cl : Cal} (S12 : Int → Int → Option D1610) (h12 : (ctr12 S12).holds cl) {R : Type} (K : KE R) (x0 : D167) (x1 : Int) : exec cl N c11_2 [(1, .own true 33 T166 .no x0), (2, .v T161 x1)] K = (g11_2 S12 x0 x1 (fun y0 y1 y2 y3 => K .normal [(1, .own true 33 T166 .no y0), (2, .v T161 y1), (3, .own true 33 T166 .no y2), (4, .v T161 y3)])) := by
  rw [← put_eq h12]
  kernel_rfl
def g11_3 {R : Type} (S15 : Int → Bool → Option D1610) (x0 : D167) (x1 : Int) (x2 : D167) (x3 : Int) (k0 : D167 → Int → D167 → Int → D167 → Int → Option R) : Option R :=
(S15 (1 : Int) false).bind fun r116 =>
k0 x0 x1 x2 x3 r116.1 r116.2
theorem ng11_3 {R R2 : Type} (S15 : Int → Bool → Option D1610) (x0 : D167) (x1 : Int) (x2 : D167) (x3 : Int) (k0 : D167 → Int → D167 → Int → D167 → Int → Option R) (h : R → Option R2) : ((g11_3 S15 x0 x1 x2 x3 k0)).bind h = (g11_3 S15 x0 x1 x2 x3 (fun y0 y1 y2 y3 y4 y5 => (k0 y0 y1 y2 y3 y4 y5).bind h)) := by
  simp only [g11_3, bind_brB, bind_ite, bind_none', Option.bind_assoc]
theorem t11_3 {N : Nat} {cl : Cal} (S15 : Int → Bool → Option D1610) (h15 : (ctr15 S15).holds cl) {R : Type} (K : KE R) (x0 : D167) (x1 : Int) (x2 : D167) (x3 : Int) : exec cl N c11_3 [(1, .own true 33 T166 .no x0), (2, .v T161 x1), (3, .own true 33 T166 .no x2), (4, .v T161 x3)] K = (g11_3 S15 x0 x1 x2 x3 (fun y0 y1 y2 y3 y4 y5 => K .normal [(1, .own true 33 T166 .no y0), (2, .v T161 y1), (3, .own true 33 T166 .no y2), (4, .v T161 y3), (5, .own true 33 T166 .no y4), (6, .v T161 y5)])) := by
  rw [← put_eq h15]
  kernel_rfl
def g11_4 {R : Type} (S14 : D167 → D167 → Option (Bool)) (x0 : D167) (x1 : Int) (x2 : D167) (x3 : Int) (x4 : D167) (x5 : Int) (k0 : Bool → Option R) : Option R :=
brB (x1 == (0 : Int)) (brB (x3 == (0 : Int)) (brB (x5 == (0 : Int)) ((S14 x0 [((1 : Int), (1 : Int), (0 : Int), ()), ((2 : Int), (5 : Int), (1 : Int), ())]).bind fun r122 =>
brB r122 ((S14 x2 [((2 : Int), (2 : Int), (0 : Int), ()), ((1 : Int), (7 : Int), (6 : Int), ())]).bind fun r125 =>
brB r125 ((S14 x4 [((1 : Int), (1 : Int), (0 : Int), ()), ((2 : Int), (6 : Int), (3 : Int), ())]).bind fun r128 =>
k0 r128) (k0 false)) (k0 false)) (k0 false)) (k0 false)) (k0 false)
theorem ng11_4 {R R2 : Type} (S14 : D167 → D167 → Option (Bool)) (x0 : D167) (x1 : Int) (x2 : D167) (x3 : Int) (x4 : D167) (x5 : Int) (k0 : Bool → Option R) (h : R → Option R2) : ((g11_4 S14 x0 x1 x2 x3 x4 x5 k0)).bind h = (g11_4 S14 x0 x1 x2 x3 x4 x5 (fun y0 => (k0 y0).bind h)) := by
  simp only [g11_4, bind_brB, bind_ite, bind_none', Option.bind_assoc]
theorem t11_4 {N : Nat} {cl : Cal} (S14 : D167 → D167 → Option (Bool)) (h14 : (ctr14 S14).holds cl) {R : Type} (K : KE R) (x0 : D167) (x1 : Int) (x2 : D167) (x3 : Int) (x4 : D167) (x5 : Int) : exec cl N c11_4 [(1, .own true 33 T166 .no x0), (2, .v T161 x1), (3, .own true 33 T166 .no x2), (4, .v T161 x3), (5, .own true 33 T166 .no x4), (6, .v T161 x5)] K = (g11_4 S14 x0 x1 x2 x3 x4 x5 (fun y0 => K .normal [(0, .v .bool y0)])) := by
  rw [← put_eq h14]
  kernel_rfl
def g11_5 {R : Type} (S12 : Int → Int → Option D1610) (S14 : D167 → D167 → Option (Bool)) (S15 : Int → Bool → Option D1610) (k0 : Bool → Option R) : Option R :=
(g11_0 (g11_1 S12 (fun y0 y1 => (g11_2 S12 y0 y1 (fun y0 y1 y2 y3 => (g11_3 S15 y0 y1 y2 y3 (fun y0 y1 y2 y3 y4 y5 => (g11_4 S14 y0 y1 y2 y3 y4 y5 (fun y0 => (k0 y0))))))))))
theorem ng11_5 {R R2 : Type} (S12 : Int → Int → Option D1610) (S14 : D167 → D167 → Option (Bool)) (S15 : Int → Bool → Option D1610) (k0 : Bool → Option R) (h : R → Option R2) : ((g11_5 S12 S14 S15 k0)).bind h = (g11_5 S12 S14 S15 (fun y0 => (k0 y0).bind h)) := by
  simp only [g11_5, ng11_0, ng11_1, ng11_2, ng11_3, ng11_4, bind_brB, bind_ite, bind_none', Option.bind_assoc]
theorem t11_5 {N : Nat} {cl : Cal} (S12 : Int → Int → Option D1610) (S14 : D167 → D167 → Option (Bool)) (S15 : Int → Bool → Option D1610) (h12 : (ctr12 S12).holds cl) (h14 : (ctr14 S14).holds cl) (h15 : (ctr15 S15).holds cl) {R : Type} (K : KE R) : exec cl N c11_5 [] K = (g11_5 S12 S14 S15 (fun y0 => K .ret [(0, .v .bool y0)])) := by
  simp only [c11_5, exec_seq, seqK_normal, seqK_exit, seqK_ret, t11_0, t11_1 S12 h12, t11_2 S12 h12, t11_3 S15 h15, t11_4 S14 h14, exec_ret]
  rfl

theorem rk11_0 (y0 : Bool) : retK d11 .ret [(0, .v .bool y0)] = some [.v .bool y0] := by kernel_rfl
def g11 {R : Type} (S12 : Int → Int → Option D1610) (S14 : D167 → D167 → Option (Bool)) (S15 : Int → Bool → Option D1610) (k : Bool → Option R) : Option R :=
(g11_5 S12 S14 S15 (fun y0 => k y0))
theorem gen11 {N : Nat} {cl : Cal} (S12 : Int → Int → Option D1610) (S14 : D167 → D167 → Option (Bool)) (S15 : Int → Bool → Option D1610) (h12 : (ctr12 S12).holds cl) (h14 : (ctr14 S14).holds cl) (h15 : (ctr15 S15).holds cl) : exec cl N c11 (params 0 []) (retK d11) = g11 S12 S14 S15 (fun (r0 : Bool) => some [.v .bool r0]) := by
  have e0 : params 0 [] = [] := by kernel_rfl
  simp only [c11, e0, t11_5 S12 S14 S15 h12 h14 h15, rk11_0]
  rfl

def ctr11 (S : Option (Bool)) : Ctr := { A := Unit, B := Bool, f := 11, enc := fun a => [], dec := dec0, S := fun a => S, ent := fun b => [.v .bool b], ok := (fun es b h => dec0_some h) }
def S11 (N : Nat) : Option (Bool) := g11 (S12 N) (S14 N) (S15 N) (fun (r0 : Bool) => some (r0))
theorem ng11 {R R2 : Type} (S12 : Int → Int → Option D1610) (S14 : D167 → D167 → Option (Bool)) (S15 : Int → Bool → Option D1610) (k : Bool → Option R) (h : R → Option R2) : (g11 S12 S14 S15 k).bind h = g11 S12 S14 S15 (fun (r0 : Bool) => (k r0).bind h) := by
  simp only [g11, ng11_5]
-- anceps/ancepslaw16.WeightOnce
def g5_0 {R : Type} (x0 : Int) (x1 : Int) (x2 : Bool) (k0 : Int → Int → Bool → Option R) : Option R :=
k0 x0 x1 x2
theorem ng5_0 {R R2 : Type} (x0 : Int) (x1 : Int) (x2 : Bool) (k0 : Int → Int → Bool → Option R) (h : R → Option R2) : ((g5_0 x0 x1 x2 k0)).bind h = (g5_0 x0 x1 x2 (fun y0 y1 y2 => (k0 y0 y1 y2).bind h)) := by
  simp only [g5_0, bind_brB, bind_ite, bind_none', Option.bind_assoc]
theorem t5_0 {N : Nat} {cl : Cal} {R : Type} (K : KE R) (x0 : Int) (x1 : Int) (x2 : Bool) : exec cl N c5_0 [(0, .v T160 x0), (1, .v T160 x1), (2, .v .bool x2)] K = (g5_0 x0 x1 x2 (fun y0 y1 y2 => K .normal [(0, .v T160 y0), (1, .v T160 y1), (2, .v .bool y2)])) := by
  kernel_rfl
def g5_1 {R : Type} (S11 : Option (Bool)) (x0 : Int) (x1 : Int) (x2 : Bool) (k0 : Int → Int → Bool → Bool → Option R) : Option R :=
(S11).bind fun r153 =>
k0 x0 x1 x2 (!r153)
theorem ng5_1 {R R2 : Type} (S11 : Option (Bool)) (x0 : Int) (x1 : Int) (x2 : Bool) (k0 : Int → Int → Bool → Bool → Option R) (h : R → Option R2) : ((g5_1 S11 x0 x1 x2 k0)).bind h = (g5_1 S11 x0 x1 x2 (fun y0 y1 y2 y3 => (k0 y0 y1 y2 y3).bind h)) := by
  simp only [g5_1, bind_brB, bind_ite, bind_none', Option.bind_assoc]
theorem t5_1 {N : Nat} {cl : Cal} (S11 : Option (Bool)) (h11 : (ctr11 S11).holds cl) {R : Type} (K : KE R) (x0 : Int) (x1 : Int) (x2 : Bool) : exec cl N c5_1 [(0, .v T160 x0), (1, .v T160 x1), (2, .v .bool x2)] K = (g5_1 S11 x0 x1 x2 (fun y0 y1 y2 y3 => K .normal [(0, .v T160 y0), (1, .v T160 y1), (2, .v .bool y2), (16, .v .bool y3)])) := by
  rw [← put_eq h11]
  kernel_rfl
def g5_2 {R : Type} (x0 : Int) (x1 : Int) (x2 : Bool) (x3 : Bool) (k0 : Bool → Option R) : Option R :=
k0 false
theorem ng5_2 {R R2 : Type} (x0 : Int) (x1 : Int) (x2 : Bool) (x3 : Bool) (k0 : Bool → Option R) (h : R → Option R2) : ((g5_2 x0 x1 x2 x3 k0)).bind h = (g5_2 x0 x1 x2 x3 (fun y0 => (k0 y0).bind h)) := by
  simp only [g5_2, bind_brB, bind_ite, bind_none', Option.bind_assoc]
theorem t5_2 {N : Nat} {cl : Cal} {R : Type} (K : KE R) (x0 : Int) (x1 : Int) (x2 : Bool) (x3 : Bool) : exec cl N c5_2 [(0, .v T160 x0), (1, .v T160 x1), (2, .v .bool x2), (16, .v .bool x3)] K = (g5_2 x0 x1 x2 x3 (fun y0 => K .normal [(6, .v .bool y0)])) := by
  kernel_rfl
theorem kp5_0 (x0 : Bool) : keep [0, 1, 2, 6] [(6, .v .bool x0)] = [(0, .dead), (1, .dead), (2, .dead), (6, .v .bool x0)] := by kernel_rfl
theorem kp5_1 (x0 : Int) (x1 : Int) (x2 : Bool) (x3 : Bool) : keep [0, 1, 2, 6] [(0, .v T160 x0), (1, .v T160 x1), (2, .v .bool x2), (16, .v .bool x3)] = [(0, .v T160 x0), (1, .v T160 x1), (2, .v .bool x2), (6, .dead)] := by kernel_rfl
theorem hb5_0 (x0 : Int) (x1 : Int) (x2 : Bool) (x3 : Bool) : boolOf? (ent [(0, .v T160 x0), (1, .v T160 x1), (2, .v .bool x2), (16, .v .bool x3)] (.t 16)) = some x3 := by kernel_rfl
def g5_4 {R : Type} (S12 : Int → Int → Option D1610) (x0 : Int) (x1 : Int) (x2 : Bool) (k0 : Int → Bool → D167 → Int → Option R) : Option R :=
(S12 (IntKind.i64.wrap ((1 : Int) + (IntKind.i64.wrap (Int.tmod x0 (3 : Int))))) (IntKind.i64.wrap ((1 : Int) + (IntKind.i64.wrap (Int.tmod x1 (4 : Int)))))).bind fun r160 =>
k0 x0 x2 r160.1 r160.2
theorem ng5_4 {R R2 : Type} (S12 : Int → Int → Option D1610) (x0 : Int) (x1 : Int) (x2 : Bool) (k0 : Int → Bool → D167 → Int → Option R) (h : R → Option R2) : ((g5_4 S12 x0 x1 x2 k0)).bind h = (g5_4 S12 x0 x1 x2 (fun y0 y1 y2 y3 => (k0 y0 y1 y2 y3).bind h)) := by
  simp only [g5_4, bind_brB, bind_ite, bind_none', Option.bind_assoc]
theorem t5_4 {N : Nat} {cl : Cal} (S12 : Int → Int → Option D1610) (h12 : (ctr12 S12).holds cl) {R : Type} (K : KE R) (x0 : Int) (x1 : Int) (x2 : Bool) : exec cl N c5_4 [(0, .v T160 x0), (1, .v T160 x1), (2, .v .bool x2), (6, .dead)] K = (g5_4 S12 x0 x1 x2 (fun y0 y1 y2 y3 => K .normal [(0, .v T160 y0), (2, .v .bool y1), (7, .own true 33 T166 .no y2), (8, .v T161 y3)])) := by
  rw [← put_eq h12]
  kernel_rfl
def g5_5 {R : Type} (S15 : Int → Bool → Option D1610) (x0 : Int) (x1 : Bool) (x2 : D167) (x3 : Int) (k0 : D167 → Int → D167 → Int → Option R) : Option R :=
(S15 (IntKind.i64.wrap ((1 : Int) + (IntKind.i64.wrap (Int.tmod x0 (3 : Int))))) x1).bind fun r164 =>
k0 x2 x3 r164.1 r164.2
theorem ng5_5 {R R2 : Type} (S15 : Int → Bool → Option D1610) (x0 : Int) (x1 : Bool) (x2 : D167) (x3 : Int) (k0 : D167 → Int → D167 → Int → Option R) (h : R → Option R2) : ((g5_5 S15 x0 x1 x2 x3 k0)).bind h = (g5_5 S15 x0 x1 x2 x3 (fun y0 y1 y2 y3 => (k0 y0 y1 y2 y3).bind h)) := by
  simp only [g5_5, bind_brB, bind_ite, bind_none', Option.bind_assoc]
theorem t5_5 {N : Nat} {cl : Cal} (S15 : Int → Bool → Option D1610) (h15 : (ctr15 S15).holds cl) {R : Type} (K : KE R) (x0 : Int) (x1 : Bool) (x2 : D167) (x3 : Int) : exec cl N c5_5 [(0, .v T160 x0), (2, .v .bool x1), (7, .own true 33 T166 .no x2), (8, .v T161 x3)] K = (g5_5 S15 x0 x1 x2 x3 (fun y0 y1 y2 y3 => K .normal [(7, .own true 33 T166 .no y0), (8, .v T161 y1), (9, .own true 33 T166 .no y2), (10, .v T161 y3)])) := by
  rw [← put_eq h15]
  kernel_rfl
def g5_6 {R : Type} (x0 : D167) (x1 : Int) (x2 : D167) (x3 : Int) (k0 : D167 → D167 → Bool → Option R) : Option R :=
brB (x1 != (0 : Int)) (k0 x0 x2 true) (k0 x0 x2 (x3 != (0 : Int)))
theorem ng5_6 {R R2 : Type} (x0 : D167) (x1 : Int) (x2 : D167) (x3 : Int) (k0 : D167 → D167 → Bool → Option R) (h : R → Option R2) : ((g5_6 x0 x1 x2 x3 k0)).bind h = (g5_6 x0 x1 x2 x3 (fun y0 y1 y2 => (k0 y0 y1 y2).bind h)) := by
  simp only [g5_6, bind_brB, bind_ite, bind_none', Option.bind_assoc]
theorem t5_6 {N : Nat} {cl : Cal} {R : Type} (K : KE R) (x0 : D167) (x1 : Int) (x2 : D167) (x3 : Int) : exec cl N c5_6 [(7, .own true 33 T166 .no x0), (8, .v T161 x1), (9, .own true 33 T166 .no x2), (10, .v T161 x3)] K = (g5_6 x0 x1 x2 x3 (fun y0 y1 y2 => K .normal [(7, .own true 33 T166 .no y0), (9, .own true 33 T166 .no y1), (43, .v .bool y2)])) := by
  kernel_rfl
def g5_7 {R : Type} (x0 : D167) (x1 : D167) (x2 : Bool) (k0 : Bool → Option R) : Option R :=
k0 false
theorem ng5_7 {R R2 : Type} (x0 : D167) (x1 : D167) (x2 : Bool) (k0 : Bool → Option R) (h : R → Option R2) : ((g5_7 x0 x1 x2 k0)).bind h = (g5_7 x0 x1 x2 (fun y0 => (k0 y0).bind h)) := by
  simp only [g5_7, bind_brB, bind_ite, bind_none', Option.bind_assoc]
theorem t5_7 {N : Nat} {cl : Cal} {R : Type} (K : KE R) (x0 : D167) (x1 : D167) (x2 : Bool) : exec cl N c5_7 [(7, .own true 33 T166 .no x0), (9, .own true 33 T166 .no x1), (43, .v .bool x2)] K = (g5_7 x0 x1 x2 (fun y0 => K .normal [(6, .v .bool y0)])) := by
  kernel_rfl
theorem kp5_2 (x0 : Bool) : keep [6, 7, 9] [(6, .v .bool x0)] = [(6, .v .bool x0), (7, .dead), (9, .dead)] := by kernel_rfl
theorem kp5_3 (x0 : D167) (x1 : D167) (x2 : Bool) : keep [6, 7, 9] [(7, .own true 33 T166 .no x0), (9, .own true 33 T166 .no x1), (43, .v .bool x2)] = [(6, .dead), (7, .own true 33 T166 .no x0), (9, .own true 33 T166 .no x1)] := by kernel_rfl
theorem hb5_1 (x0 : D167) (x1 : D167) (x2 : Bool) : boolOf? (ent [(7, .own true 33 T166 .no x0), (9, .own true 33 T166 .no x1), (43, .v .bool x2)] (.t 43)) = some x2 := by kernel_rfl
def g5_9 {R : Type} (x0 : D167) (x1 : D167) (k0 : D169 → Int → Int → Option R) : Option R :=
k0 [x0, x1] ([x0, x1].length : Int) (0 : Int)
theorem ng5_9 {R R2 : Type} (x0 : D167) (x1 : D167) (k0 : D169 → Int → Int → Option R) (h : R → Option R2) : ((g5_9 x0 x1 k0)).bind h = (g5_9 x0 x1 (fun y0 y1 y2 => (k0 y0 y1 y2).bind h)) := by
  simp only [g5_9, bind_brB, bind_ite, bind_none', Option.bind_assoc]
theorem t5_9 {N : Nat} {cl : Cal} {R : Type} (K : KE R) (x0 : D167) (x1 : D167) : exec cl N c5_9 [(6, .dead), (7, .own true 33 T166 .no x0), (9, .own true 33 T166 .no x1)] K = (g5_9 x0 x1 (fun y0 y1 y2 => K .normal [(46, .own true 23 T167 .no y0), (47, .v T161 y1), (48, .v T161 y2)])) := by
  kernel_rfl
theorem kp5_4 (x0 : D169) (x1 : Int) (x2 : Int) : keep [46, 47, 48] [(46, .own true 23 T167 .no x0), (47, .v T161 x1), (48, .v T161 x2)] = [(46, .own true 23 T167 .no x0), (47, .v T161 x1), (48, .v T161 x2)] := by kernel_rfl
def g5_10 {R : Type} (x0 : D169) (x1 : Int) (x2 : Int) (k0 : D169 → Int → Int → Bool → Option R) : Option R :=
k0 x0 x1 x2 (decide (x2 < x1))
theorem ng5_10 {R R2 : Type} (x0 : D169) (x1 : Int) (x2 : Int) (k0 : D169 → Int → Int → Bool → Option R) (h : R → Option R2) : ((g5_10 x0 x1 x2 k0)).bind h = (g5_10 x0 x1 x2 (fun y0 y1 y2 y3 => (k0 y0 y1 y2 y3).bind h)) := by
  simp only [g5_10, bind_brB, bind_ite, bind_none', Option.bind_assoc]
theorem t5_10 {N : Nat} {cl : Cal} {R : Type} (K : KE R) (x0 : D169) (x1 : Int) (x2 : Int) : exec cl N c5_10 [(46, .own true 23 T167 .no x0), (47, .v T161 x1), (48, .v T161 x2)] K = (g5_10 x0 x1 x2 (fun y0 y1 y2 y3 => K .normal [(46, .own true 23 T167 .no y0), (47, .v T161 y1), (48, .v T161 y2), (49, .v .bool y3)])) := by
  kernel_rfl
theorem kp5_5 (x0 : D169) (x1 : Int) (x2 : Int) (x3 : Bool) : keep [46, 47, 48] [(46, .own true 23 T167 .no x0), (47, .v T161 x1), (48, .v T161 x2), (49, .v .bool x3)] = [(46, .own true 23 T167 .no x0), (47, .v T161 x1), (48, .v T161 x2)] := by kernel_rfl
theorem hb5_2 (x0 : D169) (x1 : Int) (x2 : Int) (x3 : Bool) : boolOf? (ent [(46, .own true 23 T167 .no x0), (47, .v T161 x1), (48, .v T161 x2), (49, .v .bool x3)] (.t 49)) = some x3 := by kernel_rfl
def g5_12 {R : Type} (x0 : D169) (x1 : Int) (x2 : Int) (k0 : D167 → D169 → Int → Int → Option R) : Option R :=
if 0 ≤ x2 ∧ x2 < (x0.length : Int) then
if x2.toNat < x0.length then
k0 (x0.getD x2.toNat []) x0 x1 x2
else none
else none
theorem ng5_12 {R R2 : Type} (x0 : D169) (x1 : Int) (x2 : Int) (k0 : D167 → D169 → Int → Int → Option R) (h : R → Option R2) : ((g5_12 x0 x1 x2 k0)).bind h = (g5_12 x0 x1 x2 (fun y0 y1 y2 y3 => (k0 y0 y1 y2 y3).bind h)) := by
  simp only [g5_12, bind_brB, bind_ite, bind_none', Option.bind_assoc]
theorem t5_12 {N : Nat} {cl : Cal} {R : Type} (K : KE R) (x0 : D169) (x1 : Int) (x2 : Int) : exec cl N c5_12 [(46, .own true 23 T167 .no x0), (47, .v T161 x1), (48, .v T161 x2)] K = (g5_12 x0 x1 x2 (fun y0 y1 y2 y3 => K .normal [(12, .v T167 y0), (46, .own true 23 T167 .no y1), (47, .v T161 y2), (48, .v T161 y3)])) := by
  kernel_rfl
def g5_13 {R : Type} (x0 : D167) (x1 : D169) (x2 : Int) (x3 : Int) (k0 : D167 → D169 → Int → Int → Int → Int → Option R) : Option R :=
k0 x0 x1 x2 x3 (x0.length : Int) (0 : Int)
theorem ng5_13 {R R2 : Type} (x0 : D167) (x1 : D169) (x2 : Int) (x3 : Int) (k0 : D167 → D169 → Int → Int → Int → Int → Option R) (h : R → Option R2) : ((g5_13 x0 x1 x2 x3 k0)).bind h = (g5_13 x0 x1 x2 x3 (fun y0 y1 y2 y3 y4 y5 => (k0 y0 y1 y2 y3 y4 y5).bind h)) := by
  simp only [g5_13, bind_brB, bind_ite, bind_none', Option.bind_assoc]
theorem t5_13 {N : Nat} {cl : Cal} {R : Type} (K : KE R) (x0 : D167) (x1 : D169) (x2 : Int) (x3 : Int) : exec cl N c5_13 [(12, .v T167 x0), (46, .own true 23 T167 .no x1), (47, .v T161 x2), (48, .v T161 x3)] K = (g5_13 x0 x1 x2 x3 (fun y0 y1 y2 y3 y4 y5 => K .normal [(12, .v T167 y0), (46, .own true 23 T167 .no y1), (47, .v T161 y2), (48, .v T161 y3), (53, .v T161 y4), (54, .v T161 y5)])) := by
  kernel_rfl
theorem kp5_6 (x0 : D167) (x1 : D169) (x2 : Int) (x3 : Int) (x4 : Int) (x5 : Int) : keep [12, 46, 47, 48, 53, 54] [(12, .v T167 x0), (46, .own true 23 T167 .no x1), (47, .v T161 x2), (48, .v T161 x3), (53, .v T161 x4), (54, .v T161 x5)] = [(12, .v T167 x0), (46, .own true 23 T167 .no x1), (47, .v T161 x2), (48, .v T161 x3), (53, .v T161 x4), (54, .v T161 x5)] := by kernel_rfl
def g5_14 {R : Type} (x0 : D167) (x1 : D169) (x2 : Int) (x3 : Int) (x4 : Int) (x5 : Int) (k0 : D167 → D169 → Int → Int → Int → Int → Bool → Option R) : Option R :=
k0 x0 x1 x2 x3 x4 x5 (decide (x5 < x4))
theorem ng5_14 {R R2 : Type} (x0 : D167) (x1 : D169) (x2 : Int) (x3 : Int) (x4 : Int) (x5 : Int) (k0 : D167 → D169 → Int → Int → Int → Int → Bool → Option R) (h : R → Option R2) : ((g5_14 x0 x1 x2 x3 x4 x5 k0)).bind h = (g5_14 x0 x1 x2 x3 x4 x5 (fun y0 y1 y2 y3 y4 y5 y6 => (k0 y0 y1 y2 y3 y4 y5 y6).bind h)) := by
  simp only [g5_14, bind_brB, bind_ite, bind_none', Option.bind_assoc]
theorem t5_14 {N : Nat} {cl : Cal} {R : Type} (K : KE R) (x0 : D167) (x1 : D169) (x2 : Int) (x3 : Int) (x4 : Int) (x5 : Int) : exec cl N c5_14 [(12, .v T167 x0), (46, .own true 23 T167 .no x1), (47, .v T161 x2), (48, .v T161 x3), (53, .v T161 x4), (54, .v T161 x5)] K = (g5_14 x0 x1 x2 x3 x4 x5 (fun y0 y1 y2 y3 y4 y5 y6 => K .normal [(12, .v T167 y0), (46, .own true 23 T167 .no y1), (47, .v T161 y2), (48, .v T161 y3), (53, .v T161 y4), (54, .v T161 y5), (55, .v .bool y6)])) := by
  kernel_rfl
theorem kp5_7 (x0 : D167) (x1 : D169) (x2 : Int) (x3 : Int) (x4 : Int) (x5 : Int) (x6 : Bool) : keep [12, 46, 47, 48, 53, 54] [(12, .v T167 x0), (46, .own true 23 T167 .no x1), (47, .v T161 x2), (48, .v T161 x3), (53, .v T161 x4), (54, .v T161 x5), (55, .v .bool x6)] = [(12, .v T167 x0), (46, .own true 23 T167 .no x1), (47, .v T161 x2), (48, .v T161 x3), (53, .v T161 x4), (54, .v T161 x5)] := by kernel_rfl
theorem hb5_3 (x0 : D167) (x1 : D169) (x2 : Int) (x3 : Int) (x4 : Int) (x5 : Int) (x6 : Bool) : boolOf? (ent [(12, .v T167 x0), (46, .own true 23 T167 .no x1), (47, .v T161 x2), (48, .v T161 x3), (53, .v T161 x4), (54, .v T161 x5), (55, .v .bool x6)] (.t 55)) = some x6 := by kernel_rfl
def g5_16 {R : Type} (x0 : D167) (x1 : D169) (x2 : Int) (x3 : Int) (x4 : Int) (x5 : Int) (k0 : D167 → Int → D169 → Int → Int → Int → Int → Option R) : Option R :=
k0 x0 x5 x1 x2 x3 x4 x5
theorem ng5_16 {R R2 : Type} (x0 : D167) (x1 : D169) (x2 : Int) (x3 : Int) (x4 : Int) (x5 : Int) (k0 : D167 → Int → D169 → Int → Int → Int → Int → Option R) (h : R → Option R2) : ((g5_16 x0 x1 x2 x3 x4 x5 k0)).bind h = (g5_16 x0 x1 x2 x3 x4 x5 (fun y0 y1 y2 y3 y4 y5 y6 => (k0 y0 y1 y2 y3 y4 y5 y6).bind h)) := by
  simp only [g5_16, bind_brB, bind_ite, bind_none', Option.bind_assoc]
theorem t5_16 {N : Nat} {cl : Cal} {R : Type} (K : KE R) (x0 : D167) (x1 : D169) (x2 : Int) (x3 : Int) (x4 : Int) (x5 : Int) : exec cl N c5_16 [(12, .v T167 x0), (46, .own true 23 T167 .no x1), (47, .v T161 x2), (48, .v T161 x3), (53, .v T161 x4), (54, .v T161 x5)] K = (g5_16 x0 x1 x2 x3 x4 x5 (fun y0 y1 y2 y3 y4 y5 y6 => K .normal [(12, .v T167 y0), (13, .v T161 y1), (46, .own true 23 T167 .no y2), (47, .v T161 y3), (48, .v T161 y4), (53, .v T161 y5), (54, .v T161 y6)])) := by
  kernel_rfl
def g5_17 {R : Type} (x0 : D167) (x1 : Int) (x2 : D169) (x3 : Int) (x4 : Int) (x5 : Int) (x6 : Int) (k0 : D167 → Int → D169 → Int → Int → Int → Int → Int → Int → Option R) : Option R :=
k0 x0 x1 x2 x3 x4 x5 x6 x1 (0 : Int)
theorem ng5_17 {R R2 : Type} (x0 : D167) (x1 : Int) (x2 : D169) (x3 : Int) (x4 : Int) (x5 : Int) (x6 : Int) (k0 : D167 → Int → D169 → Int → Int → Int → Int → Int → Int → Option R) (h : R → Option R2) : ((g5_17 x0 x1 x2 x3 x4 x5 x6 k0)).bind h = (g5_17 x0 x1 x2 x3 x4 x5 x6 (fun y0 y1 y2 y3 y4 y5 y6 y7 y8 => (k0 y0 y1 y2 y3 y4 y5 y6 y7 y8).bind h)) := by
  simp only [g5_17, bind_brB, bind_ite, bind_none', Option.bind_assoc]
theorem t5_17 {N : Nat} {cl : Cal} {R : Type} (K : KE R) (x0 : D167) (x1 : Int) (x2 : D169) (x3 : Int) (x4 : Int) (x5 : Int) (x6 : Int) : exec cl N c5_17 [(12, .v T167 x0), (13, .v T161 x1), (46, .own true 23 T167 .no x2), (47, .v T161 x3), (48, .v T161 x4), (53, .v T161 x5), (54, .v T161 x6)] K = (g5_17 x0 x1 x2 x3 x4 x5 x6 (fun y0 y1 y2 y3 y4 y5 y6 y7 y8 => K .normal [(12, .v T167 y0), (13, .v T161 y1), (46, .own true 23 T167 .no y2), (47, .v T161 y3), (48, .v T161 y4), (53, .v T161 y5), (54, .v T161 y6), (57, .v T161 y7), (58, .v T161 y8)])) := by
  kernel_rfl
theorem kp5_8 (x0 : D167) (x1 : Int) (x2 : D169) (x3 : Int) (x4 : Int) (x5 : Int) (x6 : Int) (x7 : Int) (x8 : Int) : keep [12, 13, 46, 47, 48, 53, 54, 57, 58] [(12, .v T167 x0), (13, .v T161 x1), (46, .own true 23 T167 .no x2), (47, .v T161 x3), (48, .v T161 x4), (53, .v T161 x5), (54, .v T161 x6), (57, .v T161 x7), (58, .v T161 x8)] = [(12, .v T167 x0), (13, .v T161 x1), (46, .own true 23 T167 .no x2), (47, .v T161 x3), (48, .v T161 x4), (53, .v T161 x5), (54, .v T161 x6), (57, .v T161 x7), (58, .v T161 x8)] := by kernel_rfl
def g5_18 {R : Type} (x0 : D167) (x1 : Int) (x2 : D169) (x3 : Int) (x4 : Int) (x5 : Int) (x6 : Int) (x7 : Int) (x8 : Int) (k0 : D167 → Int → D169 → Int → Int → Int → Int → Int → Int → Bool → Option R) : Option R :=
k0 x0 x1 x2 x3 x4 x5 x6 x7 x8 (decide (x8 < x7))
theorem ng5_18 {R R2 : Type} (x0 : D167) (x1 : Int) (x2 : D169) (x3 : Int) (x4 : Int) (x5 : Int) (x6 : Int) (x7 : Int) (x8 : Int) (k0 : D167 → Int → D169 → Int → Int → Int → Int → Int → Int → Bool → Option R) (h : R → Option R2) : ((g5_18 x0 x1 x2 x3 x4 x5 x6 x7 x8 k0)).bind h = (g5_18 x0 x1 x2 x3 x4 x5 x6 x7 x8 (fun y0 y1 y2 y3 y4 y5 y6 y7 y8 y9 => (k0 y0 y1 y2 y3 y4 y5 y6 y7 y8 y9).bind h)) := by
  simp only [g5_18, bind_brB, bind_ite, bind_none', Option.bind_assoc]
theorem t5_18 {N : Nat} {cl : Cal} {R : Type} (K : KE R) (x0 : D167) (x1 : Int) (x2 : D169) (x3 : Int) (x4 : Int) (x5 : Int) (x6 : Int) (x7 : Int) (x8 : Int) : exec cl N c5_18 [(12, .v T167 x0), (13, .v T161 x1), (46, .own true 23 T167 .no x2), (47, .v T161 x3), (48, .v T161 x4), (53, .v T161 x5), (54, .v T161 x6), (57, .v T161 x7), (58, .v T161 x8)] K = (g5_18 x0 x1 x2 x3 x4 x5 x6 x7 x8 (fun y0 y1 y2 y3 y4 y5 y6 y7 y8 y9 => K .normal [(12, .v T167 y0), (13, .v T161 y1), (46, .own true 23 T167 .no y2), (47, .v T161 y3), (48, .v T161 y4), (53, .v T161 y5), (54, .v T161 y6), (57, .v T161 y7), (58, .v T161 y8), (59, .v .bool y9)])) := by
  kernel_rfl
theorem kp5_9 (x0 : D167) (x1 : Int) (x2 : D169) (x3 : Int) (x4 : Int) (x5 : Int) (x6 : Int) (x7 : Int) (x8 : Int) (x9 : Bool) : keep [12, 13, 46, 47, 48, 53, 54, 57, 58] [(12, .v T167 x0), (13, .v T161 x1), (46, .own true 23 T167 .no x2), (47, .v T161 x3), (48, .v T161 x4), (53, .v T161 x5), (54, .v T161 x6), (57, .v T161 x7), (58, .v T161 x8), (59, .v .bool x9)] = [(12, .v T167 x0), (13, .v T161 x1), (46, .own true 23 T167 .no x2), (47, .v T161 x3), (48, .v T161 x4), (53, .v T161 x5), (54, .v T161 x6), (57, .v T161 x7), (58, .v T161 x8)] := by kernel_rfl
theorem hb5_4 (x0 : D167) (x1 : Int) (x2 : D169) (x3 : Int) (x4 : Int) (x5 : Int) (x6 : Int) (x7 : Int) (x8 : Int) (x9 : Bool) : boolOf? (ent [(12, .v T167 x0), (13, .v T161 x1), (46, .own true 23 T167 .no x2), (47, .v T161 x3), (48, .v T161 x4), (53, .v T161 x5), (54, .v T161 x6), (57, .v T161 x7), (58, .v T161 x8), (59, .v .bool x9)] (.t 59)) = some x9 := by kernel_rfl
def g5_20 {R : Type} (x0 : D167) (x1 : Int) (x2 : D169) (x3 : Int) (x4 : Int) (x5 : Int) (x6 : Int) (x7 : Int) (x8 : Int) (k0 : D167 → Int → Int → D169 → Int → Int → Int → Int → Int → Int → Option R) : Option R :=
k0 x0 x1 x8 x2 x3 x4 x5 x6 x7 x8
theorem ng5_20 {R R2 : Type} (x0 : D167) (x1 : Int) (x2 : D169) (x3 : Int) (x4 : Int) (x5 : Int) (x6 : Int) (x7 : Int) (x8 : Int) (k0 : D167 → Int → Int → D169 → Int → Int → Int → Int → Int → Int → Option R) (h : R → Option R2) : ((g5_20 x0 x1 x2 x3 x4 x5 x6 x7 x8 k0)).bind h = (g5_20 x0 x1 x2 x3 x4 x5 x6 x7 x8 (fun y0 y1 y2 y3 y4 y5 y6 y7 y8 y9 => (k0 y0 y1 y2 y3 y4 y5 y6 y7 y8 y9).bind h)) := by
  simp only [g5_20, bind_brB, bind_ite, bind_none', Option.bind_assoc]
theorem t5_20 {N : Nat} {cl : Cal} {R : Type} (K : KE R) (x0 : D167) (x1 : Int) (x2 : D169) (x3 : Int) (x4 : Int) (x5 : Int) (x6 : Int) (x7 : Int) (x8 : Int) : exec cl N c5_20 [(12, .v T167 x0), (13, .v T161 x1), (46, .own true 23 T167 .no x2), (47, .v T161 x3), (48, .v T161 x4), (53, .v T161 x5), (54, .v T161 x6), (57, .v T161 x7), (58, .v T161 x8)] K = (g5_20 x0 x1 x2 x3 x4 x5 x6 x7 x8 (fun y0 y1 y2 y3 y4 y5 y6 y7 y8 y9 => K .normal [(12, .v T167 y0), (13, .v T161 y1), (14, .v T161 y2), (46, .own true 23 T167 .no y3), (47, .v T161 y4), (48, .v T161 y5), (53, .v T161 y6), (54, .v T161 y7), (57, .v T161 y8), (58, .v T161 y9)])) := by
  kernel_rfl
def g5_21 {R : Type} (x0 : D167) (x1 : Int) (x2 : Int) (x3 : D169) (x4 : Int) (x5 : Int) (x6 : Int) (x7 : Int) (x8 : Int) (x9 : Int) (k0 : D167 → Int → D169 → Int → Int → Int → Int → Int → Int → Bool → Option R) : Option R :=
if 0 ≤ x1 ∧ x1 < (x0.length : Int) then
if 0 ≤ x2 ∧ x2 < (x0.length : Int) then
brB ((x0.getD x1.toNat ((0 : Int), ((0 : Int), ((0 : Int), ())))).1 == (x0.getD x2.toNat ((0 : Int), ((0 : Int), ((0 : Int), ())))).1) (k0 x0 x1 x3 x4 x5 x6 x7 x8 x9 true) (if 0 ≤ x2 ∧ x2 < (x0.length : Int) then
brB ((x0.getD x2.toNat ((0 : Int), ((0 : Int), ((0 : Int), ())))).2.2.1 != (0 : Int)) (if 0 ≤ x1 ∧ x1 < (x0.length : Int) then
k0 x0 x1 x3 x4 x5 x6 x7 x8 x9 ((x0.getD x1.toNat ((0 : Int), ((0 : Int), ((0 : Int), ())))).2.2.1 == (0 : Int))
else none) (k0 x0 x1 x3 x4 x5 x6 x7 x8 x9 false)
else none)
else none
else none
theorem ng5_21 {R R2 : Type} (x0 : D167) (x1 : Int) (x2 : Int) (x3 : D169) (x4 : Int) (x5 : Int) (x6 : Int) (x7 : Int) (x8 : Int) (x9 : Int) (k0 : D167 → Int → D169 → Int → Int → Int → Int → Int → Int → Bool → Option R) (h : R → Option R2) : ((g5_21 x0 x1 x2 x3 x4 x5 x6 x7 x8 x9 k0)).bind h = (g5_21 x0 x1 x2 x3 x4 x5 x6 x7 x8 x9 (fun y0 y1 y2 y3 y4 y5 y6 y7 y8 y9 => (k0 y0 y1 y2 y3 y4 y5 y6 y7 y8 y9).bind h)) := by
  simp only [g5_21, bind_brB, bind_ite, bind_none', Option.bind_assoc]
theorem t5_21 {N : Nat} {cl : Cal} {R : Type} (K : KE R) (x0 : D167) (x1 : Int) (x2 : Int) (x3 : D169) (x4 : Int) (x5 : Int) (x6 : Int) (x7 : Int) (x8 : Int) (x9 : Int) : exec cl N c5_21 [(12, .v T167 x0), (13, .v T161 x1), (14, .v T161 x2), (46, .own true 23 T167 .no x3), (47, .v T161 x4), (48, .v T161 x5), (53, .v T161 x6), (54, .v T161 x7), (57, .v T161 x8), (58, .v T161 x9)] K = (g5_21 x0 x1 x2 x3 x4 x5 x6 x7 x8 x9 (fun y0 y1 y2 y3 y4 y5 y6 y7 y8 y9 => K .normal [(12, .v T167 y0), (13, .v T161 y1), (46, .own true 23 T167 .no y2), (47, .v T161 y3), (48, .v T161 y4), (53, .v T161 y5), (54, .v T161 y6), (57, .v T161 y7), (58, .v T161 y8), (87, .v .bool y9)])) := by
  kernel_rfl
def g5_22 {R : Type} (x0 : D167) (x1 : Int) (x2 : D169) (x3 : Int) (x4 : Int) (x5 : Int) (x6 : Int) (x7 : Int) (x8 : Int) (x9 : Bool) (k0 : Bool → Option R) : Option R :=
k0 false
theorem ng5_22 {R R2 : Type} (x0 : D167) (x1 : Int) (x2 : D169) (x3 : Int) (x4 : Int) (x5 : Int) (x6 : Int) (x7 : Int) (x8 : Int) (x9 : Bool) (k0 : Bool → Option R) (h : R → Option R2) : ((g5_22 x0 x1 x2 x3 x4 x5 x6 x7 x8 x9 k0)).bind h = (g5_22 x0 x1 x2 x3 x4 x5 x6 x7 x8 x9 (fun y0 => (k0 y0).bind h)) := by
  simp only [g5_22, bind_brB, bind_ite, bind_none', Option.bind_assoc]
theorem t5_22 {N : Nat} {cl : Cal} {R : Type} (K : KE R) (x0 : D167) (x1 : Int) (x2 : D169) (x3 : Int) (x4 : Int) (x5 : Int) (x6 : Int) (x7 : Int) (x8 : Int) (x9 : Bool) : exec cl N c5_22 [(12, .v T167 x0), (13, .v T161 x1), (46, .own true 23 T167 .no x2), (47, .v T161 x3), (48, .v T161 x4), (53, .v T161 x5), (54, .v T161 x6), (57, .v T161 x7), (58, .v T161 x8), (87, .v .bool x9)] K = (g5_22 x0 x1 x2 x3 x4 x5 x6 x7 x8 x9 (fun y0 => K .normal [(6, .v .bool y0)])) := by
  kernel_rfl
theorem kp5_10 (x0 : Bool) : keep [6, 12, 13, 46, 47, 48, 53, 54, 57, 58] [(6, .v .bool x0)] = [(6, .v .bool x0), (12, .dead), (13, .dead), (46, .dead), (47, .dead), (48, .dead), (53, .dead), (54, .dead), (57, .dead), (58, .dead)] := by kernel_rfl
theorem kp5_11 (x0 : D167) (x1 : Int) (x2 : D169) (x3 : Int) (x4 : Int) (x5 : Int) (x6 : Int) (x7 : Int) (x8 : Int) (x9 : Bool) : keep [6, 12, 13, 46, 47, 48, 53, 54, 57, 58] [(12, .v T167 x0), (13, .v T161 x1), (46, .own true 23 T167 .no x2), (47, .v T161 x3), (48, .v T161 x4), (53, .v T161 x5), (54, .v T161 x6), (57, .v T161 x7), (58, .v T161 x8), (87, .v .bool x9)] = [(6, .dead), (12, .v T167 x0), (13, .v T161 x1), (46, .own true 23 T167 .no x2), (47, .v T161 x3), (48, .v T161 x4), (53, .v T161 x5), (54, .v T161 x6), (57, .v T161 x7), (58, .v T161 x8)] := by kernel_rfl
theorem hb5_5 (x0 : D167) (x1 : Int) (x2 : D169) (x3 : Int) (x4 : Int) (x5 : Int) (x6 : Int) (x7 : Int) (x8 : Int) (x9 : Bool) : boolOf? (ent [(12, .v T167 x0), (13, .v T161 x1), (46, .own true 23 T167 .no x2), (47, .v T161 x3), (48, .v T161 x4), (53, .v T161 x5), (54, .v T161 x6), (57, .v T161 x7), (58, .v T161 x8), (87, .v .bool x9)] (.t 87)) = some x9 := by kernel_rfl
theorem kp5_12 (x0 : Bool) : keep [6, 12, 13, 46, 47, 48, 53, 54, 57, 58] [(6, .v .bool x0), (12, .dead), (13, .dead), (46, .dead), (47, .dead), (48, .dead), (53, .dead), (54, .dead), (57, .dead), (58, .dead)] = [(6, .v .bool x0), (12, .dead), (13, .dead), (46, .dead), (47, .dead), (48, .dead), (53, .dead), (54, .dead), (57, .dead), (58, .dead)] := by kernel_rfl
theorem kp5_13 (x0 : D167) (x1 : Int) (x2 : D169) (x3 : Int) (x4 : Int) (x5 : Int) (x6 : Int) (x7 : Int) (x8 : Int) : keep [6, 12, 13, 46, 47, 48, 53, 54, 57, 58] [(6, .dead), (12, .v T167 x0), (13, .v T161 x1), (46, .own true 23 T167 .no x2), (47, .v T161 x3), (48, .v T161 x4), (53, .v T161 x5), (54, .v T161 x6), (57, .v T161 x7), (58, .v T161 x8)] = [(6, .dead), (12, .v T167 x0), (13, .v T161 x1), (46, .own true 23 T167 .no x2), (47, .v T161 x3), (48, .v T161 x4), (53, .v T161 x5), (54, .v T161 x6), (57, .v T161 x7), (58, .v T161 x8)] := by kernel_rfl
def g5_25 {R : Type} (x0 : D167) (x1 : Int) (x2 : D169) (x3 : Int) (x4 : Int) (x5 : Int) (x6 : Int) (x7 : Int) (x8 : Int) (k0 : D167 → Int → D169 → Int → Int → Int → Int → Int → Int → Option R) : Option R :=
k0 x0 x1 x2 x3 x4 x5 x6 x7 (IntKind.i64.wrap (x8 + (1 : Int)))
theorem ng5_25 {R R2 : Type} (x0 : D167) (x1 : Int) (x2 : D169) (x3 : Int) (x4 : Int) (x5 : Int) (x6 : Int) (x7 : Int) (x8 : Int) (k0 : D167 → Int → D169 → Int → Int → Int → Int → Int → Int → Option R) (h : R → Option R2) : ((g5_25 x0 x1 x2 x3 x4 x5 x6 x7 x8 k0)).bind h = (g5_25 x0 x1 x2 x3 x4 x5 x6 x7 x8 (fun y0 y1 y2 y3 y4 y5 y6 y7 y8 => (k0 y0 y1 y2 y3 y4 y5 y6 y7 y8).bind h)) := by
  simp only [g5_25, bind_brB, bind_ite, bind_none', Option.bind_assoc]
theorem t5_25 {N : Nat} {cl : Cal} {R : Type} (K : KE R) (x0 : D167) (x1 : Int) (x2 : D169) (x3 : Int) (x4 : Int) (x5 : Int) (x6 : Int) (x7 : Int) (x8 : Int) : exec cl N c5_25 [(6, .dead), (12, .v T167 x0), (13, .v T161 x1), (46, .own true 23 T167 .no x2), (47, .v T161 x3), (48, .v T161 x4), (53, .v T161 x5), (54, .v T161 x6), (57, .v T161 x7), (58, .v T161 x8)] K = (g5_25 x0 x1 x2 x3 x4 x5 x6 x7 x8 (fun y0 y1 y2 y3 y4 y5 y6 y7 y8 => K .normal [(12, .v T167 y0), (13, .v T161 y1), (46, .own true 23 T167 .no y2), (47, .v T161 y3), (48, .v T161 y4), (53, .v T161 y5), (54, .v T161 y6), (57, .v T161 y7), (58, .v T161 y8)])) := by
  kernel_rfl
def g5_26 {R : Type} (x0 : D167) (x1 : Int) (x2 : D169) (x3 : Int) (x4 : Int) (x5 : Int) (x6 : Int) (x7 : Int) (x8 : Int) (k0 : Bool → Option R) (k1 : D167 → Int → D169 → Int → Int → Int → Int → Int → Int → Option R) (k2 : D167 → Int → D169 → Int → Int → Int → Int → Int → Int → Option R) : Option R :=
(g5_18 x0 x1 x2 x3 x4 x5 x6 x7 x8 (fun y0 y1 y2 y3 y4 y5 y6 y7 y8 y9 => brB y9 ((fun y0 y1 y2 y3 y4 y5 y6 y7 y8 => (g5_20 y0 y1 y2 y3 y4 y5 y6 y7 y8 (fun y0 y1 y2 y3 y4 y5 y6 y7 y8 y9 => (g5_21 y0 y1 y2 y3 y4 y5 y6 y7 y8 y9 (fun y0 y1 y2 y3 y4 y5 y6 y7 y8 y9 => brB y9 (g5_22 y0 y1 y2 y3 y4 y5 y6 y7 y8 y9 (fun y0 => ((fun y0 => (k0 y0)) y0))) (g5_25 y0 y1 y2 y3 y4 y5 y6 y7 y8 k1)))))) y0 y1 y2 y3 y4 y5 y6 y7 y8) (k2 y0 y1 y2 y3 y4 y5 y6 y7 y8)))
theorem ng5_26 {R R2 : Type} (x0 : D167) (x1 : Int) (x2 : D169) (x3 : Int) (x4 : Int) (x5 : Int) (x6 : Int) (x7 : Int) (x8 : Int) (k0 : Bool → Option R) (k1 : D167 → Int → D169 → Int → Int → Int → Int → Int → Int → Option R) (k2 : D167 → Int → D169 → Int → Int → Int → Int → Int → Int → Option R) (h : R → Option R2) : ((g5_26 x0 x1 x2 x3 x4 x5 x6 x7 x8 k0 k1 k2)).bind h = (g5_26 x0 x1 x2 x3 x4 x5 x6 x7 x8 (fun y0 => (k0 y0).bind h) (fun y0 y1 y2 y3 y4 y5 y6 y7 y8 => (k1 y0 y1 y2 y3 y4 y5 y6 y7 y8).bind h) (fun y0 y1 y2 y3 y4 y5 y6 y7 y8 => (k2 y0 y1 y2 y3 y4 y5 y6 y7 y8).bind h)) := by
  simp only [g5_26, ng5_18, ng5_20, ng5_21, ng5_22, ng5_25, bind_brB, bind_ite, bind_none', Option.bind_assoc]
theorem t5_26 {N : Nat} {cl : Cal} {R : Type} (K : KE R) (x0 : D167) (x1 : Int) (x2 : D169) (x3 : Int) (x4 : Int) (x5 : Int) (x6 : Int) (x7 : Int) (x8 : Int) : exec cl N c5_26 [(12, .v T167 x0), (13, .v T161 x1), (46, .own true 23 T167 .no x2), (47, .v T161 x3), (48, .v T161 x4), (53, .v T161 x5), (54, .v T161 x6), (57, .v T161 x7), (58, .v T161 x8)] K = (g5_26 x0 x1 x2 x3 x4 x5 x6 x7 x8 (fun y0 => K .ret [(6, .v .bool y0), (12, .dead), (13, .dead), (46, .dead), (47, .dead), (48, .dead), (53, .dead), (54, .dead), (57, .dead), (58, .dead)]) (fun y0 y1 y2 y3 y4 y5 y6 y7 y8 => K .normal [(12, .v T167 y0), (13, .v T161 y1), (46, .own true 23 T167 .no y2), (47, .v T161 y3), (48, .v T161 y4), (53, .v T161 y5), (54, .v T161 y6), (57, .v T161 y7), (58, .v T161 y8)]) (fun y0 y1 y2 y3 y4 y5 y6 y7 y8 => K (.exit 4) [(12, .v T167 y0), (13, .v T161 y1), (46, .own true 23 T167 .no y2), (47, .v T161 y3), (48, .v T161 y4), (53, .v T161 y5), (54, .v T161 y6), (57, .v T161 y7), (58, .v T161 y8)])) := by
  simp only [c5_26, exec_seq, seqK_normal, seqK_exit, seqK_ret, t5_18, c5_19, exec_out, exec_cond', hb5_4, Option.bind_some, brB_true, brB_false, exec_skip, exec_exit, kp5_9, c5_24, exec_block, t5_20, t5_21, c5_23, hb5_5, t5_22, exec_ret, kp5_10, kp5_11, blockK_normal, blockK_ret, blockK_eq, kp5_12, kp5_13, t5_25]
  rfl

def l5_27 {R : Type} (k0 : Bool → Option R) (k1 : D167 → Int → D169 → Int → Int → Int → Int → Int → Int → Option R) : Nat → D167 → Int → D169 → Int → Int → Int → Int → Int → Int → Option R
  | 0, _, _, _, _, _, _, _, _, _ => none
  | m + 1, x0, x1, x2, x3, x4, x5, x6, x7, x8 => (g5_26 x0 x1 x2 x3 x4 x5 x6 x7 x8 k0 (fun y0 y1 y2 y3 y4 y5 y6 y7 y8 => l5_27 k0 k1 m y0 y1 y2 y3 y4 y5 y6 y7 y8) k1)
theorem nl5_27 {R R2 : Type} (k0 : Bool → Option R) (k1 : D167 → Int → D169 → Int → Int → Int → Int → Int → Int → Option R) (h : R → Option R2) : ∀ (m : Nat) (x0 : D167) (x1 : Int) (x2 : D169) (x3 : Int) (x4 : Int) (x5 : Int) (x6 : Int) (x7 : Int) (x8 : Int), (l5_27 k0 k1 m x0 x1 x2 x3 x4 x5 x6 x7 x8).bind h = l5_27 (fun y0 => (k0 y0).bind h) (fun y0 y1 y2 y3 y4 y5 y6 y7 y8 => (k1 y0 y1 y2 y3 y4 y5 y6 y7 y8).bind h) m x0 x1 x2 x3 x4 x5 x6 x7 x8 := by
  intro m
  induction m with
  | zero => intros; rfl
  | succ m ih =>
    intro x0 x1 x2 x3 x4 x5 x6 x7 x8
    simp only [l5_27, ng5_26, bind_brB, bind_ite, bind_none', ih]
theorem lt5_27 {N : Nat} {cl : Cal} {R : Type} (K : KE R) : ∀ (m : Nat) (x0 : D167) (x1 : Int) (x2 : D169) (x3 : Int) (x4 : Int) (x5 : Int) (x6 : Int) (x7 : Int) (x8 : Int), iter [12, 13, 46, 47, 48, 53, 54, 57, 58] (fun env K => exec cl N c5_26 env K) K m [(12, .v T167 x0), (13, .v T161 x1), (46, .own true 23 T167 .no x2), (47, .v T161 x3), (48, .v T161 x4), (53, .v T161 x5), (54, .v T161 x6), (57, .v T161 x7), (58, .v T161 x8)] = l5_27 (fun y0 => K .ret [(6, .v .bool y0), (12, .dead), (13, .dead), (46, .dead), (47, .dead), (48, .dead), (53, .dead), (54, .dead), (57, .dead), (58, .dead)]) (fun y0 y1 y2 y3 y4 y5 y6 y7 y8 => K (.exit 4) [(12, .v T167 y0), (13, .v T161 y1), (46, .own true 23 T167 .no y2), (47, .v T161 y3), (48, .v T161 y4), (53, .v T161 y5), (54, .v T161 y6), (57, .v T161 y7), (58, .v T161 y8)]) m x0 x1 x2 x3 x4 x5 x6 x7 x8 := by
  intro m
  induction m with
  | zero => intros; rfl
  | succ m ih =>
    intro x0 x1 x2 x3 x4 x5 x6 x7 x8
    simp only [iter_succ, t5_26, loopK_normal, loopK_exit, loopK_ret, kp5_8, ih]
    rfl

theorem kp5_14 (x0 : Bool) : keep [6, 12, 46, 47, 48, 53, 54] [(6, .v .bool x0), (12, .dead), (13, .dead), (46, .dead), (47, .dead), (48, .dead), (53, .dead), (54, .dead), (57, .dead), (58, .dead)] = [(6, .v .bool x0), (12, .dead), (46, .dead), (47, .dead), (48, .dead), (53, .dead), (54, .dead)] := by kernel_rfl
theorem kp5_15 (x0 : D167) (x1 : Int) (x2 : D169) (x3 : Int) (x4 : Int) (x5 : Int) (x6 : Int) (x7 : Int) (x8 : Int) : keep [6, 12, 46, 47, 48, 53, 54] [(12, .v T167 x0), (13, .v T161 x1), (46, .own true 23 T167 .no x2), (47, .v T161 x3), (48, .v T161 x4), (53, .v T161 x5), (54, .v T161 x6), (57, .v T161 x7), (58, .v T161 x8)] = [(6, .dead), (12, .v T167 x0), (46, .own true 23 T167 .no x2), (47, .v T161 x3), (48, .v T161 x4), (53, .v T161 x5), (54, .v T161 x6)] := by kernel_rfl
def g5_27 {R : Type} (N : Nat) (x0 : D167) (x1 : Int) (x2 : D169) (x3 : Int) (x4 : Int) (x5 : Int) (x6 : Int) (x7 : Int) (x8 : Int) (k0 : Bool → Option R) (k1 : D167 → D169 → Int → Int → Int → Int → Option R) : Option R :=
l5_27 (fun y0 => k0 y0) (fun y0 y1 y2 y3 y4 y5 y6 y7 y8 => k1 y0 y2 y3 y4 y5 y6) N x0 x1 x2 x3 x4 x5 x6 x7 x8
theorem ng5_27 {R R2 : Type} (N : Nat) (x0 : D167) (x1 : Int) (x2 : D169) (x3 : Int) (x4 : Int) (x5 : Int) (x6 : Int) (x7 : Int) (x8 : Int) (k0 : Bool → Option R) (k1 : D167 → D169 → Int → Int → Int → Int → Option R) (h : R → Option R2) : ((g5_27 N x0 x1 x2 x3 x4 x5 x6 x7 x8 k0 k1)).bind h = (g5_27 N x0 x1 x2 x3 x4 x5 x6 x7 x8 (fun y0 => (k0 y0).bind h) (fun y0 y1 y2 y3 y4 y5 => (k1 y0 y1 y2 y3 y4 y5).bind h)) := by
  simp only [g5_27, nl5_27, bind_brB, bind_ite, bind_none', Option.bind_assoc]
theorem t5_27 {N : Nat} {cl : Cal} {R : Type} (K : KE R) (x0 : D167) (x1 : Int) (x2 : D169) (x3 : Int) (x4 : Int) (x5 : Int) (x6 : Int) (x7 : Int) (x8 : Int) : exec cl N c5_27 [(12, .v T167 x0), (13, .v T161 x1), (46, .own true 23 T167 .no x2), (47, .v T161 x3), (48, .v T161 x4), (53, .v T161 x5), (54, .v T161 x6), (57, .v T161 x7), (58, .v T161 x8)] K = (g5_27 N x0 x1 x2 x3 x4 x5 x6 x7 x8 (fun y0 => K .ret [(6, .v .bool y0), (12, .dead), (46, .dead), (47, .dead), (48, .dead), (53, .dead), (54, .dead)]) (fun y0 y1 y2 y3 y4 y5 => K (.exit 4) [(6, .dead), (12, .v T167 y0), (46, .own true 23 T167 .no y1), (47, .v T161 y2), (48, .v T161 y3), (53, .v T161 y4), (54, .v T161 y5)])) := by
  simp only [c5_27, exec_out, exec_loop, kp5_8, lt5_27, kp5_14, kp5_15]
  rfl

theorem kp5_16 (x0 : Bool) : keep [6, 12, 46, 47, 48, 53, 54] [(6, .v .bool x0), (12, .dead), (46, .dead), (47, .dead), (48, .dead), (53, .dead), (54, .dead)] = [(6, .v .bool x0), (12, .dead), (46, .dead), (47, .dead), (48, .dead), (53, .dead), (54, .dead)] := by kernel_rfl
theorem kp5_17 (x0 : D167) (x1 : D169) (x2 : Int) (x3 : Int) (x4 : Int) (x5 : Int) : keep [6, 12, 46, 47, 48, 53, 54] [(6, .dead), (12, .v T167 x0), (46, .own true 23 T167 .no x1), (47, .v T161 x2), (48, .v T161 x3), (53, .v T161 x4), (54, .v T161 x5)] = [(6, .dead), (12, .v T167 x0), (46, .own true 23 T167 .no x1), (47, .v T161 x2), (48, .v T161 x3), (53, .v T161 x4), (54, .v T161 x5)] := by kernel_rfl
def g5_30 {R : Type} (x0 : D167) (x1 : D169) (x2 : Int) (x3 : Int) (x4 : Int) (x5 : Int) (k0 : D167 → D169 → Int → Int → Int → Int → Option R) : Option R :=
k0 x0 x1 x2 x3 x4 (IntKind.i64.wrap (x5 + (1 : Int)))
theorem ng5_30 {R R2 : Type} (x0 : D167) (x1 : D169) (x2 : Int) (x3 : Int) (x4 : Int) (x5 : Int) (k0 : D167 → D169 → Int → Int → Int → Int → Option R) (h : R → Option R2) : ((g5_30 x0 x1 x2 x3 x4 x5 k0)).bind h = (g5_30 x0 x1 x2 x3 x4 x5 (fun y0 y1 y2 y3 y4 y5 => (k0 y0 y1 y2 y3 y4 y5).bind h)) := by
  simp only [g5_30, bind_brB, bind_ite, bind_none', Option.bind_assoc]
theorem t5_30 {N : Nat} {cl : Cal} {R : Type} (K : KE R) (x0 : D167) (x1 : D169) (x2 : Int) (x3 : Int) (x4 : Int) (x5 : Int) : exec cl N c5_30 [(6, .dead), (12, .v T167 x0), (46, .own true 23 T167 .no x1), (47, .v T161 x2), (48, .v T161 x3), (53, .v T161 x4), (54, .v T161 x5)] K = (g5_30 x0 x1 x2 x3 x4 x5 (fun y0 y1 y2 y3 y4 y5 => K .normal [(12, .v T167 y0), (46, .own true 23 T167 .no y1), (47, .v T161 y2), (48, .v T161 y3), (53, .v T161 y4), (54, .v T161 y5)])) := by
  kernel_rfl
def g5_31 {R : Type} (N : Nat) (x0 : D167) (x1 : D169) (x2 : Int) (x3 : Int) (x4 : Int) (x5 : Int) (k0 : Bool → Option R) (k1 : D167 → D169 → Int → Int → Int → Int → Option R) (k2 : D167 → D169 → Int → Int → Int → Int → Option R) : Option R :=
(g5_14 x0 x1 x2 x3 x4 x5 (fun y0 y1 y2 y3 y4 y5 y6 => brB y6 ((fun y0 y1 y2 y3 y4 y5 => (g5_16 y0 y1 y2 y3 y4 y5 (fun y0 y1 y2 y3 y4 y5 y6 => (g5_17 y0 y1 y2 y3 y4 y5 y6 (fun y0 y1 y2 y3 y4 y5 y6 y7 y8 => (g5_27 N y0 y1 y2 y3 y4 y5 y6 y7 y8 (fun y0 => (k0 y0)) (fun y0 y1 y2 y3 y4 y5 => (g5_30 y0 y1 y2 y3 y4 y5 k1)))))))) y0 y1 y2 y3 y4 y5) (k2 y0 y1 y2 y3 y4 y5)))
theorem ng5_31 {R R2 : Type} (N : Nat) (x0 : D167) (x1 : D169) (x2 : Int) (x3 : Int) (x4 : Int) (x5 : Int) (k0 : Bool → Option R) (k1 : D167 → D169 → Int → Int → Int → Int → Option R) (k2 : D167 → D169 → Int → Int → Int → Int → Option R) (h : R → Option R2) : ((g5_31 N x0 x1 x2 x3 x4 x5 k0 k1 k2)).bind h = (g5_31 N x0 x1 x2 x3 x4 x5 (fun y0 => (k0 y0).bind h) (fun y0 y1 y2 y3 y4 y5 => (k1 y0 y1 y2 y3 y4 y5).bind h) (fun y0 y1 y2 y3 y4 y5 => (k2 y0 y1 y2 y3 y4 y5).bind h)) := by
  simp only [g5_31, ng5_14, ng5_16, ng5_17, ng5_27, ng5_30, bind_brB, bind_ite, bind_none', Option.bind_assoc]
theorem t5_31 {N : Nat} {cl : Cal} {R : Type} (K : KE R) (x0 : D167) (x1 : D169) (x2 : Int) (x3 : Int) (x4 : Int) (x5 : Int) : exec cl N c5_31 [(12, .v T167 x0), (46, .own true 23 T167 .no x1), (47, .v T161 x2), (48, .v T161 x3), (53, .v T161 x4), (54, .v T161 x5)] K = (g5_31 N x0 x1 x2 x3 x4 x5 (fun y0 => K .ret [(6, .v .bool y0), (12, .dead), (46, .dead), (47, .dead), (48, .dead), (53, .dead), (54, .dead)]) (fun y0 y1 y2 y3 y4 y5 => K .normal [(12, .v T167 y0), (46, .own true 23 T167 .no y1), (47, .v T161 y2), (48, .v T161 y3), (53, .v T161 y4), (54, .v T161 y5)]) (fun y0 y1 y2 y3 y4 y5 => K (.exit 2) [(12, .v T167 y0), (46, .own true 23 T167 .no y1), (47, .v T161 y2), (48, .v T161 y3), (53, .v T161 y4), (54, .v T161 y5)])) := by
  simp only [c5_31, exec_seq, seqK_normal, seqK_exit, seqK_ret, t5_14, c5_15, exec_out, exec_cond', hb5_3, Option.bind_some, brB_true, brB_false, exec_skip, exec_exit, kp5_7, c5_29, exec_block, t5_16, t5_17, c5_28, t5_27, blockK_normal, blockK_ret, blockK_eq, kp5_16, kp5_17, t5_30]
  rfl

def l5_32 {R : Type} (N : Nat) (k0 : Bool → Option R) (k1 : D167 → D169 → Int → Int → Int → Int → Option R) : Nat → D167 → D169 → Int → Int → Int → Int → Option R
  | 0, _, _, _, _, _, _ => none
  | m + 1, x0, x1, x2, x3, x4, x5 => (g5_31 N x0 x1 x2 x3 x4 x5 k0 (fun y0 y1 y2 y3 y4 y5 => l5_32 N k0 k1 m y0 y1 y2 y3 y4 y5) k1)
theorem nl5_32 {R R2 : Type} (N : Nat) (k0 : Bool → Option R) (k1 : D167 → D169 → Int → Int → Int → Int → Option R) (h : R → Option R2) : ∀ (m : Nat) (x0 : D167) (x1 : D169) (x2 : Int) (x3 : Int) (x4 : Int) (x5 : Int), (l5_32 N k0 k1 m x0 x1 x2 x3 x4 x5).bind h = l5_32 N (fun y0 => (k0 y0).bind h) (fun y0 y1 y2 y3 y4 y5 => (k1 y0 y1 y2 y3 y4 y5).bind h) m x0 x1 x2 x3 x4 x5 := by
  intro m
  induction m with
  | zero => intros; rfl
  | succ m ih =>
    intro x0 x1 x2 x3 x4 x5
    simp only [l5_32, ng5_31, bind_brB, bind_ite, bind_none', ih]
theorem lt5_32 {N : Nat} {cl : Cal} {R : Type} (K : KE R) : ∀ (m : Nat) (x0 : D167) (x1 : D169) (x2 : Int) (x3 : Int) (x4 : Int) (x5 : Int), iter [12, 46, 47, 48, 53, 54] (fun env K => exec cl N c5_31 env K) K m [(12, .v T167 x0), (46, .own true 23 T167 .no x1), (47, .v T161 x2), (48, .v T161 x3), (53, .v T161 x4), (54, .v T161 x5)] = l5_32 N (fun y0 => K .ret [(6, .v .bool y0), (12, .dead), (46, .dead), (47, .dead), (48, .dead), (53, .dead), (54, .dead)]) (fun y0 y1 y2 y3 y4 y5 => K (.exit 2) [(12, .v T167 y0), (46, .own true 23 T167 .no y1), (47, .v T161 y2), (48, .v T161 y3), (53, .v T161 y4), (54, .v T161 y5)]) m x0 x1 x2 x3 x4 x5 := by
  intro m
  induction m with
  | zero => intros; rfl
  | succ m ih =>
    intro x0 x1 x2 x3 x4 x5
    simp only [iter_succ, t5_31, loopK_normal, loopK_exit, loopK_ret, kp5_6, ih]
    rfl

theorem kp5_18 (x0 : Bool) : keep [6, 46, 47, 48] [(6, .v .bool x0), (12, .dead), (46, .dead), (47, .dead), (48, .dead), (53, .dead), (54, .dead)] = [(6, .v .bool x0), (46, .dead), (47, .dead), (48, .dead)] := by kernel_rfl
theorem kp5_19 (x0 : D167) (x1 : D169) (x2 : Int) (x3 : Int) (x4 : Int) (x5 : Int) : keep [6, 46, 47, 48] [(12, .v T167 x0), (46, .own true 23 T167 .no x1), (47, .v T161 x2), (48, .v T161 x3), (53, .v T161 x4), (54, .v T161 x5)] = [(6, .dead), (46, .own true 23 T167 .no x1), (47, .v T161 x2), (48, .v T161 x3)] := by kernel_rfl
def g5_32 {R : Type} (N : Nat) (x0 : D167) (x1 : D169) (x2 : Int) (x3 : Int) (x4 : Int) (x5 : Int) (k0 : Bool → Option R) (k1 : D169 → Int → Int → Option R) : Option R :=
l5_32 N (fun y0 => k0 y0) (fun y0 y1 y2 y3 y4 y5 => k1 y1 y2 y3) N x0 x1 x2 x3 x4 x5
theorem ng5_32 {R R2 : Type} (N : Nat) (x0 : D167) (x1 : D169) (x2 : Int) (x3 : Int) (x4 : Int) (x5 : Int) (k0 : Bool → Option R) (k1 : D169 → Int → Int → Option R) (h : R → Option R2) : ((g5_32 N x0 x1 x2 x3 x4 x5 k0 k1)).bind h = (g5_32 N x0 x1 x2 x3 x4 x5 (fun y0 => (k0 y0).bind h) (fun y0 y1 y2 => (k1 y0 y1 y2).bind h)) := by
  simp only [g5_32, nl5_32, bind_brB, bind_ite, bind_none', Option.bind_assoc]
theorem t5_32 {N : Nat} {cl : Cal} {R : Type} (K : KE R) (x0 : D167) (x1 : D169) (x2 : Int) (x3 : Int) (x4 : Int) (x5 : Int) : exec cl N c5_32 [(12, .v T167 x0), (46, .own true 23 T167 .no x1), (47, .v T161 x2), (48, .v T161 x3), (53, .v T161 x4), (54, .v T161 x5)] K = (g5_32 N x0 x1 x2 x3 x4 x5 (fun y0 => K .ret [(6, .v .bool y0), (46, .dead), (47, .dead), (48, .dead)]) (fun y0 y1 y2 => K (.exit 2) [(6, .dead), (46, .own true 23 T167 .no y0), (47, .v T161 y1), (48, .v T161 y2)])) := by
  simp only [c5_32, exec_out, exec_loop, kp5_6, lt5_32, kp5_18, kp5_19]
  rfl

theorem kp5_20 (x0 : Bool) : keep [6, 46, 47, 48] [(6, .v .bool x0), (46, .dead), (47, .dead), (48, .dead)] = [(6, .v .bool x0), (46, .dead), (47, .dead), (48, .dead)] := by kernel_rfl
theorem kp5_21 (x0 : D169) (x1 : Int) (x2 : Int) : keep [6, 46, 47, 48] [(6, .dead), (46, .own true 23 T167 .no x0), (47, .v T161 x1), (48, .v T161 x2)] = [(6, .dead), (46, .own true 23 T167 .no x0), (47, .v T161 x1), (48, .v T161 x2)] := by kernel_rfl
def g5_35 {R : Type} (x0 : D169) (x1 : Int) (x2 : Int) (k0 : D169 → Int → Int → Option R) : Option R :=
k0 x0 x1 (IntKind.i64.wrap (x2 + (1 : Int)))
theorem ng5_35 {R R2 : Type} (x0 : D169) (x1 : Int) (x2 : Int) (k0 : D169 → Int → Int → Option R) (h : R → Option R2) : ((g5_35 x0 x1 x2 k0)).bind h = (g5_35 x0 x1 x2 (fun y0 y1 y2 => (k0 y0 y1 y2).bind h)) := by
  simp only [g5_35, bind_brB, bind_ite, bind_none', Option.bind_assoc]
theorem t5_35 {N : Nat} {cl : Cal} {R : Type} (K : KE R) (x0 : D169) (x1 : Int) (x2 : Int) : exec cl N c5_35 [(6, .dead), (46, .own true 23 T167 .no x0), (47, .v T161 x1), (48, .v T161 x2)] K = (g5_35 x0 x1 x2 (fun y0 y1 y2 => K .normal [(46, .own true 23 T167 .no y0), (47, .v T161 y1), (48, .v T161 y2)])) := by
  kernel_rfl
def g5_36 {R : Type} (N : Nat) (x0 : D169) (x1 : Int) (x2 : Int) (k0 : Bool → Option R) (k1 : D169 → Int → Int → Option R) (k2 : D169 → Int → Int → Option R) : Option R :=
(g5_10 x0 x1 x2 (fun y0 y1 y2 y3 => brB y3 ((fun y0 y1 y2 => (g5_12 y0 y1 y2 (fun y0 y1 y2 y3 => (g5_13 y0 y1 y2 y3 (fun y0 y1 y2 y3 y4 y5 => (g5_32 N y0 y1 y2 y3 y4 y5 (fun y0 => (k0 y0)) (fun y0 y1 y2 => (g5_35 y0 y1 y2 k1)))))))) y0 y1 y2) (k2 y0 y1 y2)))
theorem ng5_36 {R R2 : Type} (N : Nat) (x0 : D169) (x1 : Int) (x2 : Int) (k0 : Bool → Option R) (k1 : D169 → Int → Int → Option R) (k2 : D169 → Int → Int → Option R) (h : R → Option R2) : ((g5_36 N x0 x1 x2 k0 k1 k2)).bind h = (g5_36 N x0 x1 x2 (fun y0 => (k0 y0).bind h) (fun y0 y1 y2 => (k1 y0 y1 y2).bind h) (fun y0 y1 y2 => (k2 y0 y1 y2).bind h)) := by
  simp only [g5_36, ng5_10, ng5_12, ng5_13, ng5_32, ng5_35, bind_brB, bind_ite, bind_none', Option.bind_assoc]
theorem t5_36 {N : Nat} {cl : Cal} {R : Type} (K : KE R) (x0 : D169) (x1 : Int) (x2 : Int) : exec cl N c5_36 [(46, .own true 23 T167 .no x0), (47, .v T161 x1), (48, .v T161 x2)] K = (g5_36 N x0 x1 x2 (fun y0 => K .ret [(6, .v .bool y0), (46, .dead), (47, .dead), (48, .dead)]) (fun y0 y1 y2 => K .normal [(46, .own true 23 T167 .no y0), (47, .v T161 y1), (48, .v T161 y2)]) (fun y0 y1 y2 => K (.exit 0) [(46, .own true 23 T167 .no y0), (47, .v T161 y1), (48, .v T161 y2)])) := by
  simp only [c5_36, exec_seq, seqK_normal, seqK_exit, seqK_ret, t5_10, c5_11, exec_out, exec_cond', hb5_2, Option.bind_some, brB_true, brB_false, exec_skip, exec_exit, kp5_5, c5_34, exec_block, t5_12, t5_13, c5_33, t5_32, blockK_normal, blockK_ret, blockK_eq, kp5_20, kp5_21, t5_35]
  rfl

def l5_37 {R : Type} (N : Nat) (k0 : Bool → Option R) (k1 : D169 → Int → Int → Option R) : Nat → D169 → Int → Int → Option R
  | 0, _, _, _ => none
  | m + 1, x0, x1, x2 => (g5_36 N x0 x1 x2 k0 (fun y0 y1 y2 => l5_37 N k0 k1 m y0 y1 y2) k1)
theorem nl5_37 {R R2 : Type} (N : Nat) (k0 : Bool → Option R) (k1 : D169 → Int → Int → Option R) (h : R → Option R2) : ∀ (m : Nat) (x0 : D169) (x1 : Int) (x2 : Int), (l5_37 N k0 k1 m x0 x1 x2).bind h = l5_37 N (fun y0 => (k0 y0).bind h) (fun y0 y1 y2 => (k1 y0 y1 y2).bind h) m x0 x1 x2 := by
  intro m
  induction m with
  | zero => intros; rfl
  | succ m ih =>
    intro x0 x1 x2
    simp only [l5_37, ng5_36, bind_brB, bind_ite, bind_none', ih]
theorem lt5_37 {N : Nat} {cl : Cal} {R : Type} (K : KE R) : ∀ (m : Nat) (x0 : D169) (x1 : Int) (x2 : Int), iter [46, 47, 48] (fun env K => exec cl N c5_36 env K) K m [(46, .own true 23 T167 .no x0), (47, .v T161 x1), (48, .v T161 x2)] = l5_37 N (fun y0 => K .ret [(6, .v .bool y0), (46, .dead), (47, .dead), (48, .dead)]) (fun y0 y1 y2 => K (.exit 0) [(46, .own true 23 T167 .no y0), (47, .v T161 y1), (48, .v T161 y2)]) m x0 x1 x2 := by
  intro m
  induction m with
  | zero => intros; rfl
  | succ m ih =>
    intro x0 x1 x2
    simp only [iter_succ, t5_36, loopK_normal, loopK_exit, loopK_ret, kp5_4, ih]
    rfl

theorem kp5_22 (x0 : Bool) : keep [6] [(6, .v .bool x0), (46, .dead), (47, .dead), (48, .dead)] = [(6, .v .bool x0)] := by kernel_rfl
theorem kp5_23 (x0 : D169) (x1 : Int) (x2 : Int) : keep [6] [(46, .own true 23 T167 .no x0), (47, .v T161 x1), (48, .v T161 x2)] = [(6, .dead)] := by kernel_rfl
def g5_37 {R : Type} (N : Nat) (x0 : D169) (x1 : Int) (x2 : Int) (k0 : Bool → Option R) (k1 : Option R) : Option R :=
l5_37 N (fun y0 => k0 y0) (fun y0 y1 y2 => k1) N x0 x1 x2
theorem ng5_37 {R R2 : Type} (N : Nat) (x0 : D169) (x1 : Int) (x2 : Int) (k0 : Bool → Option R) (k1 : Option R) (h : R → Option R2) : ((g5_37 N x0 x1 x2 k0 k1)).bind h = (g5_37 N x0 x1 x2 (fun y0 => (k0 y0).bind h) ((k1).bind h)) := by
  simp only [g5_37, nl5_37, bind_brB, bind_ite, bind_none', Option.bind_assoc]
theorem t5_37 {N : Nat} {cl : Cal} {R : Type} (K : KE R) (x0 : D169) (x1 : Int) (x2 : Int) : exec cl N c5_37 [(46, .own true 23 T167 .no x0), (47, .v T161 x1), (48, .v T161 x2)] K = (g5_37 N x0 x1 x2 (fun y0 => K .ret [(6, .v .bool y0)]) (K (.exit 0) [(6, .dead)])) := by
  simp only [c5_37, exec_out, exec_loop, kp5_4, lt5_37, kp5_22, kp5_23]
  rfl

theorem kp5_24 (x0 : Bool) : keep [6] [(6, .v .bool x0)] = [(6, .v .bool x0)] := by kernel_rfl
theorem kp5_25 : keep [6] [(6, .dead)] = [(6, .dead)] := by kernel_rfl
def g5_39 {R : Type} (k0 : Bool → Option R) : Option R :=
k0 true
theorem ng5_39 {R R2 : Type} (k0 : Bool → Option R) (h : R → Option R2) : ((g5_39 k0)).bind h = (g5_39 (fun y0 => (k0 y0).bind h)) := by
  simp only [g5_39, bind_brB, bind_ite, bind_none', Option.bind_assoc]
theorem t5_39 {N : Nat} {cl : Cal} {R : Type} (K : KE R) : exec cl N c5_39 [(6, .dead)] K = (g5_39 (fun y0 => K .normal [(6, .v .bool y0)])) := by
  kernel_rfl
def g5_40 {R : Type} (N : Nat) (S11 : Option (Bool)) (S12 : Int → Int → Option D1610) (S15 : Int → Bool → Option D1610) (x0 : Int) (x1 : Int) (x2 : Bool) (k0 : Bool → Option R) (k1 : Bool → Option R) (k2 : Bool → Option R) : Option R :=
(g5_0 x0 x1 x2 (fun y0 y1 y2 => (g5_1 S11 y0 y1 y2 (fun y0 y1 y2 y3 => brB y3 (g5_2 y0 y1 y2 y3 (fun y0 => ((fun y0 => (k0 y0)) y0))) ((fun y0 y1 y2 => (g5_4 S12 y0 y1 y2 (fun y0 y1 y2 y3 => (g5_5 S15 y0 y1 y2 y3 (fun y0 y1 y2 y3 => (g5_6 y0 y1 y2 y3 (fun y0 y1 y2 => brB y2 (g5_7 y0 y1 y2 (fun y0 => ((fun y0 => (k1 y0)) y0))) ((fun y0 y1 => (g5_9 y0 y1 (fun y0 y1 y2 => (g5_37 N y0 y1 y2 (fun y0 => (k2 y0)) (g5_39 (fun y0 => (k2 y0))))))) y0 y1)))))))) y0 y1 y2)))))
theorem ng5_40 {R R2 : Type} (N : Nat) (S11 : Option (Bool)) (S12 : Int → Int → Option D1610) (S15 : Int → Bool → Option D1610) (x0 : Int) (x1 : Int) (x2 : Bool) (k0 : Bool → Option R) (k1 : Bool → Option R) (k2 : Bool → Option R) (h : R → Option R2) : ((g5_40 N S11 S12 S15 x0 x1 x2 k0 k1 k2)).bind h = (g5_40 N S11 S12 S15 x0 x1 x2 (fun y0 => (k0 y0).bind h) (fun y0 => (k1 y0).bind h) (fun y0 => (k2 y0).bind h)) := by
  simp only [g5_40, ng5_0, ng5_1, ng5_2, ng5_37, ng5_39, ng5_4, ng5_5, ng5_6, ng5_7, ng5_9, bind_brB, bind_ite, bind_none', Option.bind_assoc]
theorem t5_40 {N : Nat} {cl : Cal} (S11 : Option (Bool)) (S12 : Int → Int → Option D1610) (S15 : Int → Bool → Option D1610) (h11 : (ctr11 S11).holds cl) (h12 : (ctr12 S12).holds cl) (h15 : (ctr15 S15).holds cl) {R : Type} (K : KE R) (x0 : Int) (x1 : Int) (x2 : Bool) : exec cl N c5_40 [(0, .v T160 x0), (1, .v T160 x1), (2, .v .bool x2)] K = (g5_40 N S11 S12 S15 x0 x1 x2 (fun y0 => K .ret [(0, .dead), (1, .dead), (2, .dead), (6, .v .bool y0)]) (fun y0 => K .ret [(6, .v .bool y0), (7, .dead), (9, .dead)]) (fun y0 => K .ret [(6, .v .bool y0)])) := by
  simp only [c5_40, exec_seq, seqK_normal, seqK_exit, seqK_ret, t5_0, t5_1 S11 h11, c5_3, exec_out, exec_cond', hb5_0, Option.bind_some, brB_true, brB_false, t5_2, exec_ret, exec_skip, kp5_0, kp5_1, t5_4 S12 h12, t5_5 S15 h15, t5_6, c5_8, hb5_1, t5_7, kp5_2, kp5_3, t5_9, c5_38, exec_block, t5_37, blockK_normal, blockK_ret, blockK_eq, kp5_24, kp5_25, t5_39]
  rfl

theorem rk5_0 (y0 : Bool) : retK d5 .ret [(0, .dead), (1, .dead), (2, .dead), (6, .v .bool y0)] = some [.v .bool y0] := by kernel_rfl
theorem rk5_1 (y0 : Bool) : retK d5 .ret [(6, .v .bool y0), (7, .dead), (9, .dead)] = some [.v .bool y0] := by kernel_rfl
theorem rk5_2 (y0 : Bool) : retK d5 .ret [(6, .v .bool y0)] = some [.v .bool y0] := by kernel_rfl
def g5 {R : Type} (N : Nat) (S11 : Option (Bool)) (S12 : Int → Int → Option D1610) (S15 : Int → Bool → Option D1610) (x0 : Int) (x1 : Int) (x2 : Bool) (k : Bool → Option R) : Option R :=
(g5_40 N S11 S12 S15 x0 x1 x2 (fun y0 => k y0) (fun y0 => k y0) (fun y0 => k y0))
theorem gen5 {N : Nat} {cl : Cal} (S11 : Option (Bool)) (S12 : Int → Int → Option D1610) (S15 : Int → Bool → Option D1610) (h11 : (ctr11 S11).holds cl) (h12 : (ctr12 S12).holds cl) (h15 : (ctr15 S15).holds cl) (x0 : Int) (x1 : Int) (x2 : Bool) : exec cl N c5 (params 0 [.v T160 x0, .v T160 x1, .v .bool x2]) (retK d5) = g5 N S11 S12 S15 x0 x1 x2 (fun (r0 : Bool) => some [.v .bool r0]) := by
  have e0 : params 0 [.v T160 x0, .v T160 x1, .v .bool x2] = [(0, .v T160 x0), (1, .v T160 x1), (2, .v .bool x2)] := by kernel_rfl
  simp only [c5, e0, t5_40 S11 S12 S15 h11 h12 h15, rk5_0, rk5_1, rk5_2]
  rfl

def ctr5 (S : Int → Int → Bool → Option (Bool)) : Ctr := { A := Int × Int × Bool × Unit, B := Bool, f := 5, enc := fun a => [.v T160 a.1, .v T160 a.2.1, .v .bool a.2.2.1], dec := (decC (decV T160) (decC (decV T160) (decC (decV .bool) dec0))), S := fun a => S a.1 a.2.1 a.2.2.1, ent := fun b => [.v .bool b], ok := (decV_cons (T := T160) (decV_cons (T := T160) (decV_cons (T := .bool) (fun es b h => dec0_some h)))) }
def S5 (N : Nat) (x0 : Int) (x1 : Int) (x2 : Bool) : Option (Bool) := g5 N (S11 N) (S12 N) (S15 N) x0 x1 x2 (fun (r0 : Bool) => some (r0))
theorem ng5 {R R2 : Type} (N : Nat) (S11 : Option (Bool)) (S12 : Int → Int → Option D1610) (S15 : Int → Bool → Option D1610) (x0 : Int) (x1 : Int) (x2 : Bool) (k : Bool → Option R) (h : R → Option R2) : (g5 N S11 S12 S15 x0 x1 x2 k).bind h = g5 N S11 S12 S15 x0 x1 x2 (fun (r0 : Bool) => (k r0).bind h) := by
  simp only [g5, ng5_40]
-- anceps/weight.Pick$1
def g36_0 {R : Type} (x0 : D165) (x1 : Int) (k0 : Int → D165 → Option R) : Option R :=
k0 x1 x0
theorem ng36_0 {R R2 : Type} (x0 : D165) (x1 : Int) (k0 : Int → D165 → Option R) (h : R → Option R2) : ((g36_0 x0 x1 k0)).bind h = (g36_0 x0 x1 (fun y0 y1 => (k0 y0 y1).bind h)) := by
  simp only [g36_0, bind_brB, bind_ite, bind_none', Option.bind_assoc]
theorem t36_0 {N : Nat} {cl : Cal} {R : Type} (K : KE R) (x0 : D165) (x1 : Int) : exec cl N c36_0 [(0, .v T166 x0), (1, .at T161 x1)] K = (g36_0 x0 x1 (fun y0 y1 => K .normal [(1, .at T161 y0), (2, .loc T166 .no y1)])) := by
  kernel_rfl
def g36_1 {R : Type} (x0 : Int) (x1 : D165) (k0 : Bool → Option R) : Option R :=
k0 (x1.1 == x0)
theorem ng36_1 {R R2 : Type} (x0 : Int) (x1 : D165) (k0 : Bool → Option R) (h : R → Option R2) : ((g36_1 x0 x1 k0)).bind h = (g36_1 x0 x1 (fun y0 => (k0 y0).bind h)) := by
  simp only [g36_1, bind_brB, bind_ite, bind_none', Option.bind_assoc]
theorem t36_1 {N : Nat} {cl : Cal} {R : Type} (K : KE R) (x0 : Int) (x1 : D165) : exec cl N c36_1 [(1, .at T161 x0), (2, .loc T166 .no x1)] K = (g36_1 x0 x1 (fun y0 => K .normal [(3, .v .bool y0)])) := by
  kernel_rfl
def g36_2 {R : Type} (x0 : D165) (x1 : Int) (k0 : Bool → Option R) : Option R :=
(g36_0 x0 x1 (fun y0 y1 => (g36_1 y0 y1 (fun y0 => (k0 y0)))))
theorem ng36_2 {R R2 : Type} (x0 : D165) (x1 : Int) (k0 : Bool → Option R) (h : R → Option R2) : ((g36_2 x0 x1 k0)).bind h = (g36_2 x0 x1 (fun y0 => (k0 y0).bind h)) := by
  simp only [g36_2, ng36_0, ng36_1, bind_brB, bind_ite, bind_none', Option.bind_assoc]
theorem t36_2 {N : Nat} {cl : Cal} {R : Type} (K : KE R) (x0 : D165) (x1 : Int) : exec cl N c36_2 [(0, .v T166 x0), (1, .at T161 x1)] K = (g36_2 x0 x1 (fun y0 => K .ret [(3, .v .bool y0)])) := by
  simp only [c36_2, exec_seq, seqK_normal, seqK_exit, seqK_ret, t36_0, t36_1, exec_ret]
  rfl

theorem rk36_0 (y0 : Bool) : retK d36 .ret [(3, .v .bool y0)] = some [.v .bool y0] := by kernel_rfl
def g36 {R : Type} (x0 : D165) (x1 : Int) (k : Bool → Option R) : Option R :=
(g36_2 x0 x1 (fun y0 => k y0))
theorem gen36 {N : Nat} {cl : Cal} (x0 : D165) (x1 : Int) : exec cl N c36 (params 0 [.v T166 x0, .at T161 x1]) (retK d36) = g36 x0 x1 (fun (r0 : Bool) => some [.v .bool r0]) := by
  have e0 : params 0 [.v T166 x0, .at T161 x1] = [(0, .v T166 x0), (1, .at T161 x1)] := by kernel_rfl
  simp only [c36, e0, t36_2, rk36_0]
  rfl

def ctr36 (S : D165 → Int → Option (Bool)) : Ctr := { A := D165 × Int × Unit, B := Bool, f := 36, enc := fun a => [.v T166 a.1, .at T161 a.2.1], dec := (decC (decV T166) (decC (decA T161) dec0)), S := fun a => S a.1 a.2.1, ent := fun b => [.v .bool b], ok := (decV_cons (T := T166) (decA_cons (T := T161) (fun es b h => dec0_some h))) }
def S36 (N : Nat) (x0 : D165) (x1 : Int) : Option (Bool) := g36 x0 x1 (fun (r0 : Bool) => some (r0))
theorem ng36 {R R2 : Type} (x0 : D165) (x1 : Int) (k : Bool → Option R) (h : R → Option R2) : (g36 x0 x1 k).bind h = g36 x0 x1 (fun (r0 : Bool) => (k r0).bind h) := by
  simp only [g36, ng36_2]
-- slices.IndexFunc[[]anceps/api.Option,anceps/api.Option]
def g35_0 {R : Type} (x0 : D167) (x1 : D1611) (k0 : D167 → D1611 → Option R) : Option R :=
k0 x0 x1
theorem ng35_0 {R R2 : Type} (x0 : D167) (x1 : D1611) (k0 : D167 → D1611 → Option R) (h : R → Option R2) : ((g35_0 x0 x1 k0)).bind h = (g35_0 x0 x1 (fun y0 y1 => (k0 y0 y1).bind h)) := by
  simp only [g35_0, bind_brB, bind_ite, bind_none', Option.bind_assoc]
theorem t35_0 {N : Nat} {cl : Cal} {R : Type} (K : KE R) (x0 : D167) (x1 : D1611) : exec cl N c35_0 [(0, .v T167 x0), (1, .v T169 x1)] K = (g35_0 x0 x1 (fun y0 y1 => K .normal [(0, .v T167 y0), (1, .v T169 y1)])) := by
  kernel_rfl
def g35_1 {R : Type} (x0 : D167) (x1 : D1611) (k0 : D167 → D1611 → Int → Int → Option R) : Option R :=
k0 x0 x1 (x0.length : Int) (0 : Int)
theorem ng35_1 {R R2 : Type} (x0 : D167) (x1 : D1611) (k0 : D167 → D1611 → Int → Int → Option R) (h : R → Option R2) : ((g35_1 x0 x1 k0)).bind h = (g35_1 x0 x1 (fun y0 y1 y2 y3 => (k0 y0 y1 y2 y3).bind h)) := by
  simp only [g35_1, bind_brB, bind_ite, bind_none', Option.bind_assoc]
theorem t35_1 {N : Nat} {cl : Cal} {R : Type} (K : KE R) (x0 : D167) (x1 : D1611) : exec cl N c35_1 [(0, .v T167 x0), (1, .v T169 x1)] K = (g35_1 x0 x1 (fun y0 y1 y2 y3 => K .normal [(0, .v T167 y0), (1, .v T169 y1), (7, .v T161 y2), (8, .v T161 y3)])) := by
  kernel_rfl
theorem kp35_0 (x0 : D167) (x1 : D1611) (x2 : Int) (x3 : Int) : keep [0, 1, 7, 8] [(0, .v T167 x0), (1, .v T169 x1), (7, .v T161 x2), (8, .v T161 x3)] = [(0, .v T167 x0), (1, .v T169 x1), (7, .v T161 x2), (8, .v T161 x3)] := by kernel_rfl
def g35_2 {R : Type} (x0 : D167) (x1 : D1611) (x2 : Int) (x3 : Int) (k0 : D167 → D1611 → Int → Int → Bool → Option R) : Option R :=
k0 x0 x1 x2 x3 (decide (x3 < x2))
theorem ng35_2 {R R2 : Type} (x0 : D167) (x1 : D1611) (x2 : Int) (x3 : Int) (k0 : D167 → D1611 → Int → Int → Bool → Option R) (h : R → Option R2) : ((g35_2 x0 x1 x2 x3 k0)).bind h = (g35_2 x0 x1 x2 x3 (fun y0 y1 y2 y3 y4 => (k0 y0 y1 y2 y3 y4).bind h)) := by
  simp only [g35_2, bind_brB, bind_ite, bind_none', Option.bind_assoc]
theorem t35_2 {N : Nat} {cl : Cal} {R : Type} (K : KE R) (x0 : D167) (x1 : D1611) (x2 : Int) (x3 : Int) : exec cl N c35_2 [(0, .v T167 x0), (1, .v T169 x1), (7, .v T161 x2), (8, .v T161 x3)] K = (g35_2 x0 x1 x2 x3 (fun y0 y1 y2 y3 y4 => K .normal [(0, .v T167 y0), (1, .v T169 y1), (7, .v T161 y2), (8, .v T161 y3), (9, .v .bool y4)])) := by
  kernel_rfl
theorem kp35_1 (x0 : D167) (x1 : D1611) (x2 : Int) (x3 : Int) (x4 : Bool) : keep [0, 1, 7, 8] [(0, .v T167 x0), (1, .v T169 x1), (7, .v T161 x2), (8, .v T161 x3), (9, .v .bool x4)] = [(0, .v T167 x0), (1, .v T169 x1), (7, .v T161 x2), (8, .v T161 x3)] := by kernel_rfl
theorem hb35_0 (x0 : D167) (x1 : D1611) (x2 : Int) (x3 : Int) (x4 : Bool) : boolOf? (ent [(0, .v T167 x0), (1, .v T169 x1), (7, .v T161 x2), (8, .v T161 x3), (9, .v .bool x4)] (.t 9)) = some x4 := by kernel_rfl
def g35_4 {R : Type} (x0 : D167) (x1 : D1611) (x2 : Int) (x3 : Int) (k0 : D167 → D1611 → Int → Int → Int → Option R) : Option R :=
k0 x0 x1 x3 x2 x3
theorem ng35_4 {R R2 : Type} (x0 : D167) (x1 : D1611) (x2 : Int) (x3 : Int) (k0 : D167 → D1611 → Int → Int → Int → Option R) (h : R → Option R2) : ((g35_4 x0 x1 x2 x3 k0)).bind h = (g35_4 x0 x1 x2 x3 (fun y0 y1 y2 y3 y4 => (k0 y0 y1 y2 y3 y4).bind h)) := by
  simp only [g35_4, bind_brB, bind_ite, bind_none', Option.bind_assoc]
theorem t35_4 {N : Nat} {cl : Cal} {R : Type} (K : KE R) (x0 : D167) (x1 : D1611) (x2 : Int) (x3 : Int) : exec cl N c35_4 [(0, .v T167 x0), (1, .v T169 x1), (7, .v T161 x2), (8, .v T161 x3)] K = (g35_4 x0 x1 x2 x3 (fun y0 y1 y2 y3 y4 => K .normal [(0, .v T167 y0), (1, .v T169 y1), (5, .v T161 y2), (7, .v T161 y3), (8, .v T161 y4)])) := by
  kernel_rfl
def g35_5 {R : Type} (x0 : D167) (x1 : D1611) (x2 : Int) (x3 : Int) (x4 : Int) (k0 : D167 → D1611 → Int → Int → Int → Bool → Option R) : Option R :=
if 0 ≤ x2 ∧ x2 < (x0.length : Int) then
(x1 ((x0.getD x2.toNat ((0 : Int), ((0 : Int), ((0 : Int), ())))), ())).bind fun r186 =>
k0 x0 x1 x2 x3 x4 r186
else none
theorem ng35_5 {R R2 : Type} (x0 : D167) (x1 : D1611) (x2 : Int) (x3 : Int) (x4 : Int) (k0 : D167 → D1611 → Int → Int → Int → Bool → Option R) (h : R → Option R2) : ((g35_5 x0 x1 x2 x3 x4 k0)).bind h = (g35_5 x0 x1 x2 x3 x4 (fun y0 y1 y2 y3 y4 y5 => (k0 y0 y1 y2 y3 y4 y5).bind h)) := by
  simp only [g35_5, bind_brB, bind_ite, bind_none', Option.bind_assoc]
theorem t35_5 {N : Nat} {cl : Cal} {R : Type} (K : KE R) (x0 : D167) (x1 : D1611) (x2 : Int) (x3 : Int) (x4 : Int) : exec cl N c35_5 [(0, .v T167 x0), (1, .v T169 x1), (5, .v T161 x2), (7, .v T161 x3), (8, .v T161 x4)] K = (g35_5 x0 x1 x2 x3 x4 (fun y0 y1 y2 y3 y4 y5 => K .normal [(0, .v T167 y0), (1, .v T169 y1), (5, .v T161 y2), (7, .v T161 y3), (8, .v T161 y4), (16, .v .bool y5)])) := by
  kernel_rfl
def g35_6 {R : Type} (x0 : D167) (x1 : D1611) (x2 : Int) (x3 : Int) (x4 : Int) (x5 : Bool) (k0 : Int → Option R) : Option R :=
k0 x2
theorem ng35_6 {R R2 : Type} (x0 : D167) (x1 : D1611) (x2 : Int) (x3 : Int) (x4 : Int) (x5 : Bool) (k0 : Int → Option R) (h : R → Option R2) : ((g35_6 x0 x1 x2 x3 x4 x5 k0)).bind h = (g35_6 x0 x1 x2 x3 x4 x5 (fun y0 => (k0 y0).bind h)) := by
  simp only [g35_6, bind_brB, bind_ite, bind_none', Option.bind_assoc]
theorem t35_6 {N : Nat} {cl : Cal} {R : Type} (K : KE R) (x0 : D167) (x1 : D1611) (x2 : Int) (x3 : Int) (x4 : Int) (x5 : Bool) : exec cl N c35_6 [(0, .v T167 x0), (1, .v T169 x1), (5, .v T161 x2), (7, .v T161 x3), (8, .v T161 x4), (16, .v .bool x5)] K = (g35_6 x0 x1 x2 x3 x4 x5 (fun y0 => K .normal [(4, .v T161 y0)])) := by
  kernel_rfl
theorem kp35_2 (x0 : Int) : keep [0, 1, 4, 7, 8] [(4, .v T161 x0)] = [(0, .dead), (1, .dead), (4, .v T161 x0), (7, .dead), (8, .dead)] := by kernel_rfl
theorem kp35_3 (x0 : D167) (x1 : D1611) (x2 : Int) (x3 : Int) (x4 : Int) (x5 : Bool) : keep [0, 1, 4, 7, 8] [(0, .v T167 x0), (1, .v T169 x1), (5, .v T161 x2), (7, .v T161 x3), (8, .v T161 x4), (16, .v .bool x5)] = [(0, .v T167 x0), (1, .v T169 x1), (4, .dead), (7, .v T161 x3), (8, .v T161 x4)] := by kernel_rfl
theorem hb35_1 (x0 : D167) (x1 : D1611) (x2 : Int) (x3 : Int) (x4 : Int) (x5 : Bool) : boolOf? (ent [(0, .v T167 x0), (1, .v T169 x1), (5, .v T161 x2), (7, .v T161 x3), (8, .v T161 x4), (16, .v .bool x5)] (.t 16)) = some x5 := by kernel_rfl
theorem kp35_4 (x0 : Int) : keep [0, 1, 4, 7, 8] [(0, .dead), (1, .dead), (4, .v T161 x0), (7, .dead), (8, .dead)] = [(0, .dead), (1, .dead), (4, .v T161 x0), (7, .dead), (8, .dead)] := by kernel_rfl
theorem kp35_5 (x0 : D167) (x1 : D1611) (x2 : Int) (x3 : Int) : keep [0, 1, 4, 7, 8] [(0, .v T167 x0), (1, .v T169 x1), (4, .dead), (7, .v T161 x2), (8, .v T161 x3)] = [(0, .v T167 x0), (1, .v T169 x1), (4, .dead), (7, .v T161 x2), (8, .v T161 x3)] := by kernel_rfl
def g35_9 {R : Type} (x0 : D167) (x1 : D1611) (x2 : Int) (x3 : Int) (k0 : D167 → D1611 → Int → Int → Option R) : Option R :=
k0 x0 x1 x2 (IntKind.i64.wrap (x3 + (1 : Int)))
theorem ng35_9 {R R2 : Type} (x0 : D167) (x1 : D1611) (x2 : Int) (x3 : Int) (k0 : D167 → D1611 → Int → Int → Option R) (h : R → Option R2) : ((g35_9 x0 x1 x2 x3 k0)).bind h = (g35_9 x0 x1 x2 x3 (fun y0 y1 y2 y3 => (k0 y0 y1 y2 y3).bind h)) := by
  simp only [g35_9, bind_brB, bind_ite, bind_none', Option.bind_assoc]
theorem t35_9 {N : Nat} {cl : Cal} {R : Type} (K : KE R) (x0 : D167) (x1 : D1611) (x2 : Int) (x3 : Int) : exec cl N c35_9 [(0, .v T167 x0), (1, .v T169 x1), (4, .dead), (7, .v T161 x2), (8, .v T161 x3)] K = (g35_9 x0 x1 x2 x3 (fun y0 y1 y2 y3 => K .normal [(0, .v T167 y0), (1, .v T169 y1), (7, .v T161 y2), (8, .v T161 y3)])) := by
  kernel_rfl
def g35_10 {R : Type} (x0 : D167) (x1 : D1611) (x2 : Int) (x3 : Int) (k0 : Int → Option R) (k1 : D167 → D1611 → Int → Int → Option R) (k2 : D167 → D1611 → Int → Int → Option R) : Option R :=
(g35_2 x0 x1 x2 x3 (fun y0 y1 y2 y3 y4 => brB y4 ((fun y0 y1 y2 y3 => (g35_4 y0 y1 y2 y3 (fun y0 y1 y2 y3 y4 => (g35_5 y0 y1 y2 y3 y4 (fun y0 y1 y2 y3 y4 y5 => brB y5 (g35_6 y0 y1 y2 y3 y4 y5 (fun y0 => ((fun y0 => (k0 y0)) y0))) (g35_9 y0 y1 y3 y4 k1)))))) y0 y1 y2 y3) (k2 y0 y1 y2 y3)))
theorem ng35_10 {R R2 : Type} (x0 : D167) (x1 : D1611) (x2 : Int) (x3 : Int) (k0 : Int → Option R) (k1 : D167 → D1611 → Int → Int → Option R) (k2 : D167 → D1611 → Int → Int → Option R) (h : R → Option R2) : ((g35_10 x0 x1 x2 x3 k0 k1 k2)).bind h = (g35_10 x0 x1 x2 x3 (fun y0 => (k0 y0).bind h) (fun y0 y1 y2 y3 => (k1 y0 y1 y2 y3).bind h) (fun y0 y1 y2 y3 => (k2 y0 y1 y2 y3).bind h)) := by
  simp only [g35_10, ng35_2, ng35_4, ng35_5, ng35_6, ng35_9, bind_brB, bind_ite, bind_none', Option.bind_assoc]
theorem t35_10 {N : Nat} {cl : Cal} {R : Type} (K : KE R) (x0 : D167) (x1 : D1611) (x2 : Int) (x3 : Int) : exec cl N c35_10 [(0, .v T167 x0), (1, .v T169 x1), (7, .v T161 x2), (8, .v T161 x3)] K = (g35_10 x0 x1 x2 x3 (fun y0 => K .ret [(0, .dead), (1, .dead), (4, .v T161 y0), (7, .dead), (8, .dead)]) (fun y0 y1 y2 y3 => K .normal [(0, .v T167 y0), (1, .v T169 y1), (7, .v T161 y2), (8, .v T161 y3)]) (fun y0 y1 y2 y3 => K (.exit 0) [(0, .v T167 y0), (1, .v T169 y1), (7, .v T161 y2), (8, .v T161 y3)])) := by
  simp only [c35_10, exec_seq, seqK_normal, seqK_exit, seqK_ret, t35_2, c35_3, exec_out, exec_cond', hb35_0, Option.bind_some, brB_true, brB_false, exec_skip, exec_exit, kp35_1, c35_8, exec_block, t35_4, t35_5, c35_7, hb35_1, t35_6, exec_ret, kp35_2, kp35_3, blockK_normal, blockK_ret, blockK_eq, kp35_4, kp35_5, t35_9]
  rfl

def l35_11 {R : Type} (k0 : Int → Option R) (k1 : D167 → D1611 → Int → Int → Option R) : Nat → D167 → D1611 → Int → Int → Option R
  | 0, _, _, _, _ => none
  | m + 1, x0, x1, x2, x3 => (g35_10 x0 x1 x2 x3 k0 (fun y0 y1 y2 y3 => l35_11 k0 k1 m y0 y1 y2 y3) k1)
theorem nl35_11 {R R2 : Type} (k0 : Int → Option R) (k1 : D167 → D1611 → Int → Int → Option R) (h : R → Option R2) : ∀ (m : Nat) (x0 : D167) (x1 : D1611) (x2 : Int) (x3 : Int), (l35_11 k0 k1 m x0 x1 x2 x3).bind h = l35_11 (fun y0 => (k0 y0).bind h) (fun y0 y1 y2 y3 => (k1 y0 y1 y2 y3).bind h) m x0 x1 x2 x3 := by
  intro m
  induction m with
  | zero => intros; rfl
  | succ m ih =>
    intro x0 x1 x2 x3
    simp only [l35_11, ng35_10, bind_brB, bind_ite, bind_none', ih]
theorem lt35_11 {N : Nat} {cl : Cal} {R : Type} (K : KE R) : ∀ (m : Nat) (x0 : D167) (x1 : D1611) (x2 : Int) (x3 : Int), iter [0, 1, 7, 8] (fun env K => exec cl N c35_10 env K) K m [(0, .v T167 x0), (1, .v T169 x1), (7, .v T161 x2), (8, .v T161 x3)] = l35_11 (fun y0 => K .ret [(0, .dead), (1, .dead), (4, .v T161 y0), (7, .dead), (8, .dead)]) (fun y0 y1 y2 y3 => K (.exit 0) [(0, .v T167 y0), (1, .v T169 y1), (7, .v T161 y2), (8, .v T161 y3)]) m x0 x1 x2 x3 := by
  intro m
  induction m with
  | zero => intros; rfl
  | succ m ih =>
    intro x0 x1 x2 x3
    simp only [iter_succ, t35_10, loopK_normal, loopK_exit, loopK_ret, kp35_0, ih]
    rfl

theorem kp35_6 (x0 : Int) : keep [4] [(0, .dead), (1, .dead), (4, .v T161 x0), (7, .dead), (8, .dead)] = [(4, .v T161 x0)] := by kernel_rfl
theorem kp35_7 (x0 : D167) (x1 : D1611) (x2 : Int) (x3 : Int) : keep [4] [(0, .v T167 x0), (1, .v T169 x1), (7, .v T161 x2), (8, .v T161 x3)] = [(4, .dead)] := by kernel_rfl
def g35_11 {R : Type} (N : Nat) (x0 : D167) (x1 : D1611) (x2 : Int) (x3 : Int) (k0 : Int → Option R) (k1 : Option R) : Option R :=
l35_11 (fun y0 => k0 y0) (fun y0 y1 y2 y3 => k1) N x0 x1 x2 x3
theorem ng35_11 {R R2 : Type} (N : Nat) (x0 : D167) (x1 : D1611) (x2 : Int) (x3 : Int) (k0 : Int → Option R) (k1 : Option R) (h : R → Option R2) : ((g35_11 N x0 x1 x2 x3 k0 k1)).bind h = (g35_11 N x0 x1 x2 x3 (fun y0 => (k0 y0).bind h) ((k1).bind h)) := by
  simp only [g35_11, nl35_11, bind_brB, bind_ite, bind_none', Option.bind_assoc]
theorem t35_11 {N : Nat} {cl : Cal} {R : Type} (K : KE R) (x0 : D167) (x1 : D1611) (x2 : Int) (x3 : Int) : exec cl N c35_11 [(0, .v T167 x0), (1, .v T169 x1), (7, .v T161 x2), (8, .v T161 x3)] K = (g35_11 N x0 x1 x2 x3 (fun y0 => K .ret [(4, .v T161 y0)]) (K (.exit 0) [(4, .dead)])) := by
  simp only [c35_11, exec_out, exec_loop, kp35_0, lt35_11, kp35_6, kp35_7]
  rfl

theorem kp35_8 (x0 : Int) : keep [4] [(4, .v T161 x0)] = [(4, .v T161 x0)] := by kernel_rfl
theorem kp35_9 : keep [4] [(4, .dead)] = [(4, .dead)] := by kernel_rfl
def g35_13 {R : Type} (k0 : Int → Option R) : Option R :=
k0 (-1 : Int)
theorem ng35_13 {R R2 : Type} (k0 : Int → Option R) (h : R → Option R2) : ((g35_13 k0)).bind h = (g35_13 (fun y0 => (k0 y0).bind h)) := by
  simp only [g35_13, bind_brB, bind_ite, bind_none', Option.bind_assoc]
theorem t35_13 {N : Nat} {cl : Cal} {R : Type} (K : KE R) : exec cl N c35_13 [(4, .dead)] K = (g35_13 (fun y0 => K .normal [(4, .v T161 y0)])) := by
  kernel_rfl
def g35_14 {R : Type} (N : Nat) (x0 : D167) (x1 : D1611) (k0 : Int → Option R) : Option R :=
(g35_0 x0 x1 (fun y0 y1 => (g35_1 y0 y1 (fun y0 y1 y2 y3 => (g35_11 N y0 y1 y2 y3 (fun y0 => (k0 y0)) (g35_13 (fun y0 => (k0 y0))))))))
theorem ng35_14 {R R2 : Type} (N : Nat) (x0 : D167) (x1 : D1611) (k0 : Int → Option R) (h : R → Option R2) : ((g35_14 N x0 x1 k0)).bind h = (g35_14 N x0 x1 (fun y0 => (k0 y0).bind h)) := by
  simp only [g35_14, ng35_0, ng35_1, ng35_11, ng35_13, bind_brB, bind_ite, bind_none', Option.bind_assoc]
theorem t35_14 {N : Nat} {cl : Cal} {R : Type} (K : KE R) (x0 : D167) (x1 : D1611) : exec cl N c35_14 [(0, .v T167 x0), (1, .v T169 x1)] K = (g35_14 N x0 x1 (fun y0 => K .ret [(4, .v T161 y0)])) := by
  simp only [c35_14, exec_seq, seqK_normal, seqK_exit, seqK_ret, t35_0, t35_1, c35_12, exec_out, exec_block, t35_11, blockK_normal, blockK_ret, blockK_eq, kp35_8, kp35_9, t35_13, exec_ret]
  rfl

theorem rk35_0 (y0 : Int) : retK d35 .ret [(4, .v T161 y0)] = some [.v T161 y0] := by kernel_rfl
def g35 {R : Type} (N : Nat) (x0 : D167) (x1 : D1611) (k : Int → Option R) : Option R :=
(g35_14 N x0 x1 (fun y0 => k y0))
theorem gen35 {N : Nat} {cl : Cal} (x0 : D167) (x1 : D1611) : exec cl N c35 (params 0 [.v T167 x0, .v T169 x1]) (retK d35) = g35 N x0 x1 (fun (r0 : Int) => some [.v T161 r0]) := by
  have e0 : params 0 [.v T167 x0, .v T169 x1] = [(0, .v T167 x0), (1, .v T169 x1)] := by kernel_rfl
  simp only [c35, e0, t35_14, rk35_0]
  rfl

def ctr35 (S : D167 → D1611 → Option (Int)) : Ctr := { A := D167 × D1611 × Unit, B := Int, f := 35, enc := fun a => [.v T167 a.1, .v T169 a.2.1], dec := (decC (decV T167) (decC (decV T169) dec0)), S := fun a => S a.1 a.2.1, ent := fun b => [.v T161 b], ok := (decV_cons (T := T167) (decV_cons (T := T169) (fun es b h => dec0_some h))) }
def S35 (N : Nat) (x0 : D167) (x1 : D1611) : Option (Int) := g35 N x0 x1 (fun (r0 : Int) => some (r0))
theorem ng35 {R R2 : Type} (N : Nat) (x0 : D167) (x1 : D1611) (k : Int → Option R) (h : R → Option R2) : (g35 N x0 x1 k).bind h = g35 N x0 x1 (fun (r0 : Int) => (k r0).bind h) := by
  simp only [g35, ng35_14]
-- anceps/weight.Pick
def g17_0 {R : Type} (x0 : D167) (x1 : Int) (k0 : D167 → Int → Option R) : Option R :=
k0 x0 x1
theorem ng17_0 {R R2 : Type} (x0 : D167) (x1 : Int) (k0 : D167 → Int → Option R) (h : R → Option R2) : ((g17_0 x0 x1 k0)).bind h = (g17_0 x0 x1 (fun y0 y1 => (k0 y0 y1).bind h)) := by
  simp only [g17_0, bind_brB, bind_ite, bind_none', Option.bind_assoc]
theorem t17_0 {N : Nat} {cl : Cal} {R : Type} (K : KE R) (x0 : D167) (x1 : Int) : exec cl N c17_0 [(0, .v T167 x0), (1, .v T161 x1)] K = (g17_0 x0 x1 (fun y0 y1 => K .normal [(0, .v T167 y0), (3, .loc T161 .no y1)])) := by
  kernel_rfl
def g17_1 {R : Type} (S35 : D167 → D1611 → Option (Int)) (S36 : D165 → Int → Option (Bool)) (x0 : D167) (x1 : Int) (k0 : Int → Option R) : Option R :=
(S35 x0 (fun (x191 : (D165 × Unit)) => ((S36 x191.1 x1).bind fun b192 => some [.v .bool b192]).bind (unE .bool))).bind fun r193 =>
k0 r193
theorem ng17_1 {R R2 : Type} (S35 : D167 → D1611 → Option (Int)) (S36 : D165 → Int → Option (Bool)) (x0 : D167) (x1 : Int) (k0 : Int → Option R) (h : R → Option R2) : ((g17_1 S35 S36 x0 x1 k0)).bind h = (g17_1 S35 S36 x0 x1 (fun y0 => (k0 y0).bind h)) := by
  simp only [g17_1, bind_brB, bind_ite, bind_none', Option.bind_assoc]
theorem t17_1 {N : Nat} {cl : Cal} (S35 : D167 → D1611 → Option (Int)) (S36 : D165 → Int → Option (Bool)) (h35 : (ctr35 S35).holds cl) (h36 : (ctr36 S36).holds cl) {R : Type} (K : KE R) (x0 : D167) (x1 : Int) : exec cl N c17_1 [(0, .v T167 x0), (3, .loc T161 .no x1)] K = (g17_1 S35 S36 x0 x1 (fun y0 => K .normal [(6, .v T161 y0)])) := by
  rw [← put_eq h35]
  rw [← put_eq h36]
  kernel_rfl
def g17_2 {R : Type} (x0 : Int) (k0 : Int → Bool → Option R) : Option R :=
k0 (if (0 : Int) > x0 then (0 : Int) else x0) (decide (x0 ≥ (0 : Int)))
theorem ng17_2 {R R2 : Type} (x0 : Int) (k0 : Int → Bool → Option R) (h : R → Option R2) : ((g17_2 x0 k0)).bind h = (g17_2 x0 (fun y0 y1 => (k0 y0 y1).bind h)) := by
  simp only [g17_2, bind_brB, bind_ite, bind_none', Option.bind_assoc]
theorem t17_2 {N : Nat} {cl : Cal} {R : Type} (K : KE R) (x0 : Int) : exec cl N c17_2 [(6, .v T161 x0)] K = (g17_2 x0 (fun y0 y1 => K .normal [(4, .v T161 y0), (5, .v .bool y1)])) := by
  kernel_rfl
def g17_3 {R : Type} (S35 : D167 → D1611 → Option (Int)) (S36 : D165 → Int → Option (Bool)) (x0 : D167) (x1 : Int) (k0 : Int → Bool → Option R) : Option R :=
(g17_0 x0 x1 (fun y0 y1 => (g17_1 S35 S36 y0 y1 (fun y0 => (g17_2 y0 (fun y0 y1 => (k0 y0 y1)))))))
theorem ng17_3 {R R2 : Type} (S35 : D167 → D1611 → Option (Int)) (S36 : D165 → Int → Option (Bool)) (x0 : D167) (x1 : Int) (k0 : Int → Bool → Option R) (h : R → Option R2) : ((g17_3 S35 S36 x0 x1 k0)).bind h = (g17_3 S35 S36 x0 x1 (fun y0 y1 => (k0 y0 y1).bind h)) := by
  simp only [g17_3, ng17_0, ng17_1, ng17_2, bind_brB, bind_ite, bind_none', Option.bind_assoc]
theorem t17_3 {N : Nat} {cl : Cal} (S35 : D167 → D1611 → Option (Int)) (S36 : D165 → Int → Option (Bool)) (h35 : (ctr35 S35).holds cl) (h36 : (ctr36 S36).holds cl) {R : Type} (K : KE R) (x0 : D167) (x1 : Int) : exec cl N c17_3 [(0, .v T167 x0), (1, .v T161 x1)] K = (g17_3 S35 S36 x0 x1 (fun y0 y1 => K .ret [(4, .v T161 y0), (5, .v .bool y1)])) := by
  simp only [c17_3, exec_seq, seqK_normal, seqK_exit, seqK_ret, t17_0, t17_1 S35 S36 h35 h36, t17_2, exec_ret]
  rfl

theorem rk17_0 (y0 : Int) (y1 : Bool) : retK d17 .ret [(4, .v T161 y0), (5, .v .bool y1)] = some [.v T161 y0, .v .bool y1] := by kernel_rfl
def g17 {R : Type} (S35 : D167 → D1611 → Option (Int)) (S36 : D165 → Int → Option (Bool)) (x0 : D167) (x1 : Int) (k : Int → Bool → Option R) : Option R :=
(g17_3 S35 S36 x0 x1 (fun y0 y1 => k y0 y1))
theorem gen17 {N : Nat} {cl : Cal} (S35 : D167 → D1611 → Option (Int)) (S36 : D165 → Int → Option (Bool)) (h35 : (ctr35 S35).holds cl) (h36 : (ctr36 S36).holds cl) (x0 : D167) (x1 : Int) : exec cl N c17 (params 0 [.v T167 x0, .v T161 x1]) (retK d17) = g17 S35 S36 x0 x1 (fun (r0 : Int) (r1 : Bool) => some [.v T161 r0, .v .bool r1]) := by
  have e0 : params 0 [.v T167 x0, .v T161 x1] = [(0, .v T167 x0), (1, .v T161 x1)] := by kernel_rfl
  simp only [c17, e0, t17_3 S35 S36 h35 h36, rk17_0]
  rfl

def ctr17 (S : D167 → Int → Option D163) : Ctr := { A := D167 × Int × Unit, B := Int × Bool, f := 17, enc := fun a => [.v T167 a.1, .v T161 a.2.1], dec := (decC (decV T167) (decC (decV T161) dec0)), S := fun a => S a.1 a.2.1, ent := fun b => [.v T161 b.1, .v .bool b.2], ok := (decV_cons (T := T167) (decV_cons (T := T161) (fun es b h => dec0_some h))) }
def S17 (N : Nat) (x0 : D167) (x1 : Int) : Option D163 := g17 (S35 N) (S36 N) x0 x1 (fun (r0 : Int) (r1 : Bool) => some (r0, r1))
theorem ng17 {R R2 : Type} (S35 : D167 → D1611 → Option (Int)) (S36 : D165 → Int → Option (Bool)) (x0 : D167) (x1 : Int) (k : Int → Bool → Option R) (h : R → Option R2) : (g17 S35 S36 x0 x1 k).bind h = g17 S35 S36 x0 x1 (fun (r0 : Int) (r1 : Bool) => (k r0 r1).bind h) := by
  simp only [g17, ng17_3]
-- anceps/ancepsref16.Pick
def g18_0 {R : Type} (x0 : D167) (x1 : Int) (k0 : D167 → Int → Option R) : Option R :=
k0 x0 x1
theorem ng18_0 {R R2 : Type} (x0 : D167) (x1 : Int) (k0 : D167 → Int → Option R) (h : R → Option R2) : ((g18_0 x0 x1 k0)).bind h = (g18_0 x0 x1 (fun y0 y1 => (k0 y0 y1).bind h)) := by
  simp only [g18_0, bind_brB, bind_ite, bind_none', Option.bind_assoc]
theorem t18_0 {N : Nat} {cl : Cal} {R : Type} (K : KE R) (x0 : D167) (x1 : Int) : exec cl N c18_0 [(0, .v T167 x0), (1, .v T161 x1)] K = (g18_0 x0 x1 (fun y0 y1 => K .normal [(0, .v T167 y0), (1, .v T161 y1)])) := by
  kernel_rfl
def g18_1 {R : Type} (x0 : D167) (x1 : Int) (k0 : D167 → Int → Int → Option R) : Option R :=
k0 x0 x1 (0 : Int)
theorem ng18_1 {R R2 : Type} (x0 : D167) (x1 : Int) (k0 : D167 → Int → Int → Option R) (h : R → Option R2) : ((g18_1 x0 x1 k0)).bind h = (g18_1 x0 x1 (fun y0 y1 y2 => (k0 y0 y1 y2).bind h)) := by
  simp only [g18_1, bind_brB, bind_ite, bind_none', Option.bind_assoc]
theorem t18_1 {N : Nat} {cl : Cal} {R : Type} (K : KE R) (x0 : D167) (x1 : Int) : exec cl N c18_1 [(0, .v T167 x0), (1, .v T161 x1)] K = (g18_1 x0 x1 (fun y0 y1 y2 => K .normal [(0, .v T167 y0), (1, .v T161 y1), (6, .v T161 y2)])) := by
  kernel_rfl
theorem kp18_0 (x0 : D167) (x1 : Int) (x2 : Int) : keep [0, 1, 6] [(0, .v T167 x0), (1, .v T161 x1), (6, .v T161 x2)] = [(0, .v T167 x0), (1, .v T161 x1), (6, .v T161 x2)] := by kernel_rfl
def g18_2 {R : Type} (x0 : D167) (x1 : Int) (x2 : Int) (k0 : D167 → Int → Int → Bool → Option R) : Option R :=
k0 x0 x1 x2 (decide (x2 < (x0.length : Int)))
theorem ng18_2 {R R2 : Type} (x0 : D167) (x1 : Int) (x2 : Int) (k0 : D167 → Int → Int → Bool → Option R) (h : R → Option R2) : ((g18_2 x0 x1 x2 k0)).bind h = (g18_2 x0 x1 x2 (fun y0 y1 y2 y3 => (k0 y0 y1 y2 y3).bind h)) := by
  simp only [g18_2, bind_brB, bind_ite, bind_none', Option.bind_assoc]
theorem t18_2 {N : Nat} {cl : Cal} {R : Type} (K : KE R) (x0 : D167) (x1 : Int) (x2 : Int) : exec cl N c18_2 [(0, .v T167 x0), (1, .v T161 x1), (6, .v T161 x2)] K = (g18_2 x0 x1 x2 (fun y0 y1 y2 y3 => K .normal [(0, .v T167 y0), (1, .v T161 y1), (6, .v T161 y2), (10, .v .bool y3)])) := by
  kernel_rfl
theorem kp18_1 (x0 : D167) (x1 : Int) (x2 : Int) (x3 : Bool) : keep [0, 1, 6] [(0, .v T167 x0), (1, .v T161 x1), (6, .v T161 x2), (10, .v .bool x3)] = [(0, .v T167 x0), (1, .v T161 x1), (6, .v T161 x2)] := by kernel_rfl
theorem hb18_0 (x0 : D167) (x1 : Int) (x2 : Int) (x3 : Bool) : boolOf? (ent [(0, .v T167 x0), (1, .v T161 x1), (6, .v T161 x2), (10, .v .bool x3)] (.t 10)) = some x3 := by kernel_rfl
def g18_4 {R : Type} (x0 : D167) (x1 : Int) (x2 : Int) (k0 : D167 → Int → Int → Bool → Option R) : Option R :=
if 0 ≤ x2 ∧ x2 < (x0.length : Int) then
k0 x0 x1 x2 ((x0.getD x2.toNat ((0 : Int), ((0 : Int), ((0 : Int), ())))).1 == x1)
else none
theorem ng18_4 {R R2 : Type} (x0 : D167) (x1 : Int) (x2 : Int) (k0 : D167 → Int → Int → Bool → Option R) (h : R → Option R2) : ((g18_4 x0 x1 x2 k0)).bind h = (g18_4 x0 x1 x2 (fun y0 y1 y2 y3 => (k0 y0 y1 y2 y3).bind h)) := by
  simp only [g18_4, bind_brB, bind_ite, bind_none', Option.bind_assoc]
theorem t18_4 {N : Nat} {cl : Cal} {R : Type} (K : KE R) (x0 : D167) (x1 : Int) (x2 : Int) : exec cl N c18_4 [(0, .v T167 x0), (1, .v T161 x1), (6, .v T161 x2)] K = (g18_4 x0 x1 x2 (fun y0 y1 y2 y3 => K .normal [(0, .v T167 y0), (1, .v T161 y1), (6, .v T161 y2), (19, .v .bool y3)])) := by
  kernel_rfl
def g18_5 {R : Type} (x0 : D167) (x1 : Int) (x2 : Int) (x3 : Bool) (k0 : Int → Bool → Option R) : Option R :=
k0 x2 true
theorem ng18_5 {R R2 : Type} (x0 : D167) (x1 : Int) (x2 : Int) (x3 : Bool) (k0 : Int → Bool → Option R) (h : R → Option R2) : ((g18_5 x0 x1 x2 x3 k0)).bind h = (g18_5 x0 x1 x2 x3 (fun y0 y1 => (k0 y0 y1).bind h)) := by
  simp only [g18_5, bind_brB, bind_ite, bind_none', Option.bind_assoc]
theorem t18_5 {N : Nat} {cl : Cal} {R : Type} (K : KE R) (x0 : D167) (x1 : Int) (x2 : Int) (x3 : Bool) : exec cl N c18_5 [(0, .v T167 x0), (1, .v T161 x1), (6, .v T161 x2), (19, .v .bool x3)] K = (g18_5 x0 x1 x2 x3 (fun y0 y1 => K .normal [(4, .v T161 y0), (5, .v .bool y1)])) := by
  kernel_rfl
theorem kp18_2 (x0 : Int) (x1 : Bool) : keep [0, 1, 4, 5, 6] [(4, .v T161 x0), (5, .v .bool x1)] = [(0, .dead), (1, .dead), (4, .v T161 x0), (5, .v .bool x1), (6, .dead)] := by kernel_rfl
theorem kp18_3 (x0 : D167) (x1 : Int) (x2 : Int) (x3 : Bool) : keep [0, 1, 4, 5, 6] [(0, .v T167 x0), (1, .v T161 x1), (6, .v T161 x2), (19, .v .bool x3)] = [(0, .v T167 x0), (1, .v T161 x1), (4, .dead), (5, .dead), (6, .v T161 x2)] := by kernel_rfl
theorem hb18_1 (x0 : D167) (x1 : Int) (x2 : Int) (x3 : Bool) : boolOf? (ent [(0, .v T167 x0), (1, .v T161 x1), (6, .v T161 x2), (19, .v .bool x3)] (.t 19)) = some x3 := by kernel_rfl
theorem kp18_4 (x0 : Int) (x1 : Bool) : keep [0, 1, 4, 5, 6] [(0, .dead), (1, .dead), (4, .v T161 x0), (5, .v .bool x1), (6, .dead)] = [(0, .dead), (1, .dead), (4, .v T161 x0), (5, .v .bool x1), (6, .dead)] := by kernel_rfl
theorem kp18_5 (x0 : D167) (x1 : Int) (x2 : Int) : keep [0, 1, 4, 5, 6] [(0, .v T167 x0), (1, .v T161 x1), (4, .dead), (5, .dead), (6, .v T161 x2)] = [(0, .v T167 x0), (1, .v T161 x1), (4, .dead), (5, .dead), (6, .v T161 x2)] := by kernel_rfl
def g18_8 {R : Type} (x0 : D167) (x1 : Int) (x2 : Int) (k0 : D167 → Int → Int → Option R) : Option R :=
k0 x0 x1 (IntKind.i64.wrap (x2 + (1 : Int)))
theorem ng18_8 {R R2 : Type} (x0 : D167) (x1 : Int) (x2 : Int) (k0 : D167 → Int → Int → Option R) (h : R → Option R2) : ((g18_8 x0 x1 x2 k0)).bind h = (g18_8 x0 x1 x2 (fun y0 y1 y2 => (k0 y0 y1 y2).bind h)) := by
  simp only [g18_8, bind_brB, bind_ite, bind_none', Option.bind_assoc]
theorem t18_8 {N : Nat} {cl : Cal} {R : Type} (K : KE R) (x0 : D167) (x1 : Int) (x2 : Int) : exec cl N c18_8 [(0, .v T167 x0), (1, .v T161 x1), (4, .dead), (5, .dead), (6, .v T161 x2)] K = (g18_8 x0 x1 x2 (fun y0 y1 y2 => K .normal [(0, .v T167 y0), (1, .v T161 y1), (6, .v T161 y2)])) := by
  kernel_rfl
def g18_9 {R : Type} (x0 : D167) (x1 : Int) (x2 : Int) (k0 : Int → Bool → Option R) (k1 : D167 → Int → Int → Option R) (k2 : D167 → Int → Int → Option R) : Option R :=
(g18_2 x0 x1 x2 (fun y0 y1 y2 y3 => brB y3 ((fun y0 y1 y2 => (g18_4 y0 y1 y2 (fun y0 y1 y2 y3 => brB y3 (g18_5 y0 y1 y2 y3 (fun y0 y1 => ((fun y0 y1 => (k0 y0 y1)) y0 y1))) (g18_8 y0 y1 y2 k1)))) y0 y1 y2) (k2 y0 y1 y2)))
theorem ng18_9 {R R2 : Type} (x0 : D167) (x1 : Int) (x2 : Int) (k0 : Int → Bool → Option R) (k1 : D167 → Int → Int → Option R) (k2 : D167 → Int → Int → Option R) (h : R → Option R2) : ((g18_9 x0 x1 x2 k0 k1 k2)).bind h = (g18_9 x0 x1 x2 (fun y0 y1 => (k0 y0 y1).bind h) (fun y0 y1 y2 => (k1 y0 y1 y2).bind h) (fun y0 y1 y2 => (k2 y0 y1 y2).bind h)) := by
  simp only [g18_9, ng18_2, ng18_4, ng18_5, ng18_8, bind_brB, bind_ite, bind_none', Option.bind_assoc]
theorem t18_9 {N : Nat} {cl : Cal} {R : Type} (K : KE R) (x0 : D167) (x1 : Int) (x2 : Int) : exec cl N c18_9 [(0, .v T167 x0), (1, .v T161 x1), (6, .v T161 x2)] K = (g18_9 x0 x1 x2 (fun y0 y1 => K .ret [(0, .dead), (1, .dead), (4, .v T161 y0), (5, .v .bool y1), (6, .dead)]) (fun y0 y1 y2 => K .normal [(0, .v T167 y0), (1, .v T161 y1), (6, .v T161 y2)]) (fun y0 y1 y2 => K (.exit 0) [(0, .v T167 y0), (1, .v T161 y1), (6, .v T161 y2)])) := by
  simp only [c18_9, exec_seq, seqK_normal, seqK_exit, seqK_ret, t18_2, c18_3, exec_out, exec_cond', hb18_0, Option.bind_some, brB_true, brB_false, exec_skip, exec_exit, kp18_1, c18_7, exec_block, t18_4, c18_6, hb18_1, t18_5, exec_ret, kp18_2, kp18_3, blockK_normal, blockK_ret, blockK_eq, kp18_4, kp18_5, t18_8]
  rfl

def l18_10 {R : Type} (k0 : Int → Bool → Option R) (k1 : D167 → Int → Int → Option R) : Nat → D167 → Int → Int → Option R
  | 0, _, _, _ => none
  | m + 1, x0, x1, x2 => (g18_9 x0 x1 x2 k0 (fun y0 y1 y2 => l18_10 k0 k1 m y0 y1 y2) k1)
theorem nl18_10 {R R2 : Type} (k0 : Int → Bool → Option R) (k1 : D167 → Int → Int → Option R) (h : R → Option R2) : ∀ (m : Nat) (x0 : D167) (x1 : Int) (x2 : Int), (l18_10 k0 k1 m x0 x1 x2).bind h = l18_10 (fun y0 y1 => (k0 y0 y1).bind h) (fun y0 y1 y2 => (k1 y0 y1 y2).bind h) m x0 x1 x2 := by
  intro m
  induction m with
  | zero => intros; rfl
  | succ m ih =>
    intro x0 x1 x2
    simp only [l18_10, ng18_9, bind_brB, bind_ite, bind_none', ih]
theorem lt18_10 {N : Nat} {cl : Cal} {R : Type} (K : KE R) : ∀ (m : Nat) (x0 : D167) (x1 : Int) (x2 : Int), iter [0, 1, 6] (fun env K => exec cl N c18_9 env K) K m [(0, .v T167 x0), (1, .v T161 x1), (6, .v T161 x2)] = l18_10 (fun y0 y1 => K .ret [(0, .dead), (1, .dead), (4, .v T161 y0), (5, .v .bool y1), (6, .dead)]) (fun y0 y1 y2 => K (.exit 0) [(0, .v T167 y0), (1, .v T161 y1), (6, .v T161 y2)]) m x0 x1 x2 := by
  intro m
  induction m with
  | zero => intros; rfl
  | succ m ih =>
    intro x0 x1 x2
    simp only [iter_succ, t18_9, loopK_normal, loopK_exit, loopK_ret, kp18_0, ih]
    rfl

theorem kp18_6 (x0 : Int) (x1 : Bool) : keep [4, 5] [(0, .dead), (1, .dead), (4, .v T161 x0), (5, .v .bool x1), (6, .dead)] = [(4, .v T161 x0), (5, .v .bool x1)] := by kernel_rfl
theorem kp18_7 (x0 : D167) (x1 : Int) (x2 : Int) : keep [4, 5] [(0, .v T167 x0), (1, .v T161 x1), (6, .v T161 x2)] = [(4, .dead), (5, .dead)] := by kernel_rfl
def g18_10 {R : Type} (N : Nat) (x0 : D167) (x1 : Int) (x2 : Int) (k0 : Int → Bool → Option R) (k1 : Option R) : Option R :=
l18_10 (fun y0 y1 => k0 y0 y1) (fun y0 y1 y2 => k1) N x0 x1 x2
theorem ng18_10 {R R2 : Type} (N : Nat) (x0 : D167) (x1 : Int) (x2 : Int) (k0 : Int → Bool → Option R) (k1 : Option R) (h : R → Option R2) : ((g18_10 N x0 x1 x2 k0 k1)).bind h = (g18_10 N x0 x1 x2 (fun y0 y1 => (k0 y0 y1).bind h) ((k1).bind h)) := by
  simp only [g18_10, nl18_10, bind_brB, bind_ite, bind_none', Option.bind_assoc]
theorem t18_10 {N : Nat} {cl : Cal} {R : Type} (K : KE R) (x0 : D167) (x1 : Int) (x2 : Int) : exec cl N c18_10 [(0, .v T167 x0), (1, .v T161 x1), (6, .v T161 x2)] K = (g18_10 N x0 x1 x2 (fun y0 y1 => K .ret [(4, .v T161 y0), (5, .v .bool y1)]) (K (.exit 0) [(4, .dead), (5, .dead)])) := by
  simp only [c18_10, exec_out, exec_loop, kp18_0, lt18_10, kp18_6, kp18_7]
  rfl

theorem kp18_8 (x0 : Int) (x1 : Bool) : keep [4, 5] [(4, .v T161 x0), (5, .v .bool x1)] = [(4, .v T161 x0), (5, .v .bool x1)] := by kernel_rfl
theorem kp18_9 : keep [4, 5] [(4, .dead), (5, .dead)] = [(4, .dead), (5, .dead)] := by kernel_rfl
def g18_12 {R : Type} (k0 : Int → Bool → Option R) : Option R :=
k0 (0 : Int) false
theorem ng18_12 {R R2 : Type} (k0 : Int → Bool → Option R) (h : R → Option R2) : ((g18_12 k0)).bind h = (g18_12 (fun y0 y1 => (k0 y0 y1).bind h)) := by
  simp only [g18_12, bind_brB, bind_ite, bind_none', Option.bind_assoc]
theorem t18_12 {N : Nat} {cl : Cal} {R : Type} (K : KE R) : exec cl N c18_12 [(4, .dead), (5, .dead)] K = (g18_12 (fun y0 y1 => K .normal [(4, .v T161 y0), (5, .v .bool y1)])) := by
  kernel_rfl
def g18_13 {R : Type} (N : Nat) (x0 : D167) (x1 : Int) (k0 : Int → Bool → Option R) : Option R :=
(g18_0 x0 x1 (fun y0 y1 => (g18_1 y0 y1 (fun y0 y1 y2 => (g18_10 N y0 y1 y2 (fun y0 y1 => (k0 y0 y1)) (g18_12 (fun y0 y1 => (k0 y0 y1))))))))
theorem ng18_13 {R R2 : Type} (N : Nat) (x0 : D167) (x1 : Int) (k0 : Int → Bool → Option R) (h : R → Option R2) : ((g18_13 N x0 x1 k0)).bind h = (g18_13 N x0 x1 (fun y0 y1 => (k0 y0 y1).bind h)) := by
  simp only [g18_13, ng18_0, ng18_1, ng18_10, ng18_12, bind_brB, bind_ite, bind_none', Option.bind_assoc]
theorem t18_13 {N : Nat} {cl : Cal} {R : Type} (K : KE R) (x0 : D167) (x1 : Int) : exec cl N c18_13 [(0, .v T167 x0), (1, .v T161 x1)] K = (g18_13 N x0 x1 (fun y0 y1 => K .ret [(4, .v T161 y0), (5, .v .bool y1)])) := by
  simp only [c18_13, exec_seq, seqK_normal, seqK_exit, seqK_ret, t18_0, t18_1, c18_11, exec_out, exec_block, t18_10, blockK_normal, blockK_ret, blockK_eq, kp18_8, kp18_9, t18_12, exec_ret]
  rfl

theorem rk18_0 (y0 : Int) (y1 : Bool) : retK d18 .ret [(4, .v T161 y0), (5, .v .bool y1)] = some [.v T161 y0, .v .bool y1] := by kernel_rfl
def g18 {R : Type} (N : Nat) (x0 : D167) (x1 : Int) (k : Int → Bool → Option R) : Option R :=
(g18_13 N x0 x1 (fun y0 y1 => k y0 y1))
theorem gen18 {N : Nat} {cl : Cal} (x0 : D167) (x1 : Int) : exec cl N c18 (params 0 [.v T167 x0, .v T161 x1]) (retK d18) = g18 N x0 x1 (fun (r0 : Int) (r1 : Bool) => some [.v T161 r0, .v .bool r1]) := by
  have e0 : params 0 [.v T167 x0, .v T161 x1] = [(0, .v T167 x0), (1, .v T161 x1)] := by kernel_rfl
  simp only [c18, e0, t18_13, rk18_0]
  rfl

def ctr18 (S : D167 → Int → Option D163) : Ctr := { A := D167 × Int × Unit, B := Int × Bool, f := 18, enc := fun a => [.v T167 a.1, .v T161 a.2.1], dec := (decC (decV T167) (decC (decV T161) dec0)), S := fun a => S a.1 a.2.1, ent := fun b => [.v T161 b.1, .v .bool b.2], ok := (decV_cons (T := T167) (decV_cons (T := T161) (fun es b h => dec0_some h))) }
def S18 (N : Nat) (x0 : D167) (x1 : Int) : Option D163 := g18 N x0 x1 (fun (r0 : Int) (r1 : Bool) => some (r0, r1))
theorem ng18 {R R2 : Type} (N : Nat) (x0 : D167) (x1 : Int) (k : Int → Bool → Option R) (h : R → Option R2) : (g18 N x0 x1 k).bind h = g18 N x0 x1 (fun (r0 : Int) (r1 : Bool) => (k r0 r1).bind h) := by
  simp only [g18, ng18_13]
-- anceps/ancepsref16.Weights
def g20_0 {R : Type} (x0 : D167) (k0 : D167 → Option R) : Option R :=
k0 x0
theorem ng20_0 {R R2 : Type} (x0 : D167) (k0 : D167 → Option R) (h : R → Option R2) : ((g20_0 x0 k0)).bind h = (g20_0 x0 (fun y0 => (k0 y0).bind h)) := by
  simp only [g20_0, bind_brB, bind_ite, bind_none', Option.bind_assoc]
theorem t20_0 {N : Nat} {cl : Cal} {R : Type} (K : KE R) (x0 : D167) : exec cl N c20_0 [(0, .v T167 x0)] K = (g20_0 x0 (fun y0 => K .normal [(0, .v T167 y0)])) := by
  kernel_rfl
def g20_1 {R : Type} (x0 : D167) (k0 : D167 → Int → Int → Option R) : Option R :=
k0 x0 (0 : Int) (0 : Int)
theorem ng20_1 {R R2 : Type} (x0 : D167) (k0 : D167 → Int → Int → Option R) (h : R → Option R2) : ((g20_1 x0 k0)).bind h = (g20_1 x0 (fun y0 y1 y2 => (k0 y0 y1 y2).bind h)) := by
  simp only [g20_1, bind_brB, bind_ite, bind_none', Option.bind_assoc]
theorem t20_1 {N : Nat} {cl : Cal} {R : Type} (K : KE R) (x0 : D167) : exec cl N c20_1 [(0, .v T167 x0)] K = (g20_1 x0 (fun y0 y1 y2 => K .normal [(0, .v T167 y0), (3, .v T161 y1), (4, .v T161 y2)])) := by
  kernel_rfl
def g20_2 {R : Type} (x0 : D167) (x1 : Int) (x2 : Int) (k0 : D167 → Int → Int → Int → Option R) : Option R :=
k0 x0 x1 x2 (0 : Int)
theorem ng20_2 {R R2 : Type} (x0 : D167) (x1 : Int) (x2 : Int) (k0 : D167 → Int → Int → Int → Option R) (h : R → Option R2) : ((g20_2 x0 x1 x2 k0)).bind h = (g20_2 x0 x1 x2 (fun y0 y1 y2 y3 => (k0 y0 y1 y2 y3).bind h)) := by
  simp only [g20_2, bind_brB, bind_ite, bind_none', Option.bind_assoc]
theorem t20_2 {N : Nat} {cl : Cal} {R : Type} (K : KE R) (x0 : D167) (x1 : Int) (x2 : Int) : exec cl N c20_2 [(0, .v T167 x0), (3, .v T161 x1), (4, .v T161 x2)] K = (g20_2 x0 x1 x2 (fun y0 y1 y2 y3 => K .normal [(0, .v T167 y0), (3, .v T161 y1), (4, .v T161 y2), (5, .v T161 y3)])) := by
  kernel_rfl
theorem kp20_0 (x0 : D167) (x1 : Int) (x2 : Int) (x3 : Int) : keep [0, 3, 4, 5] [(0, .v T167 x0), (3, .v T161 x1), (4, .v T161 x2), (5, .v T161 x3)] = [(0, .v T167 x0), (3, .v T161 x1), (4, .v T161 x2), (5, .v T161 x3)] := by kernel_rfl
def g20_3 {R : Type} (x0 : D167) (x1 : Int) (x2 : Int) (x3 : Int) (k0 : D167 → Int → Int → Int → Bool → Option R) : Option R :=
k0 x0 x1 x2 x3 (decide (x3 < (x0.length : Int)))
theorem ng20_3 {R R2 : Type} (x0 : D167) (x1 : Int) (x2 : Int) (x3 : Int) (k0 : D167 → Int → Int → Int → Bool → Option R) (h : R → Option R2) : ((g20_3 x0 x1 x2 x3 k0)).bind h = (g20_3 x0 x1 x2 x3 (fun y0 y1 y2 y3 y4 => (k0 y0 y1 y2 y3 y4).bind h)) := by
  simp only [g20_3, bind_brB, bind_ite, bind_none', Option.bind_assoc]
theorem t20_3 {N : Nat} {cl : Cal} {R : Type} (K : KE R) (x0 : D167) (x1 : Int) (x2 : Int) (x3 : Int) : exec cl N c20_3 [(0, .v T167 x0), (3, .v T161 x1), (4, .v T161 x2), (5, .v T161 x3)] K = (g20_3 x0 x1 x2 x3 (fun y0 y1 y2 y3 y4 => K .normal [(0, .v T167 y0), (3, .v T161 y1), (4, .v T161 y2), (5, .v T161 y3), (9, .v .bool y4)])) := by
  kernel_rfl
theorem kp20_1 (x0 : D167) (x1 : Int) (x2 : Int) (x3 : Int) (x4 : Bool) : keep [0, 3, 4, 5] [(0, .v T167 x0), (3, .v T161 x1), (4, .v T161 x2), (5, .v T161 x3), (9, .v .bool x4)] = [(0, .v T167 x0), (3, .v T161 x1), (4, .v T161 x2), (5, .v T161 x3)] := by kernel_rfl
theorem hb20_0 (x0 : D167) (x1 : Int) (x2 : Int) (x3 : Int) (x4 : Bool) : boolOf? (ent [(0, .v T167 x0), (3, .v T161 x1), (4, .v T161 x2), (5, .v T161 x3), (9, .v .bool x4)] (.t 9)) = some x4 := by kernel_rfl
def g20_5 {R : Type} (x0 : D167) (x1 : Int) (x2 : Int) (x3 : Int) (k0 : D167 → Int → Int → Int → Bool → Option R) : Option R :=
if 0 ≤ x3 ∧ x3 < (x0.length : Int) then
k0 x0 x1 x2 x3 ((x0.getD x3.toNat ((0 : Int), ((0 : Int), ((0 : Int), ())))).1 == (1 : Int))
else none
theorem ng20_5 {R R2 : Type} (x0 : D167) (x1 : Int) (x2 : Int) (x3 : Int) (k0 : D167 → Int → Int → Int → Bool → Option R) (h : R → Option R2) : ((g20_5 x0 x1 x2 x3 k0)).bind h = (g20_5 x0 x1 x2 x3 (fun y0 y1 y2 y3 y4 => (k0 y0 y1 y2 y3 y4).bind h)) := by
  simp only [g20_5, bind_brB, bind_ite, bind_none', Option.bind_assoc]
theorem t20_5 {N : Nat} {cl : Cal} {R : Type} (K : KE R) (x0 : D167) (x1 : Int) (x2 : Int) (x3 : Int) : exec cl N c20_5 [(0, .v T167 x0), (3, .v T161 x1), (4, .v T161 x2), (5, .v T161 x3)] K = (g20_5 x0 x1 x2 x3 (fun y0 y1 y2 y3 y4 => K .normal [(0, .v T167 y0), (3, .v T161 y1), (4, .v T161 y2), (5, .v T161 y3), (17, .v .bool y4)])) := by
  kernel_rfl
def g20_6 {R : Type} (x0 : D167) (x1 : Int) (x2 : Int) (x3 : Int) (x4 : Bool) (k0 : D167 → Int → Int → Int → Option R) : Option R :=
k0 x0 (1 : Int) x2 x3
theorem ng20_6 {R R2 : Type} (x0 : D167) (x1 : Int) (x2 : Int) (x3 : Int) (x4 : Bool) (k0 : D167 → Int → Int → Int → Option R) (h : R → Option R2) : ((g20_6 x0 x1 x2 x3 x4 k0)).bind h = (g20_6 x0 x1 x2 x3 x4 (fun y0 y1 y2 y3 => (k0 y0 y1 y2 y3).bind h)) := by
  simp only [g20_6, bind_brB, bind_ite, bind_none', Option.bind_assoc]
theorem t20_6 {N : Nat} {cl : Cal} {R : Type} (K : KE R) (x0 : D167) (x1 : Int) (x2 : Int) (x3 : Int) (x4 : Bool) : exec cl N c20_6 [(0, .v T167 x0), (3, .v T161 x1), (4, .v T161 x2), (5, .v T161 x3), (17, .v .bool x4)] K = (g20_6 x0 x1 x2 x3 x4 (fun y0 y1 y2 y3 => K .normal [(0, .v T167 y0), (3, .v T161 y1), (4, .v T161 y2), (5, .v T161 y3)])) := by
  kernel_rfl
theorem kp20_2 (x0 : D167) (x1 : Int) (x2 : Int) (x3 : Int) (x4 : Bool) : keep [0, 3, 4, 5] [(0, .v T167 x0), (3, .v T161 x1), (4, .v T161 x2), (5, .v T161 x3), (17, .v .bool x4)] = [(0, .v T167 x0), (3, .v T161 x1), (4, .v T161 x2), (5, .v T161 x3)] := by kernel_rfl
theorem hb20_1 (x0 : D167) (x1 : Int) (x2 : Int) (x3 : Int) (x4 : Bool) : boolOf? (ent [(0, .v T167 x0), (3, .v T161 x1), (4, .v T161 x2), (5, .v T161 x3), (17, .v .bool x4)] (.t 17)) = some x4 := by kernel_rfl
def g20_8 {R : Type} (x0 : D167) (x1 : Int) (x2 : Int) (x3 : Int) (k0 : D167 → Int → Int → Int → Option R) : Option R :=
(g20_5 x0 x1 x2 x3 (fun y0 y1 y2 y3 y4 => brB y4 (g20_6 y0 y1 y2 y3 y4 (fun y0 y1 y2 y3 => (k0 y0 y1 y2 y3))) (k0 y0 y1 y2 y3)))
theorem ng20_8 {R R2 : Type} (x0 : D167) (x1 : Int) (x2 : Int) (x3 : Int) (k0 : D167 → Int → Int → Int → Option R) (h : R → Option R2) : ((g20_8 x0 x1 x2 x3 k0)).bind h = (g20_8 x0 x1 x2 x3 (fun y0 y1 y2 y3 => (k0 y0 y1 y2 y3).bind h)) := by
  simp only [g20_8, ng20_5, ng20_6, bind_brB, bind_ite, bind_none', Option.bind_assoc]
theorem t20_8 {N : Nat} {cl : Cal} {R : Type} (K : KE R) (x0 : D167) (x1 : Int) (x2 : Int) (x3 : Int) : exec cl N c20_8 [(0, .v T167 x0), (3, .v T161 x1), (4, .v T161 x2), (5, .v T161 x3)] K = (g20_8 x0 x1 x2 x3 (fun y0 y1 y2 y3 => K .normal [(0, .v T167 y0), (3, .v T161 y1), (4, .v T161 y2), (5, .v T161 y3)])) := by
  simp only [c20_8, exec_seq, seqK_normal, seqK_exit, seqK_ret, t20_5, c20_7, exec_out, exec_cond', hb20_1, Option.bind_some, brB_true, brB_false, t20_6, exec_skip, kp20_0, kp20_2]
  rfl

def g20_9 {R : Type} (x0 : D167) (x1 : Int) (x2 : Int) (x3 : Int) (k0 : D167 → Int → Int → Int → Bool → Option R) : Option R :=
if 0 ≤ x3 ∧ x3 < (x0.length : Int) then
k0 x0 x1 x2 x3 ((x0.getD x3.toNat ((0 : Int), ((0 : Int), ((0 : Int), ())))).1 == (2 : Int))
else none
theorem ng20_9 {R R2 : Type} (x0 : D167) (x1 : Int) (x2 : Int) (x3 : Int) (k0 : D167 → Int → Int → Int → Bool → Option R) (h : R → Option R2) : ((g20_9 x0 x1 x2 x3 k0)).bind h = (g20_9 x0 x1 x2 x3 (fun y0 y1 y2 y3 y4 => (k0 y0 y1 y2 y3 y4).bind h)) := by
  simp only [g20_9, bind_brB, bind_ite, bind_none', Option.bind_assoc]
theorem t20_9 {N : Nat} {cl : Cal} {R : Type} (K : KE R) (x0 : D167) (x1 : Int) (x2 : Int) (x3 : Int) : exec cl N c20_9 [(0, .v T167 x0), (3, .v T161 x1), (4, .v T161 x2), (5, .v T161 x3)] K = (g20_9 x0 x1 x2 x3 (fun y0 y1 y2 y3 y4 => K .normal [(0, .v T167 y0), (3, .v T161 y1), (4, .v T161 y2), (5, .v T161 y3), (23, .v .bool y4)])) := by
  kernel_rfl
def g20_10 {R : Type} (x0 : D167) (x1 : Int) (x2 : Int) (x3 : Int) (x4 : Bool) (k0 : D167 → Int → Int → Int → Option R) : Option R :=
k0 x0 x1 (2 : Int) x3
theorem ng20_10 {R R2 : Type} (x0 : D167) (x1 : Int) (x2 : Int) (x3 : Int) (x4 : Bool) (k0 : D167 → Int → Int → Int → Option R) (h : R → Option R2) : ((g20_10 x0 x1 x2 x3 x4 k0)).bind h = (g20_10 x0 x1 x2 x3 x4 (fun y0 y1 y2 y3 => (k0 y0 y1 y2 y3).bind h)) := by
  simp only [g20_10, bind_brB, bind_ite, bind_none', Option.bind_assoc]
theorem t20_10 {N : Nat} {cl : Cal} {R : Type} (K : KE R) (x0 : D167) (x1 : Int) (x2 : Int) (x3 : Int) (x4 : Bool) : exec cl N c20_10 [(0, .v T167 x0), (3, .v T161 x1), (4, .v T161 x2), (5, .v T161 x3), (23, .v .bool x4)] K = (g20_10 x0 x1 x2 x3 x4 (fun y0 y1 y2 y3 => K .normal [(0, .v T167 y0), (3, .v T161 y1), (4, .v T161 y2), (5, .v T161 y3)])) := by
  kernel_rfl
theorem kp20_3 (x0 : D167) (x1 : Int) (x2 : Int) (x3 : Int) (x4 : Bool) : keep [0, 3, 4, 5] [(0, .v T167 x0), (3, .v T161 x1), (4, .v T161 x2), (5, .v T161 x3), (23, .v .bool x4)] = [(0, .v T167 x0), (3, .v T161 x1), (4, .v T161 x2), (5, .v T161 x3)] := by kernel_rfl
theorem hb20_2 (x0 : D167) (x1 : Int) (x2 : Int) (x3 : Int) (x4 : Bool) : boolOf? (ent [(0, .v T167 x0), (3, .v T161 x1), (4, .v T161 x2), (5, .v T161 x3), (23, .v .bool x4)] (.t 23)) = some x4 := by kernel_rfl
def g20_12 {R : Type} (x0 : D167) (x1 : Int) (x2 : Int) (x3 : Int) (k0 : D167 → Int → Int → Int → Option R) : Option R :=
(g20_8 x0 x1 x2 x3 (fun y0 y1 y2 y3 => (g20_9 y0 y1 y2 y3 (fun y0 y1 y2 y3 y4 => brB y4 (g20_10 y0 y1 y2 y3 y4 (fun y0 y1 y2 y3 => (k0 y0 y1 y2 y3))) (k0 y0 y1 y2 y3)))))
theorem ng20_12 {R R2 : Type} (x0 : D167) (x1 : Int) (x2 : Int) (x3 : Int) (k0 : D167 → Int → Int → Int → Option R) (h : R → Option R2) : ((g20_12 x0 x1 x2 x3 k0)).bind h = (g20_12 x0 x1 x2 x3 (fun y0 y1 y2 y3 => (k0 y0 y1 y2 y3).bind h)) := by
  simp only [g20_12, ng20_10, ng20_8, ng20_9, bind_brB, bind_ite, bind_none', Option.bind_assoc]
theorem t20_12 {N : Nat} {cl : Cal} {R : Type} (K : KE R) (x0 : D167) (x1 : Int) (x2 : Int) (x3 : Int) : exec cl N c20_12 [(0, .v T167 x0), (3, .v T161 x1), (4, .v T161 x2), (5, .v T161 x3)] K = (g20_12 x0 x1 x2 x3 (fun y0 y1 y2 y3 => K .normal [(0, .v T167 y0), (3, .v T161 y1), (4, .v T161 y2), (5, .v T161 y3)])) := by
  simp only [c20_12, exec_out, exec_block, exec_seq, seqK_normal, seqK_exit, seqK_ret, t20_8, t20_9, c20_11, exec_cond', hb20_2, Option.bind_some, brB_true, brB_false, t20_10, exec_skip, kp20_0, kp20_3, blockK_normal, blockK_ret, blockK_eq]
  rfl

def g20_13 {R : Type} (x0 : D167) (x1 : Int) (x2 : Int) (x3 : Int) (k0 : D167 → Int → Int → Int → Option R) : Option R :=
k0 x0 x1 x2 (IntKind.i64.wrap (x3 + (1 : Int)))
theorem ng20_13 {R R2 : Type} (x0 : D167) (x1 : Int) (x2 : Int) (x3 : Int) (k0 : D167 → Int → Int → Int → Option R) (h : R → Option R2) : ((g20_13 x0 x1 x2 x3 k0)).bind h = (g20_13 x0 x1 x2 x3 (fun y0 y1 y2 y3 => (k0 y0 y1 y2 y3).bind h)) := by
  simp only [g20_13, bind_brB, bind_ite, bind_none', Option.bind_assoc]
theorem t20_13 {N : Nat} {cl : Cal} {R : Type} (K : KE R) (x0 : D167) (x1 : Int) (x2 : Int) (x3 : Int) : exec cl N c20_13 [(0, .v T167 x0), (3, .v T161 x1), (4, .v T161 x2), (5, .v T161 x3)] K = (g20_13 x0 x1 x2 x3 (fun y0 y1 y2 y3 => K .normal [(0, .v T167 y0), (3, .v T161 y1), (4, .v T161 y2), (5, .v T161 y3)])) := by
  kernel_rfl
def g20_14 {R : Type} (x0 : D167) (x1 : Int) (x2 : Int) (x3 : Int) (k0 : D167 → Int → Int → Int → Option R) (k1 : D167 → Int → Int → Int → Option R) : Option R :=
(g20_3 x0 x1 x2 x3 (fun y0 y1 y2 y3 y4 => brB y4 ((fun y0 y1 y2 y3 => (g20_12 y0 y1 y2 y3 (fun y0 y1 y2 y3 => (g20_13 y0 y1 y2 y3 k0)))) y0 y1 y2 y3) (k1 y0 y1 y2 y3)))
theorem ng20_14 {R R2 : Type} (x0 : D167) (x1 : Int) (x2 : Int) (x3 : Int) (k0 : D167 → Int → Int → Int → Option R) (k1 : D167 → Int → Int → Int → Option R) (h : R → Option R2) : ((g20_14 x0 x1 x2 x3 k0 k1)).bind h = (g20_14 x0 x1 x2 x3 (fun y0 y1 y2 y3 => (k0 y0 y1 y2 y3).bind h) (fun y0 y1 y2 y3 => (k1 y0 y1 y2 y3).bind h)) := by
  simp only [g20_14, ng20_12, ng20_13, ng20_3, bind_brB, bind_ite, bind_none', Option.bind_assoc]
theorem t20_14 {N : Nat} {cl : Cal} {R : Type} (K : KE R) (x0 : D167) (x1 : Int) (x2 : Int) (x3 : Int) : exec cl N c20_14 [(0, .v T167 x0), (3, .v T161 x1), (4, .v T161 x2), (5, .v T161 x3)] K = (g20_14 x0 x1 x2 x3 (fun y0 y1 y2 y3 => K .normal [(0, .v T167 y0), (3, .v T161 y1), (4, .v T161 y2), (5, .v T161 y3)]) (fun y0 y1 y2 y3 => K (.exit 0) [(0, .v T167 y0), (3, .v T161 y1), (4, .v T161 y2), (5, .v T161 y3)])) := by
  simp only [c20_14, exec_seq, seqK_normal, seqK_exit, seqK_ret, t20_3, c20_4, exec_out, exec_cond', hb20_0, Option.bind_some, brB_true, brB_false, exec_skip, exec_exit, kp20_1, t20_12, t20_13]
  rfl

def l20_15 {R : Type} (k0 : D167 → Int → Int → Int → Option R) : Nat → D167 → Int → Int → Int → Option R
  | 0, _, _, _, _ => none
  | m + 1, x0, x1, x2, x3 => (g20_14 x0 x1 x2 x3 (fun y0 y1 y2 y3 => l20_15 k0 m y0 y1 y2 y3) k0)
theorem nl20_15 {R R2 : Type} (k0 : D167 → Int → Int → Int → Option R) (h : R → Option R2) : ∀ (m : Nat) (x0 : D167) (x1 : Int) (x2 : Int) (x3 : Int), (l20_15 k0 m x0 x1 x2 x3).bind h = l20_15 (fun y0 y1 y2 y3 => (k0 y0 y1 y2 y3).bind h) m x0 x1 x2 x3 := by
  intro m
  induction m with
  | zero => intros; rfl
  | succ m ih =>
    intro x0 x1 x2 x3
    simp only [l20_15, ng20_14, bind_brB, bind_ite, bind_none', ih]
theorem lt20_15 {N : Nat} {cl : Cal} {R : Type} (K : KE R) : ∀ (m : Nat) (x0 : D167) (x1 : Int) (x2 : Int) (x3 : Int), iter [0, 3, 4, 5] (fun env K => exec cl N c20_14 env K) K m [(0, .v T167 x0), (3, .v T161 x1), (4, .v T161 x2), (5, .v T161 x3)] = l20_15 (fun y0 y1 y2 y3 => K (.exit 0) [(0, .v T167 y0), (3, .v T161 y1), (4, .v T161 y2), (5, .v T161 y3)]) m x0 x1 x2 x3 := by
  intro m
  induction m with
  | zero => intros; rfl
  | succ m ih =>
    intro x0 x1 x2 x3
    simp only [iter_succ, t20_14, loopK_normal, loopK_exit, loopK_ret, kp20_0, ih]
    rfl

theorem kp20_4 (x0 : D167) (x1 : Int) (x2 : Int) (x3 : Int) : keep [3, 4] [(0, .v T167 x0), (3, .v T161 x1), (4, .v T161 x2), (5, .v T161 x3)] = [(3, .v T161 x1), (4, .v T161 x2)] := by kernel_rfl
def g20_15 {R : Type} (N : Nat) (x0 : D167) (x1 : Int) (x2 : Int) (x3 : Int) (k0 : Int → Int → Option R) : Option R :=
l20_15 (fun y0 y1 y2 y3 => k0 y1 y2) N x0 x1 x2 x3
theorem ng20_15 {R R2 : Type} (N : Nat) (x0 : D167) (x1 : Int) (x2 : Int) (x3 : Int) (k0 : Int → Int → Option R) (h : R → Option R2) : ((g20_15 N x0 x1 x2 x3 k0)).bind h = (g20_15 N x0 x1 x2 x3 (fun y0 y1 => (k0 y0 y1).bind h)) := by
  simp only [g20_15, nl20_15, bind_brB, bind_ite, bind_none', Option.bind_assoc]
theorem t20_15 {N : Nat} {cl : Cal} {R : Type} (K : KE R) (x0 : D167) (x1 : Int) (x2 : Int) (x3 : Int) : exec cl N c20_15 [(0, .v T167 x0), (3, .v T161 x1), (4, .v T161 x2), (5, .v T161 x3)] K = (g20_15 N x0 x1 x2 x3 (fun y0 y1 => K (.exit 0) [(3, .v T161 y0), (4, .v T161 y1)])) := by
  simp only [c20_15, exec_out, exec_loop, kp20_0, lt20_15, kp20_4]
  rfl

theorem kp20_5 (x0 : Int) (x1 : Int) : keep [3, 4] [(3, .v T161 x0), (4, .v T161 x1)] = [(3, .v T161 x0), (4, .v T161 x1)] := by kernel_rfl
def g20_17 {R : Type} (x0 : Int) (x1 : Int) (k0 : Int → Option R) : Option R :=
k0 (IntKind.i64.wrap (x0 + x1))
theorem ng20_17 {R R2 : Type} (x0 : Int) (x1 : Int) (k0 : Int → Option R) (h : R → Option R2) : ((g20_17 x0 x1 k0)).bind h = (g20_17 x0 x1 (fun y0 => (k0 y0).bind h)) := by
  simp only [g20_17, bind_brB, bind_ite, bind_none', Option.bind_assoc]
theorem t20_17 {N : Nat} {cl : Cal} {R : Type} (K : KE R) (x0 : Int) (x1 : Int) : exec cl N c20_17 [(3, .v T161 x0), (4, .v T161 x1)] K = (g20_17 x0 x1 (fun y0 => K .normal [(2, .v T161 y0)])) := by
  kernel_rfl
def g20_18 {R : Type} (N : Nat) (x0 : D167) (k0 : Int → Option R) : Option R :=
(g20_0 x0 (fun y0 => (g20_1 y0 (fun y0 y1 y2 => (g20_2 y0 y1 y2 (fun y0 y1 y2 y3 => (g20_15 N y0 y1 y2 y3 (fun y0 y1 => ((fun y0 y1 => (g20_17 y0 y1 (fun y0 => (k0 y0)))) y0 y1)))))))))
theorem ng20_18 {R R2 : Type} (N : Nat) (x0 : D167) (k0 : Int → Option R) (h : R → Option R2) : ((g20_18 N x0 k0)).bind h = (g20_18 N x0 (fun y0 => (k0 y0).bind h)) := by
  simp only [g20_18, ng20_0, ng20_1, ng20_15, ng20_17, ng20_2, bind_brB, bind_ite, bind_none', Option.bind_assoc]
theorem t20_18 {N : Nat} {cl : Cal} {R : Type} (K : KE R) (x0 : D167) : exec cl N c20_18 [(0, .v T167 x0)] K = (g20_18 N x0 (fun y0 => K .ret [(2, .v T161 y0)])) := by
  simp only [c20_18, exec_seq, seqK_normal, seqK_exit, seqK_ret, t20_0, t20_1, t20_2, c20_16, exec_out, exec_block, t20_15, blockK_normal, blockK_ret, blockK_eq, kp20_5, t20_17, exec_ret]
  rfl

theorem rk20_0 (y0 : Int) : retK d20 .ret [(2, .v T161 y0)] = some [.v T161 y0] := by kernel_rfl
def g20 {R : Type} (N : Nat) (x0 : D167) (k : Int → Option R) : Option R :=
(g20_18 N x0 (fun y0 => k y0))
theorem gen20 {N : Nat} {cl : Cal} (x0 : D167) : exec cl N c20 (params 0 [.v T167 x0]) (retK d20) = g20 N x0 (fun (r0 : Int) => some [.v T161 r0]) := by
  have e0 : params 0 [.v T167 x0] = [(0, .v T167 x0)] := by kernel_rfl
  simp only [c20, e0, t20_18, rk20_0]
  rfl

def ctr20 (S : D167 → Option (Int)) : Ctr := { A := D167 × Unit, B := Int, f := 20, enc := fun a => [.v T167 a.1], dec := (decC (decV T167) dec0), S := fun a => S a.1, ent := fun b => [.v T161 b], ok := (decV_cons (T := T167) (fun es b h => dec0_some h)) }
def S20 (N : Nat) (x0 : D167) : Option (Int) := g20 N x0 (fun (r0 : Int) => some (r0))
theorem ng20 {R R2 : Type} (N : Nat) (x0 : D167) (k : Int → Option R) (h : R → Option R2) : (g20 N x0 k).bind h = g20 N x0 (fun (r0 : Int) => (k r0).bind h) := by
  simp only [g20, ng20_18]
-- anceps/ancepslaw16.WeightPick
def g6_0 {R : Type} (x0 : D167) (x1 : Int) (k0 : D167 → Int → Option R) : Option R :=
k0 x0 x1
theorem ng6_0 {R R2 : Type} (x0 : D167) (x1 : Int) (k0 : D167 → Int → Option R) (h : R → Option R2) : ((g6_0 x0 x1 k0)).bind h = (g6_0 x0 x1 (fun y0 y1 => (k0 y0 y1).bind h)) := by
  simp only [g6_0, bind_brB, bind_ite, bind_none', Option.bind_assoc]
theorem t6_0 {N : Nat} {cl : Cal} {R : Type} (K : KE R) (x0 : D167) (x1 : Int) : exec cl N c6_0 [(0, .v T167 x0), (1, .v T161 x1)] K = (g6_0 x0 x1 (fun y0 y1 => K .normal [(0, .v T167 y0), (1, .v T161 y1)])) := by
  kernel_rfl
def g6_1 {R : Type} (S11 : Option (Bool)) (x0 : D167) (x1 : Int) (k0 : D167 → Int → Bool → Option R) : Option R :=
(S11).bind fun r222 =>
brB (!r222) (k0 x0 x1 true) (k0 x0 x1 (decide ((x0.length : Int) > (40 : Int))))
theorem ng6_1 {R R2 : Type} (S11 : Option (Bool)) (x0 : D167) (x1 : Int) (k0 : D167 → Int → Bool → Option R) (h : R → Option R2) : ((g6_1 S11 x0 x1 k0)).bind h = (g6_1 S11 x0 x1 (fun y0 y1 y2 => (k0 y0 y1 y2).bind h)) := by
  simp only [g6_1, bind_brB, bind_ite, bind_none', Option.bind_assoc]
theorem t6_1 {N : Nat} {cl : Cal} (S11 : Option (Bool)) (h11 : (ctr11 S11).holds cl) {R : Type} (K : KE R) (x0 : D167) (x1 : Int) : exec cl N c6_1 [(0, .v T167 x0), (1, .v T161 x1)] K = (g6_1 S11 x0 x1 (fun y0 y1 y2 => K .normal [(0, .v T167 y0), (1, .v T161 y1), (20, .v .bool y2)])) := by
  rw [← put_eq h11]
  kernel_rfl
def g6_2 {R : Type} (S11 : Option (Bool)) (x0 : D167) (x1 : Int) (x2 : Bool) (k0 : Bool → Option R) : Option R :=
(S11).bind fun r224 =>
k0 r224
theorem ng6_2 {R R2 : Type} (S11 : Option (Bool)) (x0 : D167) (x1 : Int) (x2 : Bool) (k0 : Bool → Option R) (h : R → Option R2) : ((g6_2 S11 x0 x1 x2 k0)).bind h = (g6_2 S11 x0 x1 x2 (fun y0 => (k0 y0).bind h)) := by
  simp only [g6_2, bind_brB, bind_ite, bind_none', Option.bind_assoc]
theorem t6_2 {N : Nat} {cl : Cal} (S11 : Option (Bool)) (h11 : (ctr11 S11).holds cl) {R : Type} (K : KE R) (x0 : D167) (x1 : Int) (x2 : Bool) : exec cl N c6_2 [(0, .v T167 x0), (1, .v T161 x1), (20, .v .bool x2)] K = (g6_2 S11 x0 x1 x2 (fun y0 => K .normal [(4, .v .bool y0)])) := by
  rw [← put_eq h11]
  kernel_rfl
theorem kp6_0 (x0 : Bool) : keep [0, 1, 4] [(4, .v .bool x0)] = [(0, .dead), (1, .dead), (4, .v .bool x0)] := by kernel_rfl
theorem kp6_1 (x0 : D167) (x1 : Int) (x2 : Bool) : keep [0, 1, 4] [(0, .v T167 x0), (1, .v T161 x1), (20, .v .bool x2)] = [(0, .v T167 x0), (1, .v T161 x1), (4, .dead)] := by kernel_rfl
theorem hb6_0 (x0 : D167) (x1 : Int) (x2 : Bool) : boolOf? (ent [(0, .v T167 x0), (1, .v T161 x1), (20, .v .bool x2)] (.t 20)) = some x2 := by kernel_rfl
def g6_4 {R : Type} (S17 : D167 → Int → Option D163) (x0 : D167) (x1 : Int) (k0 : D167 → Int → Int → Bool → Option R) : Option R :=
(S17 x0 x1).bind fun r225 =>
k0 x0 x1 r225.1 r225.2
theorem ng6_4 {R R2 : Type} (S17 : D167 → Int → Option D163) (x0 : D167) (x1 : Int) (k0 : D167 → Int → Int → Bool → Option R) (h : R → Option R2) : ((g6_4 S17 x0 x1 k0)).bind h = (g6_4 S17 x0 x1 (fun y0 y1 y2 y3 => (k0 y0 y1 y2 y3).bind h)) := by
  simp only [g6_4, bind_brB, bind_ite, bind_none', Option.bind_assoc]
theorem t6_4 {N : Nat} {cl : Cal} (S17 : D167 → Int → Option D163) (h17 : (ctr17 S17).holds cl) {R : Type} (K : KE R) (x0 : D167) (x1 : Int) : exec cl N c6_4 [(0, .v T167 x0), (1, .v T161 x1), (4, .dead)] K = (g6_4 S17 x0 x1 (fun y0 y1 y2 y3 => K .normal [(0, .v T167 y0), (1, .v T161 y1), (5, .v T161 y2), (6, .v .bool y3)])) := by
  rw [← put_eq h17]
  kernel_rfl
def g6_5 {R : Type} (S18 : D167 → Int → Option D163) (x0 : D167) (x1 : Int) (x2 : Int) (x3 : Bool) (k0 : D167 → Int → Bool → Int → Bool → Option R) : Option R :=
(S18 x0 x1).bind fun r226 =>
k0 x0 x2 x3 r226.1 r226.2
theorem ng6_5 {R R2 : Type} (S18 : D167 → Int → Option D163) (x0 : D167) (x1 : Int) (x2 : Int) (x3 : Bool) (k0 : D167 → Int → Bool → Int → Bool → Option R) (h : R → Option R2) : ((g6_5 S18 x0 x1 x2 x3 k0)).bind h = (g6_5 S18 x0 x1 x2 x3 (fun y0 y1 y2 y3 y4 => (k0 y0 y1 y2 y3 y4).bind h)) := by
  simp only [g6_5, bind_brB, bind_ite, bind_none', Option.bind_assoc]
theorem t6_5 {N : Nat} {cl : Cal} (S18 : D167 → Int → Option D163) (h18 : (ctr18 S18).holds cl) {R : Type} (K : KE R) (x0 : D167) (x1 : Int) (x2 : Int) (x3 : Bool) : exec cl N c6_5 [(0, .v T167 x0), (1, .v T161 x1), (5, .v T161 x2), (6, .v .bool x3)] K = (g6_5 S18 x0 x1 x2 x3 (fun y0 y1 y2 y3 y4 => K .normal [(0, .v T167 y0), (5, .v T161 y1), (6, .v .bool y2), (7, .v T161 y3), (8, .v .bool y4)])) := by
  rw [← put_eq h18]
  kernel_rfl
def g6_6 {R : Type} (S19 : D167 → Option (Int)) (x0 : D167) (x1 : Int) (x2 : Bool) (x3 : Int) (x4 : Bool) (k0 : D167 → Int → Bool → Int → Bool → Int → Option R) : Option R :=
(S19 x0).bind fun r227 =>
k0 x0 x1 x2 x3 x4 r227
theorem ng6_6 {R R2 : Type} (S19 : D167 → Option (Int)) (x0 : D167) (x1 : Int) (x2 : Bool) (x3 : Int) (x4 : Bool) (k0 : D167 → Int → Bool → Int → Bool → Int → Option R) (h : R → Option R2) : ((g6_6 S19 x0 x1 x2 x3 x4 k0)).bind h = (g6_6 S19 x0 x1 x2 x3 x4 (fun y0 y1 y2 y3 y4 y5 => (k0 y0 y1 y2 y3 y4 y5).bind h)) := by
  simp only [g6_6, bind_brB, bind_ite, bind_none', Option.bind_assoc]
theorem t6_6 {N : Nat} {cl : Cal} (S19 : D167 → Option (Int)) (h19 : (ctr19 S19).holds cl) {R : Type} (K : KE R) (x0 : D167) (x1 : Int) (x2 : Bool) (x3 : Int) (x4 : Bool) : exec cl N c6_6 [(0, .v T167 x0), (5, .v T161 x1), (6, .v .bool x2), (7, .v T161 x3), (8, .v .bool x4)] K = (g6_6 S19 x0 x1 x2 x3 x4 (fun y0 y1 y2 y3 y4 y5 => K .normal [(0, .v T167 y0), (5, .v T161 y1), (6, .v .bool y2), (7, .v T161 y3), (8, .v .bool y4), (9, .v T161 y5)])) := by
  rw [← put_eq h19]
  kernel_rfl
def g6_7 {R : Type} (S17 : D167 → Int → Option D163) (x0 : D167) (x1 : Int) (x2 : Bool) (x3 : Int) (x4 : Bool) (x5 : Int) (k0 : D167 → Int → Bool → Int → Bool → Int → Bool → Option R) : Option R :=
(S17 x0 (1 : Int)).bind fun r228 =>
k0 x0 x1 x2 x3 x4 x5 r228.2
theorem ng6_7 {R R2 : Type} (S17 : D167 → Int → Option D163) (x0 : D167) (x1 : Int) (x2 : Bool) (x3 : Int) (x4 : Bool) (x5 : Int) (k0 : D167 → Int → Bool → Int → Bool → Int → Bool → Option R) (h : R → Option R2) : ((g6_7 S17 x0 x1 x2 x3 x4 x5 k0)).bind h = (g6_7 S17 x0 x1 x2 x3 x4 x5 (fun y0 y1 y2 y3 y4 y5 y6 => (k0 y0 y1 y2 y3 y4 y5 y6).bind h)) := by
  simp only [g6_7, bind_brB, bind_ite, bind_none', Option.bind_assoc]
theorem t6_7 {N : Nat} {cl : Cal} (S17 : D167 → Int → Option D163) (h17 : (ctr17 S17).holds cl) {R : Type} (K : KE R) (x0 : D167) (x1 : Int) (x2 : Bool) (x3 : Int) (x4 : Bool) (x5 : Int) : exec cl N c6_7 [(0, .v T167 x0), (5, .v T161 x1), (6, .v .bool x2), (7, .v T161 x3), (8, .v .bool x4), (9, .v T161 x5)] K = (g6_7 S17 x0 x1 x2 x3 x4 x5 (fun y0 y1 y2 y3 y4 y5 y6 => K .normal [(0, .v T167 y0), (5, .v T161 y1), (6, .v .bool y2), (7, .v T161 y3), (8, .v .bool y4), (9, .v T161 y5), (11, .v .bool y6)])) := by
  rw [← put_eq h17]
  kernel_rfl
def g6_8 {R : Type} (S17 : D167 → Int → Option D163) (x0 : D167) (x1 : Int) (x2 : Bool) (x3 : Int) (x4 : Bool) (x5 : Int) (x6 : Bool) (k0 : D167 → Int → Bool → Int → Bool → Int → Bool → Bool → Option R) : Option R :=
(S17 x0 (2 : Int)).bind fun r229 =>
k0 x0 x1 x2 x3 x4 x5 x6 r229.2
theorem ng6_8 {R R2 : Type} (S17 : D167 → Int → Option D163) (x0 : D167) (x1 : Int) (x2 : Bool) (x3 : Int) (x4 : Bool) (x5 : Int) (x6 : Bool) (k0 : D167 → Int → Bool → Int → Bool → Int → Bool → Bool → Option R) (h : R → Option R2) : ((g6_8 S17 x0 x1 x2 x3 x4 x5 x6 k0)).bind h = (g6_8 S17 x0 x1 x2 x3 x4 x5 x6 (fun y0 y1 y2 y3 y4 y5 y6 y7 => (k0 y0 y1 y2 y3 y4 y5 y6 y7).bind h)) := by
  simp only [g6_8, bind_brB, bind_ite, bind_none', Option.bind_assoc]
theorem t6_8 {N : Nat} {cl : Cal} (S17 : D167 → Int → Option D163) (h17 : (ctr17 S17).holds cl) {R : Type} (K : KE R) (x0 : D167) (x1 : Int) (x2 : Bool) (x3 : Int) (x4 : Bool) (x5 : Int) (x6 : Bool) : exec cl N c6_8 [(0, .v T167 x0), (5, .v T161 x1), (6, .v .bool x2), (7, .v T161 x3), (8, .v .bool x4), (9, .v T161 x5), (11, .v .bool x6)] K = (g6_8 S17 x0 x1 x2 x3 x4 x5 x6 (fun y0 y1 y2 y3 y4 y5 y6 y7 => K .normal [(0, .v T167 y0), (5, .v T161 y1), (6, .v .bool y2), (7, .v T161 y3), (8, .v .bool y4), (9, .v T161 y5), (11, .v .bool y6), (13, .v .bool y7)])) := by
  rw [← put_eq h17]
  kernel_rfl
def g6_9 {R : Type} (S20 : D167 → Option (Int)) (x0 : D167) (x1 : Int) (x2 : Bool) (x3 : Int) (x4 : Bool) (x5 : Int) (x6 : Bool) (x7 : Bool) (k0 : Bool → Option R) : Option R :=
brB (x1 == x3) (brB (x2 == x4) ((S20 x0).bind fun r230 =>
brB (x5 == r230) (brB (x6 == (decide ((Go.bits .and IntKind.i64 x5 (1 : Int)) > (0 : Int)))) (k0 (x7 == (decide ((Go.bits .and IntKind.i64 x5 (2 : Int)) > (0 : Int))))) (k0 false)) (k0 false)) (k0 false)) (k0 false)
theorem ng6_9 {R R2 : Type} (S20 : D167 → Option (Int)) (x0 : D167) (x1 : Int) (x2 : Bool) (x3 : Int) (x4 : Bool) (x5 : Int) (x6 : Bool) (x7 : Bool) (k0 : Bool → Option R) (h : R → Option R2) : ((g6_9 S20 x0 x1 x2 x3 x4 x5 x6 x7 k0)).bind h = (g6_9 S20 x0 x1 x2 x3 x4 x5 x6 x7 (fun y0 => (k0 y0).bind h)) := by
  simp only [g6_9, bind_brB, bind_ite, bind_none', Option.bind_assoc]
theorem t6_9 {N : Nat} {cl : Cal} (S20 : D167 → Option (Int)) (h20 : (ctr20 S20).holds cl) {R : Type} (K : KE R) (x0 : D167) (x1 : Int) (x2 : Bool) (x3 : Int) (x4 : Bool) (x5 : Int) (x6 : Bool) (x7 : Bool) : exec cl N c6_9 [(0, .v T167 x0), (5, .v T161 x1), (6, .v .bool x2), (7, .v T161 x3), (8, .v .bool x4), (9, .v T161 x5), (11, .v .bool x6), (13, .v .bool x7)] K = (g6_9 S20 x0 x1 x2 x3 x4 x5 x6 x7 (fun y0 => K .normal [(4, .v .bool y0)])) := by
  rw [← put_eq h20]
  kernel_rfl
def g6_10 {R : Type} (S11 : Option (Bool)) (S17 : D167 → Int → Option D163) (S18 : D167 → Int → Option D163) (S19 : D167 → Option (Int)) (S20 : D167 → Option (Int)) (x0 : D167) (x1 : Int) (k0 : Bool → Option R) (k1 : Bool → Option R) : Option R :=
(g6_0 x0 x1 (fun y0 y1 => (g6_1 S11 y0 y1 (fun y0 y1 y2 => brB y2 (g6_2 S11 y0 y1 y2 (fun y0 => ((fun y0 => (k0 y0)) y0))) ((fun y0 y1 => (g6_4 S17 y0 y1 (fun y0 y1 y2 y3 => (g6_5 S18 y0 y1 y2 y3 (fun y0 y1 y2 y3 y4 => (g6_6 S19 y0 y1 y2 y3 y4 (fun y0 y1 y2 y3 y4 y5 => (g6_7 S17 y0 y1 y2 y3 y4 y5 (fun y0 y1 y2 y3 y4 y5 y6 => (g6_8 S17 y0 y1 y2 y3 y4 y5 y6 (fun y0 y1 y2 y3 y4 y5 y6 y7 => (g6_9 S20 y0 y1 y2 y3 y4 y5 y6 y7 (fun y0 => (k1 y0)))))))))))))) y0 y1)))))
theorem ng6_10 {R R2 : Type} (S11 : Option (Bool)) (S17 : D167 → Int → Option D163) (S18 : D167 → Int → Option D163) (S19 : D167 → Option (Int)) (S20 : D167 → Option (Int)) (x0 : D167) (x1 : Int) (k0 : Bool → Option R) (k1 : Bool → Option R) (h : R → Option R2) : ((g6_10 S11 S17 S18 S19 S20 x0 x1 k0 k1)).bind h = (g6_10 S11 S17 S18 S19 S20 x0 x1 (fun y0 => (k0 y0).bind h) (fun y0 => (k1 y0).bind h)) := by
  simp only [g6_10, ng6_0, ng6_1, ng6_2, ng6_4, ng6_5, ng6_6, ng6_7, ng6_8, ng6_9, bind_brB, bind_ite, bind_none', Option.bind_assoc]
theorem t6_10 {N : Nat} {cl : Cal} (S11 : Option (Bool)) (S17 : D167 → Int → Option D163) (S18 : D167 → Int → Option D163) (S19 : D167 → Option (Int)) (S20 : D167 → Option (Int)) (h11 : (ctr11 S11).holds cl) (h17 : (ctr17 S17).holds cl) (h18 : (ctr18 S18).holds cl) (h19 : (ctr19 S19).holds cl) (h20 : (ctr20 S20).holds cl) {R : Type} (K : KE R) (x0 : D167) (x1 : Int) : exec cl N c6_10 [(0, .v T167 x0), (1, .v T161 x1)] K = (g6_10 S11 S17 S18 S19 S20 x0 x1 (fun y0 => K .ret [(0, .dead), (1, .dead), (4, .v .bool y0)]) (fun y0 => K .ret [(4, .v .bool y0)])) := by
  simp only [c6_10, exec_seq, seqK_normal, seqK_exit, seqK_ret, t6_0, t6_1 S11 h11, c6_3, exec_out, exec_cond', hb6_0, Option.bind_some, brB_true, brB_false, t6_2 S11 h11, exec_ret, exec_skip, kp6_0, kp6_1, t6_4 S17 h17, t6_5 S18 h18, t6_6 S19 h19, t6_7 S17 h17, t6_8 S17 h17, t6_9 S20 h20]
  rfl

theorem rk6_0 (y0 : Bool) : retK d6 .ret [(0, .dead), (1, .dead), (4, .v .bool y0)] = some [.v .bool y0] := by kernel_rfl
theorem rk6_1 (y0 : Bool) : retK d6 .ret [(4, .v .bool y0)] = some [.v .bool y0] := by kernel_rfl
def g6 {R : Type} (S11 : Option (Bool)) (S17 : D167 → Int → Option D163) (S18 : D167 → Int → Option D163) (S19 : D167 → Option (Int)) (S20 : D167 → Option (Int)) (x0 : D167) (x1 : Int) (k : Bool → Option R) : Option R :=
(g6_10 S11 S17 S18 S19 S20 x0 x1 (fun y0 => k y0) (fun y0 => k y0))
theorem gen6 {N : Nat} {cl : Cal} (S11 : Option (Bool)) (S17 : D167 → Int → Option D163) (S18 : D167 → Int → Option D163) (S19 : D167 → Option (Int)) (S20 : D167 → Option (Int)) (h11 : (ctr11 S11).holds cl) (h17 : (ctr17 S17).holds cl) (h18 : (ctr18 S18).holds cl) (h19 : (ctr19 S19).holds cl) (h20 : (ctr20 S20).holds cl) (x0 : D167) (x1 : Int) : exec cl N c6 (params 0 [.v T167 x0, .v T161 x1]) (retK d6) = g6 S11 S17 S18 S19 S20 x0 x1 (fun (r0 : Bool) => some [.v .bool r0]) := by
  have e0 : params 0 [.v T167 x0, .v T161 x1] = [(0, .v T167 x0), (1, .v T161 x1)] := by kernel_rfl
  simp only [c6, e0, t6_10 S11 S17 S18 S19 S20 h11 h17 h18 h19 h20, rk6_0, rk6_1]
  rfl

def ctr6 (S : D167 → Int → Option (Bool)) : Ctr := { A := D167 × Int × Unit, B := Bool, f := 6, enc := fun a => [.v T167 a.1, .v T161 a.2.1], dec := (decC (decV T167) (decC (decV T161) dec0)), S := fun a => S a.1 a.2.1, ent := fun b => [.v .bool b], ok := (decV_cons (T := T167) (decV_cons (T := T161) (fun es b h => dec0_some h))) }
def S6 (N : Nat) (x0 : D167) (x1 : Int) : Option (Bool) := g6 (S11 N) (S17 N) (S18 N) (S19 N) (S20 N) x0 x1 (fun (r0 : Bool) => some (r0))
theorem ng6 {R R2 : Type} (S11 : Option (Bool)) (S17 : D167 → Int → Option D163) (S18 : D167 → Int → Option D163) (S19 : D167 → Option (Int)) (S20 : D167 → Option (Int)) (x0 : D167) (x1 : Int) (k : Bool → Option R) (h : R → Option R2) : (g6 S11 S17 S18 S19 S20 x0 x1 k).bind h = g6 S11 S17 S18 S19 S20 x0 x1 (fun (r0 : Bool) => (k r0).bind h) := by
  simp only [g6, ng6_10]
-- slices.Index[[]int,int]
def g42_0 {R : Type} (x0 : D160) (x1 : Int) (k0 : D160 → Int → Option R) : Option R :=
k0 x0 x1
theorem ng42_0 {R R2 : Type} (x0 : D160) (x1 : Int) (k0 : D160 → Int → Option R) (h : R → Option R2) : ((g42_0 x0 x1 k0)).bind h = (g42_0 x0 x1 (fun y0 y1 => (k0 y0 y1).bind h)) := by
  simp only [g42_0, bind_brB, bind_ite, bind_none', Option.bind_assoc]
theorem t42_0 {N : Nat} {cl : Cal} {R : Type} (K : KE R) (x0 : D160) (x1 : Int) : exec cl N c42_0 [(0, .v T162 x0), (1, .v T161 x1)] K = (g42_0 x0 x1 (fun y0 y1 => K .normal [(0, .v T162 y0), (1, .v T161 y1)])) := by
  kernel_rfl
def g42_1 {R : Type} (x0 : D160) (x1 : Int) (k0 : D160 → Int → Int → Int → Option R) : Option R :=
k0 x0 x1 (x0.length : Int) (0 : Int)
theorem ng42_1 {R R2 : Type} (x0 : D160) (x1 : Int) (k0 : D160 → Int → Int → Int → Option R) (h : R → Option R2) : ((g42_1 x0 x1 k0)).bind h = (g42_1 x0 x1 (fun y0 y1 y2 y3 => (k0 y0 y1 y2 y3).bind h)) := by
  simp only [g42_1, bind_brB, bind_ite, bind_none', Option.bind_assoc]
theorem t42_1 {N : Nat} {cl : Cal} {R : Type} (K : KE R) (x0 : D160) (x1 : Int) : exec cl N c42_1 [(0, .v T162 x0), (1, .v T161 x1)] K = (g42_1 x0 x1 (fun y0 y1 y2 y3 => K .normal [(0, .v T162 y0), (1, .v T161 y1), (7, .v T161 y2), (8, .v T161 y3)])) := by
  kernel_rfl
theorem kp42_0 (x0 : D160) (x1 : Int) (x2 : Int) (x3 : Int) : keep [0, 1, 7, 8] [(0, .v T162 x0), (1, .v T161 x1), (7, .v T161 x2), (8, .v T161 x3)] = [(0, .v T162 x0), (1, .v T161 x1), (7, .v T161 x2), (8, .v T161 x3)] := by kernel_rfl
def g42_2 {R : Type} (x0 : D160) (x1 : Int) (x2 : Int) (x3 : Int) (k0 : D160 → Int → Int → Int → Bool → Option R) : Option R :=
k0 x0 x1 x2 x3 (decide (x3 < x2))
theorem ng42_2 {R R2 : Type} (x0 : D160) (x1 : Int) (x2 : Int) (x3 : Int) (k0 : D160 → Int → Int → Int → Bool → Option R) (h : R → Option R2) : ((g42_2 x0 x1 x2 x3 k0)).bind h = (g42_2 x0 x1 x2 x3 (fun y0 y1 y2 y3 y4 => (k0 y0 y1 y2 y3 y4).bind h)) := by
  simp only [g42_2, bind_brB, bind_ite, bind_none', Option.bind_assoc]
theorem t42_2 {N : Nat} {cl : Cal} {R : Type} (K : KE R) (x0 : D160) (x1 : Int) (x2 : Int) (x3 : Int) : exec cl N c42_2 [(0, .v T162 x0), (1, .v T161 x1), (7, .v T161 x2), (8, .v T161 x3)] K = (g42_2 x0 x1 x2 x3 (fun y0 y1 y2 y3 y4 => K .normal [(0, .v T162 y0), (1, .v T161 y1), (7, .v T161 y2), (8, .v T161 y3), (9, .v .bool y4)])) := by
  kernel_rfl
theorem kp42_1 (x0 : D160) (x1 : Int) (x2 : Int) (x3 : Int) (x4 : Bool) : keep [0, 1, 7, 8] [(0, .v T162 x0), (1, .v T161 x1), (7, .v T161 x2), (8, .v T161 x3), (9, .v .bool x4)] = [(0, .v T162 x0), (1, .v T161 x1), (7, .v T161 x2), (8, .v T161 x3)] := by kernel_rfl
theorem hb42_0 (x0 : D160) (x1 : Int) (x2 : Int) (x3 : Int) (x4 : Bool) : boolOf? (ent [(0, .v T162 x0), (1, .v T161 x1), (7, .v T161 x2), (8, .v T161 x3), (9, .v .bool x4)] (.t 9)) = some x4 := by kernel_rfl
def g42_4 {R : Type} (x0 : D160) (x1 : Int) (x2 : Int) (x3 : Int) (k0 : D160 → Int → Int → Int → Int → Option R) : Option R :=
k0 x0 x1 x3 x2 x3
theorem ng42_4 {R R2 : Type} (x0 : D160) (x1 : Int) (x2 : Int) (x3 : Int) (k0 : D160 → Int → Int → Int → Int → Option R) (h : R → Option R2) : ((g42_4 x0 x1 x2 x3 k0)).bind h = (g42_4 x0 x1 x2 x3 (fun y0 y1 y2 y3 y4 => (k0 y0 y1 y2 y3 y4).bind h)) := by
  simp only [g42_4, bind_brB, bind_ite, bind_none', Option.bind_assoc]
theorem t42_4 {N : Nat} {cl : Cal} {R : Type} (K : KE R) (x0 : D160) (x1 : Int) (x2 : Int) (x3 : Int) : exec cl N c42_4 [(0, .v T162 x0), (1, .v T161 x1), (7, .v T161 x2), (8, .v T161 x3)] K = (g42_4 x0 x1 x2 x3 (fun y0 y1 y2 y3 y4 => K .normal [(0, .v T162 y0), (1, .v T161 y1), (5, .v T161 y2), (7, .v T161 y3), (8, .v T161 y4)])) := by
  kernel_rfl
def g42_5 {R : Type} (x0 : D160) (x1 : Int) (x2 : Int) (x3 : Int) (x4 : Int) (k0 : D160 → Int → Int → Int → Int → Bool → Option R) : Option R :=
if 0 ≤ x2 ∧ x2 < (x0.length : Int) then
k0 x0 x1 x2 x3 x4 (x1 == (x0.getD x2.toNat (0 : Int)))
else none
theorem ng42_5 {R R2 : Type} (x0 : D160) (x1 : Int) (x2 : Int) (x3 : Int) (x4 : Int) (k0 : D160 → Int → Int → Int → Int → Bool → Option R) (h : R → Option R2) : ((g42_5 x0 x1 x2 x3 x4 k0)).bind h = (g42_5 x0 x1 x2 x3 x4 (fun y0 y1 y2 y3 y4 y5 => (k0 y0 y1 y2 y3 y4 y5).bind h)) := by
  simp only [g42_5, bind_brB, bind_ite, bind_none', Option.bind_assoc]
theorem t42_5 {N : Nat} {cl : Cal} {R : Type} (K : KE R) (x0 : D160) (x1 : Int) (x2 : Int) (x3 : Int) (x4 : Int) : exec cl N c42_5 [(0, .v T162 x0), (1, .v T161 x1), (5, .v T161 x2), (7, .v T161 x3), (8, .v T161 x4)] K = (g42_5 x0 x1 x2 x3 x4 (fun y0 y1 y2 y3 y4 y5 => K .normal [(0, .v T162 y0), (1, .v T161 y1), (5, .v T161 y2), (7, .v T161 y3), (8, .v T161 y4), (16, .v .bool y5)])) := by
  kernel_rfl
def g42_6 {R : Type} (x0 : D160) (x1 : Int) (x2 : Int) (x3 : Int) (x4 : Int) (x5 : Bool) (k0 : Int → Option R) : Option R :=
k0 x2
theorem ng42_6 {R R2 : Type} (x0 : D160) (x1 : Int) (x2 : Int) (x3 : Int) (x4 : Int) (x5 : Bool) (k0 : Int → Option R) (h : R → Option R2) : ((g42_6 x0 x1 x2 x3 x4 x5 k0)).bind h = (g42_6 x0 x1 x2 x3 x4 x5 (fun y0 => (k0 y0).bind h)) := by
  simp only [g42_6, bind_brB, bind_ite, bind_none', Option.bind_assoc]
theorem t42_6 {N : Nat} {cl : Cal} {R : Type} (K : KE R) (x0 : D160) (x1 : Int) (x2 : Int) (x3 : Int) (x4 : Int) (x5 : Bool) : exec cl N c42_6 [(0, .v T162 x0), (1, .v T161 x1), (5, .v T161 x2), (7, .v T161 x3), (8, .v T161 x4), (16, .v .bool x5)] K = (g42_6 x0 x1 x2 x3 x4 x5 (fun y0 => K .normal [(4, .v T161 y0)])) := by
  kernel_rfl
theorem kp42_2 (x0 : Int) : keep [0, 1, 4, 7, 8] [(4, .v T161 x0)] = [(0, .dead), (1, .dead), (4, .v T161 x0), (7, .dead), (8, .dead)] := by kernel_rfl
theorem kp42_3 (x0 : D160) (x1 : Int) (x2 : Int) (x3 : Int) (x4 : Int) (x5 : Bool) : keep [0, 1, 4, 7, 8] [(0, .v T162 x0), (1, .v T161 x1), (5, .v T161 x2), (7, .v T161 x3), (8, .v T161 x4), (16, .v .bool x5)] = [(0, .v T162 x0), (1, .v T161 x1), (4, .dead), (7, .v T161 x3), (8, .v T161 x4)] := by kernel_rfl
theorem hb42_1 (x0 : D160) (x1 : Int) (x2 : Int) (x3 : Int) (x4 : Int) (x5 : Bool) : boolOf? (ent [(0, .v T162 x0), (1, .v T161 x1), (5, .v T161 x2), (7, .v T161 x3), (8, .v T161 x4), (16, .v .bool x5)] (.t 16)) = some x5 := by kernel_rfl
theorem kp42_4 (x0 : Int) : keep [0, 1, 4, 7, 8] [(0, .dead), (1, .dead), (4, .v T161 x0), (7, .dead), (8, .dead)] = [(0, .dead), (1, .dead), (4, .v T161 x0), (7, .dead), (8, .dead)] := by kernel_rfl
theorem kp42_5 (x0 : D160) (x1 : Int) (x2 : Int) (x3 : Int) : keep [0, 1, 4, 7, 8] [(0, .v T162 x0), (1, .v T161 x1), (4, .dead), (7, .v T161 x2), (8, .v T161 x3)] = [(0, .v T162 x0), (1, .v T161 x1), (4, .dead), (7, .v T161 x2), (8, .v T161 x3)] := by kernel_rfl
def g42_9 {R : Type} (x0 : D160) (x1 : Int) (x2 : Int) (x3 : Int) (k0 : D160 → Int → Int → Int → Option R) : Option R :=
k0 x0 x1 x2 (IntKind.i64.wrap (x3 + (1 : Int)))
theorem ng42_9 {R R2 : Type} (x0 : D160) (x1 : Int) (x2 : Int) (x3 : Int) (k0 : D160 → Int → Int → Int → Option R) (h : R → Option R2) : ((g42_9 x0 x1 x2 x3 k0)).bind h = (g42_9 x0 x1 x2 x3 (fun y0 y1 y2 y3 => (k0 y0 y1 y2 y3).bind h)) := by
  simp only [g42_9, bind_brB, bind_ite, bind_none', Option.bind_assoc]
theorem t42_9 {N : Nat} {cl : Cal} {R : Type} (K : KE R) (x0 : D160) (x1 : Int) (x2 : Int) (x3 : Int) : exec cl N c42_9 [(0, .v T162 x0), (1, .v T161 x1), (4, .dead), (7, .v T161 x2), (8, .v T161 x3)] K = (g42_9 x0 x1 x2 x3 (fun y0 y1 y2 y3 => K .normal [(0, .v T162 y0), (1, .v T161 y1), (7, .v T161 y2), (8, .v T161 y3)])) := by
  kernel_rfl
def g42_10 {R : Type} (x0 : D160) (x1 : Int) (x2 : Int) (x3 : Int) (k0 : Int → Option R) (k1 : D160 → Int → Int → Int → Option R) (k2 : D160 → Int → Int → Int → Option R) : Option R :=
(g42_2 x0 x1 x2 x3 (fun y0 y1 y2 y3 y4 => brB y4 ((fun y0 y1 y2 y3 => (g42_4 y0 y1 y2 y3 (fun y0 y1 y2 y3 y4 => (g42_5 y0 y1 y2 y3 y4 (fun y0 y1 y2 y3 y4 y5 => brB y5 (g42_6 y0 y1 y2 y3 y4 y5 (fun y0 => ((fun y0 => (k0 y0)) y0))) (g42_9 y0 y1 y3 y4 k1)))))) y0 y1 y2 y3) (k2 y0 y1 y2 y3)))
theorem ng42_10 {R R2 : Type} (x0 : D160) (x1 : Int) (x2 : Int) (x3 : Int) (k0 : Int → Option R) (k1 : D160 → Int → Int → Int → Option R) (k2 : D160 → Int → Int → Int → Option R) (h : R → Option R2) : ((g42_10 x0 x1 x2 x3 k0 k1 k2)).bind h = (g42_10 x0 x1 x2 x3 (fun y0 => (k0 y0).bind h) (fun y0 y1 y2 y3 => (k1 y0 y1 y2 y3).bind h) (fun y0 y1 y2 y3 => (k2 y0 y1 y2 y3).bind h)) := by
  simp only [g42_10, ng42_2, ng42_4, ng42_5, ng42_6, ng42_9, bind_brB, bind_ite, bind_none', Option.bind_assoc]
theorem t42_10 {N : Nat} {cl : Cal} {R : Type} (K : KE R) (x0 : D160) (x1 : Int) (x2 : Int) (x3 : Int) : exec cl N c42_10 [(0, .v T162 x0), (1, .v T161 x1), (7, .v T161 x2), (8, .v T161 x3)] K = (g42_10 x0 x1 x2 x3 (fun y0 => K .ret [(0, .dead), (1, .dead), (4, .v T161 y0), (7, .dead), (8, .dead)]) (fun y0 y1 y2 y3 => K .normal [(0, .v T162 y0), (1, .v T161 y1), (7, .v T161 y2), (8, .v T161 y3)]) (fun y0 y1 y2 y3 => K (.exit 0) [(0, .v T162 y0), (1, .v T161 y1), (7, .v T161 y2), (8, .v T161 y3)])) := by
  simp only [c42_10, exec_seq, seqK_normal, seqK_exit, seqK_ret, t42_2, c42_3, exec_out, exec_cond', hb42_0, Option.bind_some, brB_true, brB_false, exec_skip, exec_exit, kp42_1, c42_8, exec_block, t42_4, t42_5, c42_7, hb42_1, t42_6, exec_ret, kp42_2, kp42_3, blockK_normal, blockK_ret, blockK_eq, kp42_4, kp42_5, t42_9]
  rfl

def l42_11 {R : Type} (k0 : Int → Option R) (k1 : D160 → Int → Int → Int → Option R) : Nat → D160 → Int → Int → Int → Option R
  | 0, _, _, _, _ => none
  | m + 1, x0, x1, x2, x3 => (g42_10 x0 x1 x2 x3 k0 (fun y0 y1 y2 y3 => l42_11 k0 k1 m y0 y1 y2 y3) k1)
theorem nl42_11 {R R2 : Type} (k0 : Int → Option R) (k1 : D160 → Int → Int → Int → Option R) (h : R → Option R2) : ∀ (m : Nat) (x0 : D160) (x1 : Int) (x2 : Int) (x3 : Int), (l42_11 k0 k1 m x0 x1 x2 x3).bind h = l42_11 (fun y0 => (k0 y0).bind h) (fun y0 y1 y2 y3 => (k1 y0 y1 y2 y3).bind h) m x0 x1 x2 x3 := by
  intro m
  induction m with
  | zero => intros; rfl
  | succ m ih =>
    intro x0 x1 x2 x3
    simp only [l42_11, ng42_10, bind_brB, bind_ite, bind_none', ih]
theorem lt42_11 {N : Nat} {cl : Cal} {R : Type} (K : KE R) : ∀ (m : Nat) (x0 : D160) (x1 : Int) (x2 : Int) (x3 : Int), iter [0, 1, 7, 8] (fun env K => exec cl N c42_10 env K) K m [(0, .v T162 x0), (1, .v T161 x1), (7, .v T161 x2), (8, .v T161 x3)] = l42_11 (fun y0 => K .ret [(0, .dead), (1, .dead), (4, .v T161 y0), (7, .dead), (8, .dead)]) (fun y0 y1 y2 y3 => K (.exit 0) [(0, .v T162 y0), (1, .v T161 y1), (7, .v T161 y2), (8, .v T161 y3)]) m x0 x1 x2 x3 := by
  intro m
  induction m with
  | zero => intros; rfl
  | succ m ih =>
    intro x0 x1 x2 x3
    simp only [iter_succ, t42_10, loopK_normal, loopK_exit, loopK_ret, kp42_0, ih]
    rfl

theorem kp42_6 (x0 : Int) : keep [4] [(0, .dead), (1, .dead), (4, .v T161 x0), (7, .dead), (8, .dead)] = [(4, .v T161 x0)] := by kernel_rfl
theorem kp42_7 (x0 : D160) (x1 : Int) (x2 : Int) (x3 : Int) : keep [4] [(0, .v T162 x0), (1, .v T161 x1), (7, .v T161 x2), (8, .v T161 x3)] = [(4, .dead)] := by kernel_rfl
def g42_11 {R : Type} (N : Nat) (x0 : D160) (x1 : Int) (x2 : Int) (x3 : Int) (k0 : Int → Option R) (k1 : Option R) : Option R :=
l42_11 (fun y0 => k0 y0) (fun y0 y1 y2 y3 => k1) N x0 x1 x2 x3
theorem ng42_11 {R R2 : Type} (N : Nat) (x0 : D160) (x1 : Int) (x2 : Int) (x3 : Int) (k0 : Int → Option R) (k1 : Option R) (h : R → Option R2) : ((g42_11 N x0 x1 x2 x3 k0 k1)).bind h = (g42_11 N x0 x1 x2 x3 (fun y0 => (k0 y0).bind h) ((k1).bind h)) := by
  simp only [g42_11, nl42_11, bind_brB, bind_ite, bind_none', Option.bind_assoc]
theorem t42_11 {N : Nat} {cl : Cal} {R : Type} (K : KE R) (x0 : D160) (x1 : Int) (x2 : Int) (x3 : Int) : exec cl N c42_11 [(0, .v T162 x0), (1, .v T161 x1), (7, .v T161 x2), (8, .v T161 x3)] K = (g42_11 N x0 x1 x2 x3 (fun y0 => K .ret [(4, .v T161 y0)]) (K (.exit 0) [(4, .dead)])) := by
  simp only [c42_11, exec_out, exec_loop, kp42_0, lt42_11, kp42_6, kp42_7]
  rfl

theorem kp42_8 (x0 : Int) : keep [4] [(4, .v T161 x0)] = [(4, .v T161 x0)] := by kernel_rfl
theorem kp42_9 : keep [4] [(4, .dead)] = [(4, .dead)] := by kernel_rfl
def g42_13 {R : Type} (k0 : Int → Option R) : Option R :=
k0 (-1 : Int)
theorem ng42_13 {R R2 : Type} (k0 : Int → Option R) (h : R → Option R2) : ((g42_13 k0)).bind h = (g42_13 (fun y0 => (k0 y0).bind h)) := by
  simp only [g42_13, bind_brB, bind_ite, bind_none', Option.bind_assoc]
theorem t42_13 {N : Nat} {cl : Cal} {R : Type} (K : KE R) : exec cl N c42_13 [(4, .dead)] K = (g42_13 (fun y0 => K .normal [(4, .v T161 y0)])) := by
  kernel_rfl
def g42_14 {R : Type} (N : Nat) (x0 : D160) (x1 : Int) (k0 : Int → Option R) : Option R :=
(g42_0 x0 x1 (fun y0 y1 => (g42_1 y0 y1 (fun y0 y1 y2 y3 => (g42_11 N y0 y1 y2 y3 (fun y0 => (k0 y0)) (g42_13 (fun y0 => (k0 y0))))))))
theorem ng42_14 {R R2 : Type} (N : Nat) (x0 : D160) (x1 : Int) (k0 : Int → Option R) (h : R → Option R2) : ((g42_14 N x0 x1 k0)).bind h = (g42_14 N x0 x1 (fun y0 => (k0 y0).bind h)) := by
  simp only [g42_14, ng42_0, ng42_1, ng42_11, ng42_13, bind_brB, bind_ite, bind_none', Option.bind_assoc]
theorem t42_14 {N : Nat} {cl : Cal} {R : Type} (K : KE R) (x0 : D160) (x1 : Int) : exec cl N c42_14 [(0, .v T162 x0), (1, .v T161 x1)] K = (g42_14 N x0 x1 (fun y0 => K .ret [(4, .v T161 y0)])) := by
  simp only [c42_14, exec_seq, seqK_normal, seqK_exit, seqK_ret, t42_0, t42_1, c42_12, exec_out, exec_block, t42_11, blockK_normal, blockK_ret, blockK_eq, kp42_8, kp42_9, t42_13, exec_ret]
  rfl

theorem rk42_0 (y0 : Int) : retK d42 .ret [(4, .v T161 y0)] = some [.v T161 y0] := by kernel_rfl
def g42 {R : Type} (N : Nat) (x0 : D160) (x1 : Int) (k : Int → Option R) : Option R :=
(g42_14 N x0 x1 (fun y0 => k y0))
theorem gen42 {N : Nat} {cl : Cal} (x0 : D160) (x1 : Int) : exec cl N c42 (params 0 [.v T162 x0, .v T161 x1]) (retK d42) = g42 N x0 x1 (fun (r0 : Int) => some [.v T161 r0]) := by
  have e0 : params 0 [.v T162 x0, .v T161 x1] = [(0, .v T162 x0), (1, .v T161 x1)] := by kernel_rfl
  simp only [c42, e0, t42_14, rk42_0]
  rfl

def ctr42 (S : D160 → Int → Option (Int)) : Ctr := { A := D160 × Int × Unit, B := Int, f := 42, enc := fun a => [.v T162 a.1, .v T161 a.2.1], dec := (decC (decV T162) (decC (decV T161) dec0)), S := fun a => S a.1 a.2.1, ent := fun b => [.v T161 b], ok := (decV_cons (T := T162) (decV_cons (T := T161) (fun es b h => dec0_some h))) }
def S42 (N : Nat) (x0 : D160) (x1 : Int) : Option (Int) := g42 N x0 x1 (fun (r0 : Int) => some (r0))
theorem ng42 {R R2 : Type} (N : Nat) (x0 : D160) (x1 : Int) (k : Int → Option R) (h : R → Option R2) : (g42 N x0 x1 k).bind h = g42 N x0 x1 (fun (r0 : Int) => (k r0).bind h) := by
  simp only [g42, ng42_14]
-- slices.Contains[[]int,int]
def g40_0 {R : Type} (x0 : D160) (x1 : Int) (k0 : D160 → Int → Option R) : Option R :=
k0 x0 x1
theorem ng40_0 {R R2 : Type} (x0 : D160) (x1 : Int) (k0 : D160 → Int → Option R) (h : R → Option R2) : ((g40_0 x0 x1 k0)).bind h = (g40_0 x0 x1 (fun y0 y1 => (k0 y0 y1).bind h)) := by
  simp only [g40_0, bind_brB, bind_ite, bind_none', Option.bind_assoc]
theorem t40_0 {N : Nat} {cl : Cal} {R : Type} (K : KE R) (x0 : D160) (x1 : Int) : exec cl N c40_0 [(0, .v T162 x0), (1, .v T161 x1)] K = (g40_0 x0 x1 (fun y0 y1 => K .normal [(0, .v T162 y0), (1, .v T161 y1)])) := by
  kernel_rfl
def g40_1 {R : Type} (S42 : D160 → Int → Option (Int)) (x0 : D160) (x1 : Int) (k0 : Bool → Option R) : Option R :=
(S42 x0 x1).bind fun r256 =>
k0 (decide (r256 ≥ (0 : Int)))
theorem ng40_1 {R R2 : Type} (S42 : D160 → Int → Option (Int)) (x0 : D160) (x1 : Int) (k0 : Bool → Option R) (h : R → Option R2) : ((g40_1 S42 x0 x1 k0)).bind h = (g40_1 S42 x0 x1 (fun y0 => (k0 y0).bind h)) := by
  simp only [g40_1, bind_brB, bind_ite, bind_none', Option.bind_assoc]
theorem t40_1 {N : Nat} {cl : Cal} (S42 : D160 → Int → Option (Int)) (h42 : (ctr42 S42).holds cl) {R : Type} (K : KE R) (x0 : D160) (x1 : Int) : exec cl N c40_1 [(0, .v T162 x0), (1, .v T161 x1)] K = (g40_1 S42 x0 x1 (fun y0 => K .normal [(4, .v .bool y0)])) := by
  rw [← put_eq h42]
  kernel_rfl
def g40_2 {R : Type} (S42 : D160 → Int → Option (Int)) (x0 : D160) (x1 : Int) (k0 : Bool → Option R) : Option R :=
(g40_0 x0 x1 (fun y0 y1 => (g40_1 S42 y0 y1 (fun y0 => (k0 y0)))))
theorem ng40_2 {R R2 : Type} (S42 : D160 → Int → Option (Int)) (x0 : D160) (x1 : Int) (k0 : Bool → Option R) (h : R → Option R2) : ((g40_2 S42 x0 x1 k0)).bind h = (g40_2 S42 x0 x1 (fun y0 => (k0 y0).bind h)) := by
  simp only [g40_2, ng40_0, ng40_1, bind_brB, bind_ite, bind_none', Option.bind_assoc]
theorem t40_2 {N : Nat} {cl : Cal} (S42 : D160 → Int → Option (Int)) (h42 : (ctr42 S42).holds cl) {R : Type} (K : KE R) (x0 : D160) (x1 : Int) : exec cl N c40_2 [(0, .v T162 x0), (1, .v T161 x1)] K = (g40_2 S42 x0 x1 (fun y0 => K .ret [(4, .v .bool y0)])) := by
  simp only [c40_2, exec_seq, seqK_normal, seqK_exit, seqK_ret, t40_0, t40_1 S42 h42, exec_ret]
  rfl

theorem rk40_0 (y0 : Bool) : retK d40 .ret [(4, .v .bool y0)] = some [.v .bool y0] := by kernel_rfl
def g40 {R : Type} (S42 : D160 → Int → Option (Int)) (x0 : D160) (x1 : Int) (k : Bool → Option R) : Option R :=
(g40_2 S42 x0 x1 (fun y0 => k y0))
theorem gen40 {N : Nat} {cl : Cal} (S42 : D160 → Int → Option (Int)) (h42 : (ctr42 S42).holds cl) (x0 : D160) (x1 : Int) : exec cl N c40 (params 0 [.v T162 x0, .v T161 x1]) (retK d40) = g40 S42 x0 x1 (fun (r0 : Bool) => some [.v .bool r0]) := by
  have e0 : params 0 [.v T162 x0, .v T161 x1] = [(0, .v T162 x0), (1, .v T161 x1)] := by kernel_rfl
  simp only [c40, e0, t40_2 S42 h42, rk40_0]
  rfl

def ctr40 (S : D160 → Int → Option (Bool)) : Ctr := { A := D160 × Int × Unit, B := Bool, f := 40, enc := fun a => [.v T162 a.1, .v T161 a.2.1], dec := (decC (decV T162) (decC (decV T161) dec0)), S := fun a => S a.1 a.2.1, ent := fun b => [.v .bool b], ok := (decV_cons (T := T162) (decV_cons (T := T161) (fun es b h => dec0_some h))) }
def S40 (N : Nat) (x0 : D160) (x1 : Int) : Option (Bool) := g40 (S42 N) x0 x1 (fun (r0 : Bool) => some (r0))
theorem ng40 {R R2 : Type} (S42 : D160 → Int → Option (Int)) (x0 : D160) (x1 : Int) (k : Bool → Option R) (h : R → Option R2) : (g40 S42 x0 x1 k).bind h = g40 S42 x0 x1 (fun (r0 : Bool) => (k r0).bind h) := by
  simp only [g40, ng40_2]
-- anceps/weight.Allowed
def g25_0 {R : Type} (x0 : D167) (x1 : D160) (k0 : D167 → D160 → Option R) : Option R :=
k0 x0 x1
theorem ng25_0 {R R2 : Type} (x0 : D167) (x1 : D160) (k0 : D167 → D160 → Option R) (h : R → Option R2) : ((g25_0 x0 x1 k0)).bind h = (g25_0 x0 x1 (fun y0 y1 => (k0 y0 y1).bind h)) := by
  simp only [g25_0, bind_brB, bind_ite, bind_none', Option.bind_assoc]
theorem t25_0 {N : Nat} {cl : Cal} {R : Type} (K : KE R) (x0 : D167) (x1 : D160) : exec cl N c25_0 [(0, .v T167 x0), (1, .v T162 x1)] K = (g25_0 x0 x1 (fun y0 y1 => K .normal [(0, .v T167 y0), (1, .v T162 y1)])) := by
  kernel_rfl
def g25_1 {R : Type} (x0 : D167) (x1 : D160) (k0 : D167 → D160 → D167 → Option R) : Option R :=
k0 x0 x1 []
theorem ng25_1 {R R2 : Type} (x0 : D167) (x1 : D160) (k0 : D167 → D160 → D167 → Option R) (h : R → Option R2) : ((g25_1 x0 x1 k0)).bind h = (g25_1 x0 x1 (fun y0 y1 y2 => (k0 y0 y1 y2).bind h)) := by
  simp only [g25_1, bind_brB, bind_ite, bind_none', Option.bind_assoc]
theorem t25_1 {N : Nat} {cl : Cal} {R : Type} (K : KE R) (x0 : D167) (x1 : D160) : exec cl N c25_1 [(0, .v T167 x0), (1, .v T162 x1)] K = (g25_1 x0 x1 (fun y0 y1 y2 => K .normal [(0, .v T167 y0), (1, .v T162 y1), (5, .own true 33 T166 .no y2)])) := by
  kernel_rfl
def g25_2 {R : Type} (x0 : D167) (x1 : D160) (x2 : D167) (k0 : D160 → D167 → D167 → Int → Int → Option R) : Option R :=
k0 x1 x2 x0 (x0.length : Int) (0 : Int)
theorem ng25_2 {R R2 : Type} (x0 : D167) (x1 : D160) (x2 : D167) (k0 : D160 → D167 → D167 → Int → Int → Option R) (h : R → Option R2) : ((g25_2 x0 x1 x2 k0)).bind h = (g25_2 x0 x1 x2 (fun y0 y1 y2 y3 y4 => (k0 y0 y1 y2 y3 y4).bind h)) := by
  simp only [g25_2, bind_brB, bind_ite, bind_none', Option.bind_assoc]
theorem t25_2 {N : Nat} {cl : Cal} {R : Type} (K : KE R) (x0 : D167) (x1 : D160) (x2 : D167) : exec cl N c25_2 [(0, .v T167 x0), (1, .v T162 x1), (5, .own true 33 T166 .no x2)] K = (g25_2 x0 x1 x2 (fun y0 y1 y2 y3 y4 => K .normal [(1, .v T162 y0), (5, .own true 33 T166 .no y1), (8, .v T167 y2), (9, .v T161 y3), (10, .v T161 y4)])) := by
  kernel_rfl
theorem kp25_0 (x0 : D160) (x1 : D167) (x2 : D167) (x3 : Int) (x4 : Int) : keep [1, 5, 8, 9, 10] [(1, .v T162 x0), (5, .own true 33 T166 .no x1), (8, .v T167 x2), (9, .v T161 x3), (10, .v T161 x4)] = [(1, .v T162 x0), (5, .own true 33 T166 .no x1), (8, .v T167 x2), (9, .v T161 x3), (10, .v T161 x4)] := by kernel_rfl
def g25_3 {R : Type} (x0 : D160) (x1 : D167) (x2 : D167) (x3 : Int) (x4 : Int) (k0 : D160 → D167 → D167 → Int → Int → Bool → Option R) : Option R :=
k0 x0 x1 x2 x3 x4 (decide (x4 < x3))
theorem ng25_3 {R R2 : Type} (x0 : D160) (x1 : D167) (x2 : D167) (x3 : Int) (x4 : Int) (k0 : D160 → D167 → D167 → Int → Int → Bool → Option R) (h : R → Option R2) : ((g25_3 x0 x1 x2 x3 x4 k0)).bind h = (g25_3 x0 x1 x2 x3 x4 (fun y0 y1 y2 y3 y4 y5 => (k0 y0 y1 y2 y3 y4 y5).bind h)) := by
  simp only [g25_3, bind_brB, bind_ite, bind_none', Option.bind_assoc]
theorem t25_3 {N : Nat} {cl : Cal} {R : Type} (K : KE R) (x0 : D160) (x1 : D167) (x2 : D167) (x3 : Int) (x4 : Int) : exec cl N c25_3 [(1, .v T162 x0), (5, .own true 33 T166 .no x1), (8, .v T167 x2), (9, .v T161 x3), (10, .v T161 x4)] K = (g25_3 x0 x1 x2 x3 x4 (fun y0 y1 y2 y3 y4 y5 => K .normal [(1, .v T162 y0), (5, .own true 33 T166 .no y1), (8, .v T167 y2), (9, .v T161 y3), (10, .v T161 y4), (11, .v .bool y5)])) := by
  kernel_rfl
theorem kp25_1 (x0 : D160) (x1 : D167) (x2 : D167) (x3 : Int) (x4 : Int) (x5 : Bool) : keep [1, 5, 8, 9, 10] [(1, .v T162 x0), (5, .own true 33 T166 .no x1), (8, .v T167 x2), (9, .v T161 x3), (10, .v T161 x4), (11, .v .bool x5)] = [(1, .v T162 x0), (5, .own true 33 T166 .no x1), (8, .v T167 x2), (9, .v T161 x3), (10, .v T161 x4)] := by kernel_rfl
theorem hb25_0 (x0 : D160) (x1 : D167) (x2 : D167) (x3 : Int) (x4 : Int) (x5 : Bool) : boolOf? (ent [(1, .v T162 x0), (5, .own true 33 T166 .no x1), (8, .v T167 x2), (9, .v T161 x3), (10, .v T161 x4), (11, .v .bool x5)] (.t 11)) = some x5 := by kernel_rfl
def g25_5 {R : Type} (x0 : D160) (x1 : D167) (x2 : D167) (x3 : Int) (x4 : Int) (k0 : D160 → D167 → D165 → D167 → Int → Int → Option R) : Option R :=
if 0 ≤ x4 ∧ x4 < (x2.length : Int) then
k0 x0 x1 (x2.getD x4.toNat ((0 : Int), ((0 : Int), ((0 : Int), ())))) x2 x3 x4
else none
theorem ng25_5 {R R2 : Type} (x0 : D160) (x1 : D167) (x2 : D167) (x3 : Int) (x4 : Int) (k0 : D160 → D167 → D165 → D167 → Int → Int → Option R) (h : R → Option R2) : ((g25_5 x0 x1 x2 x3 x4 k0)).bind h = (g25_5 x0 x1 x2 x3 x4 (fun y0 y1 y2 y3 y4 y5 => (k0 y0 y1 y2 y3 y4 y5).bind h)) := by
  simp only [g25_5, bind_brB, bind_ite, bind_none', Option.bind_assoc]
theorem t25_5 {N : Nat} {cl : Cal} {R : Type} (K : KE R) (x0 : D160) (x1 : D167) (x2 : D167) (x3 : Int) (x4 : Int) : exec cl N c25_5 [(1, .v T162 x0), (5, .own true 33 T166 .no x1), (8, .v T167 x2), (9, .v T161 x3), (10, .v T161 x4)] K = (g25_5 x0 x1 x2 x3 x4 (fun y0 y1 y2 y3 y4 y5 => K .normal [(1, .v T162 y0), (5, .own true 33 T166 .no y1), (7, .loc T166 .no y2), (8, .v T167 y3), (9, .v T161 y4), (10, .v T161 y5)])) := by
  kernel_rfl
def g25_6 {R : Type} (S40 : D160 → Int → Option (Bool)) (x0 : D160) (x1 : D167) (x2 : D165) (x3 : D167) (x4 : Int) (x5 : Int) (k0 : D160 → D167 → D165 → D167 → Int → Int → Bool → Option R) : Option R :=
brB (x2.2.2.1 == (0 : Int)) (k0 x0 x1 x2 x3 x4 x5 true) ((S40 x0 x2.2.2.1).bind fun r262 =>
k0 x0 x1 x2 x3 x4 x5 r262)
theorem ng25_6 {R R2 : Type} (S40 : D160 → Int → Option (Bool)) (x0 : D160) (x1 : D167) (x2 : D165) (x3 : D167) (x4 : Int) (x5 : Int) (k0 : D160 → D167 → D165 → D167 → Int → Int → Bool → Option R) (h : R → Option R2) : ((g25_6 S40 x0 x1 x2 x3 x4 x5 k0)).bind h = (g25_6 S40 x0 x1 x2 x3 x4 x5 (fun y0 y1 y2 y3 y4 y5 y6 => (k0 y0 y1 y2 y3 y4 y5 y6).bind h)) := by
  simp only [g25_6, bind_brB, bind_ite, bind_none', Option.bind_assoc]
theorem t25_6 {N : Nat} {cl : Cal} (S40 : D160 → Int → Option (Bool)) (h40 : (ctr40 S40).holds cl) {R : Type} (K : KE R) (x0 : D160) (x1 : D167) (x2 : D165) (x3 : D167) (x4 : Int) (x5 : Int) : exec cl N c25_6 [(1, .v T162 x0), (5, .own true 33 T166 .no x1), (7, .loc T166 .no x2), (8, .v T167 x3), (9, .v T161 x4), (10, .v T161 x5)] K = (g25_6 S40 x0 x1 x2 x3 x4 x5 (fun y0 y1 y2 y3 y4 y5 y6 => K .normal [(1, .v T162 y0), (5, .own true 33 T166 .no y1), (7, .loc T166 .no y2), (8, .v T167 y3), (9, .v T161 y4), (10, .v T161 y5), (22, .v .bool y6)])) := by
  rw [← put_eq h40]
  kernel_rfl
def g25_7 {R : Type} (x0 : D160) (x1 : D167) (x2 : D165) (x3 : D167) (x4 : Int) (x5 : Int) (x6 : Bool) (k0 : D160 → D167 → D167 → Int → Int → Option R) : Option R :=
if x1.length + [x2].length ≤ 5864062014805 then
k0 x0 (x1 ++ [x2]) x3 x4 x5
else none
theorem ng25_7 {R R2 : Type} (x0 : D160) (x1 : D167) (x2 : D165) (x3 : D167) (x4 : Int) (x5 : Int) (x6 : Bool) (k0 : D160 → D167 → D167 → Int → Int → Option R) (h : R → Option R2) : ((g25_7 x0 x1 x2 x3 x4 x5 x6 k0)).bind h = (g25_7 x0 x1 x2 x3 x4 x5 x6 (fun y0 y1 y2 y3 y4 => (k0 y0 y1 y2 y3 y4).bind h)) := by
  simp only [g25_7, bind_brB, bind_ite, bind_none', Option.bind_assoc]
theorem t25_7 {N : Nat} {cl : Cal} {R : Type} (K : KE R) (x0 : D160) (x1 : D167) (x2 : D165) (x3 : D167) (x4 : Int) (x5 : Int) (x6 : Bool) : exec cl N c25_7 [(1, .v T162 x0), (5, .own true 33 T166 .no x1), (7, .loc T166 .no x2), (8, .v T167 x3), (9, .v T161 x4), (10, .v T161 x5), (22, .v .bool x6)] K = (g25_7 x0 x1 x2 x3 x4 x5 x6 (fun y0 y1 y2 y3 y4 => K .normal [(1, .v T162 y0), (5, .own true 33 T166 .no y1), (8, .v T167 y2), (9, .v T161 y3), (10, .v T161 y4)])) := by
  kernel_rfl
theorem kp25_2 (x0 : D160) (x1 : D167) (x2 : D165) (x3 : D167) (x4 : Int) (x5 : Int) (x6 : Bool) : keep [1, 5, 8, 9, 10] [(1, .v T162 x0), (5, .own true 33 T166 .no x1), (7, .loc T166 .no x2), (8, .v T167 x3), (9, .v T161 x4), (10, .v T161 x5), (22, .v .bool x6)] = [(1, .v T162 x0), (5, .own true 33 T166 .no x1), (8, .v T167 x3), (9, .v T161 x4), (10, .v T161 x5)] := by kernel_rfl
theorem hb25_1 (x0 : D160) (x1 : D167) (x2 : D165) (x3 : D167) (x4 : Int) (x5 : Int) (x6 : Bool) : boolOf? (ent [(1, .v T162 x0), (5, .own true 33 T166 .no x1), (7, .loc T166 .no x2), (8, .v T167 x3), (9, .v T161 x4), (10, .v T161 x5), (22, .v .bool x6)] (.t 22)) = some x6 := by kernel_rfl
def g25_9 {R : Type} (S40 : D160 → Int → Option (Bool)) (x0 : D160) (x1 : D167) (x2 : D167) (x3 : Int) (x4 : Int) (k0 : D160 → D167 → D167 → Int → Int → Option R) : Option R :=
(g25_5 x0 x1 x2 x3 x4 (fun y0 y1 y2 y3 y4 y5 => (g25_6 S40 y0 y1 y2 y3 y4 y5 (fun y0 y1 y2 y3 y4 y5 y6 => brB y6 (g25_7 y0 y1 y2 y3 y4 y5 y6 (fun y0 y1 y2 y3 y4 => (k0 y0 y1 y2 y3 y4))) (k0 y0 y1 y3 y4 y5)))))
theorem ng25_9 {R R2 : Type} (S40 : D160 → Int → Option (Bool)) (x0 : D160) (x1 : D167) (x2 : D167) (x3 : Int) (x4 : Int) (k0 : D160 → D167 → D167 → Int → Int → Option R) (h : R → Option R2) : ((g25_9 S40 x0 x1 x2 x3 x4 k0)).bind h = (g25_9 S40 x0 x1 x2 x3 x4 (fun y0 y1 y2 y3 y4 => (k0 y0 y1 y2 y3 y4).bind h)) := by
  simp only [g25_9, ng25_5, ng25_6, ng25_7, bind_brB, bind_ite, bind_none', Option.bind_assoc]
theorem t25_9 {N : Nat} {cl : Cal} (S40 : D160 → Int → Option (Bool)) (h40 : (ctr40 S40).holds cl) {R : Type} (K : KE R) (x0 : D160) (x1 : D167) (x2 : D167) (x3 : Int) (x4 : Int) : exec cl N c25_9 [(1, .v T162 x0), (5, .own true 33 T166 .no x1), (8, .v T167 x2), (9, .v T161 x3), (10, .v T161 x4)] K = (g25_9 S40 x0 x1 x2 x3 x4 (fun y0 y1 y2 y3 y4 => K .normal [(1, .v T162 y0), (5, .own true 33 T166 .no y1), (8, .v T167 y2), (9, .v T161 y3), (10, .v T161 y4)])) := by
  simp only [c25_9, exec_out, exec_block, exec_seq, seqK_normal, seqK_exit, seqK_ret, t25_5, t25_6 S40 h40, c25_8, exec_cond', hb25_1, Option.bind_some, brB_true, brB_false, t25_7, exec_skip, kp25_0, kp25_2, blockK_normal, blockK_ret, blockK_eq]
  rfl

def g25_10 {R : Type} (x0 : D160) (x1 : D167) (x2 : D167) (x3 : Int) (x4 : Int) (k0 : D160 → D167 → D167 → Int → Int → Option R) : Option R :=
k0 x0 x1 x2 x3 (IntKind.i64.wrap (x4 + (1 : Int)))
theorem ng25_10 {R R2 : Type} (x0 : D160) (x1 : D167) (x2 : D167) (x3 : Int) (x4 : Int) (k0 : D160 → D167 → D167 → Int → Int → Option R) (h : R → Option R2) : ((g25_10 x0 x1 x2 x3 x4 k0)).bind h = (g25_10 x0 x1 x2 x3 x4 (fun y0 y1 y2 y3 y4 => (k0 y0 y1 y2 y3 y4).bind h)) := by
  simp only [g25_10, bind_brB, bind_ite, bind_none', Option.bind_assoc]
theorem t25_10 {N : Nat} {cl : Cal} {R : Type} (K : KE R) (x0 : D160) (x1 : D167) (x2 : D167) (x3 : Int) (x4 : Int) : exec cl N c25_10 [(1, .v T162 x0), (5, .own true 33 T166 .no x1), (8, .v T167 x2), (9, .v T161 x3), (10, .v T161 x4)] K = (g25_10 x0 x1 x2 x3 x4 (fun y0 y1 y2 y3 y4 => K .normal [(1, .v T162 y0), (5, .own true 33 T166 .no y1), (8, .v T167 y2), (9, .v T161 y3), (10, .v T161 y4)])) := by
  kernel_rfl
def g25_11 {R : Type} (S40 : D160 → Int → Option (Bool)) (x0 : D160) (x1 : D167) (x2 : D167) (x3 : Int) (x4 : Int) (k0 : D160 → D167 → D167 → Int → Int → Option R) (k1 : D160 → D167 → D167 → Int → Int → Option R) : Option R :=
(g25_3 x0 x1 x2 x3 x4 (fun y0 y1 y2 y3 y4 y5 => brB y5 ((fun y0 y1 y2 y3 y4 => (g25_9 S40 y0 y1 y2 y3 y4 (fun y0 y1 y2 y3 y4 => (g25_10 y0 y1 y2 y3 y4 k0)))) y0 y1 y2 y3 y4) (k1 y0 y1 y2 y3 y4)))
theorem ng25_11 {R R2 : Type} (S40 : D160 → Int → Option (Bool)) (x0 : D160) (x1 : D167) (x2 : D167) (x3 : Int) (x4 : Int) (k0 : D160 → D167 → D167 → Int → Int → Option R) (k1 : D160 → D167 → D167 → Int → Int → Option R) (h : R → Option R2) : ((g25_11 S40 x0 x1 x2 x3 x4 k0 k1)).bind h = (g25_11 S40 x0 x1 x2 x3 x4 (fun y0 y1 y2 y3 y4 => (k0 y0 y1 y2 y3 y4).bind h) (fun y0 y1 y2 y3 y4 => (k1 y0 y1 y2 y3 y4).bind h)) := by
  simp only [g25_11, ng25_10, ng25_3, ng25_9, bind_brB, bind_ite, bind_none', Option.bind_assoc]
theorem t25_11 {N : Nat} {cl : Cal} (S40 : D160 → Int → Option (Bool)) (h40 : (ctr40 S40).holds cl) {R : Type} (K : KE R) (x0 : D160) (x1 : D167) (x2 : D167) (x3 : Int) (x4 : Int) : exec cl N c25_11 [(1, .v T162 x0), (5, .own true 33 T166 .no x1), (8, .v T167 x2), (9, .v T161 x3), (10, .v T161 x4)] K = (g25_11 S40 x0 x1 x2 x3 x4 (fun y0 y1 y2 y3 y4 => K .normal [(1, .v T162 y0), (5, .own true 33 T166 .no y1), (8, .v T167 y2), (9, .v T161 y3), (10, .v T161 y4)]) (fun y0 y1 y2 y3 y4 => K (.exit 0) [(1, .v T162 y0), (5, .own true 33 T166 .no y1), (8, .v T167 y2), (9, .v T161 y3), (10, .v T161 y4)])) := by
  simp only [c25_11, exec_seq, seqK_normal, seqK_exit, seqK_ret, t25_3, c25_4, exec_out, exec_cond', hb25_0, Option.bind_some, brB_true, brB_false, exec_skip, exec_exit, kp25_1, t25_9 S40 h40, t25_10]
  rfl

def l25_12 {R : Type} (S40 : D160 → Int → Option (Bool)) (k0 : D160 → D167 → D167 → Int → Int → Option R) : Nat → D160 → D167 → D167 → Int → Int → Option R
  | 0, _, _, _, _, _ => none
  | m + 1, x0, x1, x2, x3, x4 => (g25_11 S40 x0 x1 x2 x3 x4 (fun y0 y1 y2 y3 y4 => l25_12 S40 k0 m y0 y1 y2 y3 y4) k0)
theorem nl25_12 {R R2 : Type} (S40 : D160 → Int → Option (Bool)) (k0 : D160 → D167 → D167 → Int → Int → Option R) (h : R → Option R2) : ∀ (m : Nat) (x0 : D160) (x1 : D167) (x2 : D167) (x3 : Int) (x4 : Int), (l25_12 S40 k0 m x0 x1 x2 x3 x4).bind h = l25_12 S40 (fun y0 y1 y2 y3 y4 => (k0 y0 y1 y2 y3 y4).bind h) m x0 x1 x2 x3 x4 := by
  intro m
  induction m with
  | zero => intros; rfl
  | succ m ih =>
    intro x0 x1 x2 x3 x4
    simp only [l25_12, ng25_11, bind_brB, bind_ite, bind_none', ih]
theorem lt25_12 {N : Nat} {cl : Cal} (S40 : D160 → Int → Option (Bool)) (h40 : (ctr40 S40).holds cl) {R : Type} (K : KE R) : ∀ (m : Nat) (x0 : D160) (x1 : D167) (x2 : D167) (x3 : Int) (x4 : Int), iter [1, 5, 8, 9, 10] (fun env K => exec cl N c25_11 env K) K m [(1, .v T162 x0), (5, .own true 33 T166 .no x1), (8, .v T167 x2), (9, .v T161 x3), (10, .v T161 x4)] = l25_12 S40 (fun y0 y1 y2 y3 y4 => K (.exit 0) [(1, .v T162 y0), (5, .own true 33 T166 .no y1), (8, .v T167 y2), (9, .v T161 y3), (10, .v T161 y4)]) m x0 x1 x2 x3 x4 := by
  intro m
  induction m with
  | zero => intros; rfl
  | succ m ih =>
    intro x0 x1 x2 x3 x4
    simp only [iter_succ, t25_11 S40 h40, loopK_normal, loopK_exit, loopK_ret, kp25_0, ih]
    rfl

theorem kp25_3 (x0 : D160) (x1 : D167) (x2 : D167) (x3 : Int) (x4 : Int) : keep [5] [(1, .v T162 x0), (5, .own true 33 T166 .no x1), (8, .v T167 x2), (9, .v T161 x3), (10, .v T161 x4)] = [(5, .own true 33 T166 .no x1)] := by kernel_rfl
def g25_12 {R : Type} (N : Nat) (S40 : D160 → Int → Option (Bool)) (x0 : D160) (x1 : D167) (x2 : D167) (x3 : Int) (x4 : Int) (k0 : D167 → Option R) : Option R :=
l25_12 S40 (fun y0 y1 y2 y3 y4 => k0 y1) N x0 x1 x2 x3 x4
theorem ng25_12 {R R2 : Type} (N : Nat) (S40 : D160 → Int → Option (Bool)) (x0 : D160) (x1 : D167) (x2 : D167) (x3 : Int) (x4 : Int) (k0 : D167 → Option R) (h : R → Option R2) : ((g25_12 N S40 x0 x1 x2 x3 x4 k0)).bind h = (g25_12 N S40 x0 x1 x2 x3 x4 (fun y0 => (k0 y0).bind h)) := by
  simp only [g25_12, nl25_12, bind_brB, bind_ite, bind_none', Option.bind_assoc]
theorem t25_12 {N : Nat} {cl : Cal} (S40 : D160 → Int → Option (Bool)) (h40 : (ctr40 S40).holds cl) {R : Type} (K : KE R) (x0 : D160) (x1 : D167) (x2 : D167) (x3 : Int) (x4 : Int) : exec cl N c25_12 [(1, .v T162 x0), (5, .own true 33 T166 .no x1), (8, .v T167 x2), (9, .v T161 x3), (10, .v T161 x4)] K = (g25_12 N S40 x0 x1 x2 x3 x4 (fun y0 => K (.exit 0) [(5, .own true 33 T166 .no y0)])) := by
  simp only [c25_12, exec_out, exec_loop, kp25_0, lt25_12 S40 h40, kp25_3]
  rfl

theorem kp25_4 (x0 : D167) : keep [5] [(5, .own true 33 T166 .no x0)] = [(5, .own true 33 T166 .no x0)] := by kernel_rfl
def g25_14 {R : Type} (x0 : D167) (k0 : D167 → Option R) : Option R :=
k0 x0
theorem ng25_14 {R R2 : Type} (x0 : D167) (k0 : D167 → Option R) (h : R → Option R2) : ((g25_14 x0 k0)).bind h = (g25_14 x0 (fun y0 => (k0 y0).bind h)) := by
  simp only [g25_14, bind_brB, bind_ite, bind_none', Option.bind_assoc]
theorem t25_14 {N : Nat} {cl : Cal} {R : Type} (K : KE R) (x0 : D167) : exec cl N c25_14 [(5, .own true 33 T166 .no x0)] K = (g25_14 x0 (fun y0 => K .normal [(4, .ref 5 []), (5, .own true 33 T166 .no y0)])) := by
  kernel_rfl
def g25_15 {R : Type} (N : Nat) (S40 : D160 → Int → Option (Bool)) (x0 : D167) (x1 : D160) (k0 : D167 → Option R) : Option R :=
(g25_0 x0 x1 (fun y0 y1 => (g25_1 y0 y1 (fun y0 y1 y2 => (g25_2 y0 y1 y2 (fun y0 y1 y2 y3 y4 => (g25_12 N S40 y0 y1 y2 y3 y4 (fun y0 => ((fun y0 => (g25_14 y0 (fun y0 => (k0 y0)))) y0)))))))))
theorem ng25_15 {R R2 : Type} (N : Nat) (S40 : D160 → Int → Option (Bool)) (x0 : D167) (x1 : D160) (k0 : D167 → Option R) (h : R → Option R2) : ((g25_15 N S40 x0 x1 k0)).bind h = (g25_15 N S40 x0 x1 (fun y0 => (k0 y0).bind h)) := by
  simp only [g25_15, ng25_0, ng25_1, ng25_12, ng25_14, ng25_2, bind_brB, bind_ite, bind_none', Option.bind_assoc]
theorem t25_15 {N : Nat} {cl : Cal} (S40 : D160 → Int → Option (Bool)) (h40 : (ctr40 S40).holds cl) {R : Type} (K : KE R) (x0 : D167) (x1 : D160) : exec cl N c25_15 [(0, .v T167 x0), (1, .v T162 x1)] K = (g25_15 N S40 x0 x1 (fun y0 => K .ret [(4, .ref 5 []), (5, .own true 33 T166 .no y0)])) := by
  simp only [c25_15, exec_seq, seqK_normal, seqK_exit, seqK_ret, t25_0, t25_1, t25_2, c25_13, exec_out, exec_block, t25_12 S40 h40, blockK_normal, blockK_ret, blockK_eq, kp25_4, t25_14, exec_ret]
  rfl

theorem rk25_0 (y0 : D167) : retK d25 .ret [(4, .ref 5 []), (5, .own true 33 T166 .no y0)] = some [.own true 33 T166 .no y0] := by kernel_rfl
def g25 {R : Type} (N : Nat) (S40 : D160 → Int → Option (Bool)) (x0 : D167) (x1 : D160) (k : D167 → Option R) : Option R :=
(g25_15 N S40 x0 x1 (fun y0 => k y0))
theorem gen25 {N : Nat} {cl : Cal} (S40 : D160 → Int → Option (Bool)) (h40 : (ctr40 S40).holds cl) (x0 : D167) (x1 : D160) : exec cl N c25 (params 0 [.v T167 x0, .v T162 x1]) (retK d25) = g25 N S40 x0 x1 (fun (r0 : D167) => some [.own true 33 T166 .no r0]) := by
  have e0 : params 0 [.v T167 x0, .v T162 x1] = [(0, .v T167 x0), (1, .v T162 x1)] := by kernel_rfl
  simp only [c25, e0, t25_15 S40 h40, rk25_0]
  rfl

def ctr25 (S : D167 → D160 → Option D168) : Ctr := { A := D167 × D160 × Unit, B := D167, f := 25, enc := fun a => [.v T167 a.1, .v T162 a.2.1], dec := (decC (decV T167) (decC (decV T162) dec0)), S := fun a => S a.1 a.2.1, ent := fun b => [.own true 33 T166 .no b], ok := (decV_cons (T := T167) (decV_cons (T := T162) (fun es b h => dec0_some h))) }
def S25 (N : Nat) (x0 : D167) (x1 : D160) : Option D168 := g25 N (S40 N) x0 x1 (fun (r0 : D167) => some (r0))
theorem ng25 {R R2 : Type} (N : Nat) (S40 : D160 → Int → Option (Bool)) (x0 : D167) (x1 : D160) (k : D167 → Option R) (h : R → Option R2) : (g25 N S40 x0 x1 k).bind h = g25 N S40 x0 x1 (fun (r0 : D167) => (k r0).bind h) := by
  simp only [g25, ng25_15]
-- anceps/ancepslaw16.every
def g26_0 {R : Type} (k0 : Option R) : Option R :=
k0
theorem ng26_0 {R R2 : Type} (k0 : Option R) (h : R → Option R2) : ((g26_0 k0)).bind h = (g26_0 ((k0).bind h)) := by
  simp only [g26_0, bind_brB, bind_ite, bind_none', Option.bind_assoc]
theorem t26_0 {N : Nat} {cl : Cal} {R : Type} (K : KE R) : exec cl N c26_0 [] K = (g26_0 (K .normal [])) := by
  kernel_rfl
def g26_1 {R : Type} (k0 : D160 → Option R) : Option R :=
k0 []
theorem ng26_1 {R R2 : Type} (k0 : D160 → Option R) (h : R → Option R2) : ((g26_1 k0)).bind h = (g26_1 (fun y0 => (k0 y0).bind h)) := by
  simp only [g26_1, bind_brB, bind_ite, bind_none', Option.bind_assoc]
theorem t26_1 {N : Nat} {cl : Cal} {R : Type} (K : KE R) : exec cl N c26_1 [] K = (g26_1 (fun y0 => K .normal [(1, .own true 3 T161 .no y0)])) := by
  kernel_rfl
def g26_2 {R : Type} (x0 : D160) (k0 : D160 → Int → Option R) : Option R :=
k0 x0 (0 : Int)
theorem ng26_2 {R R2 : Type} (x0 : D160) (k0 : D160 → Int → Option R) (h : R → Option R2) : ((g26_2 x0 k0)).bind h = (g26_2 x0 (fun y0 y1 => (k0 y0 y1).bind h)) := by
  simp only [g26_2, bind_brB, bind_ite, bind_none', Option.bind_assoc]
theorem t26_2 {N : Nat} {cl : Cal} {R : Type} (K : KE R) (x0 : D160) : exec cl N c26_2 [(1, .own true 3 T161 .no x0)] K = (g26_2 x0 (fun y0 y1 => K .normal [(1, .own true 3 T161 .no y0), (3, .v T161 y1)])) := by
  kernel_rfl
theorem kp26_0 (x0 : D160) (x1 : Int) : keep [1, 3] [(1, .own true 3 T161 .no x0), (3, .v T161 x1)] = [(1, .own true 3 T161 .no x0), (3, .v T161 x1)] := by kernel_rfl
def g26_3 {R : Type} (x0 : D160) (x1 : Int) (k0 : D160 → Int → Bool → Option R) : Option R :=
k0 x0 x1 (decide (x1 < (12 : Int)))
theorem ng26_3 {R R2 : Type} (x0 : D160) (x1 : Int) (k0 : D160 → Int → Bool → Option R) (h : R → Option R2) : ((g26_3 x0 x1 k0)).bind h = (g26_3 x0 x1 (fun y0 y1 y2 => (k0 y0 y1 y2).bind h)) := by
  simp only [g26_3, bind_brB, bind_ite, bind_none', Option.bind_assoc]
theorem t26_3 {N : Nat} {cl : Cal} {R : Type} (K : KE R) (x0 : D160) (x1 : Int) : exec cl N c26_3 [(1, .own true 3 T161 .no x0), (3, .v T161 x1)] K = (g26_3 x0 x1 (fun y0 y1 y2 => K .normal [(1, .own true 3 T161 .no y0), (3, .v T161 y1), (4, .v .bool y2)])) := by
  kernel_rfl
theorem kp26_1 (x0 : D160) (x1 : Int) (x2 : Bool) : keep [1, 3] [(1, .own true 3 T161 .no x0), (3, .v T161 x1), (4, .v .bool x2)] = [(1, .own true 3 T161 .no x0), (3, .v T161 x1)] := by kernel_rfl
theorem hb26_0 (x0 : D160) (x1 : Int) (x2 : Bool) : boolOf? (ent [(1, .own true 3 T161 .no x0), (3, .v T161 x1), (4, .v .bool x2)] (.t 4)) = some x2 := by kernel_rfl
def g26_5 {R : Type} (x0 : D160) (x1 : Int) (k0 : D160 → Int → Int → Option R) : Option R :=
k0 x0 x1 x1
theorem ng26_5 {R R2 : Type} (x0 : D160) (x1 : Int) (k0 : D160 → Int → Int → Option R) (h : R → Option R2) : ((g26_5 x0 x1 k0)).bind h = (g26_5 x0 x1 (fun y0 y1 y2 => (k0 y0 y1 y2).bind h)) := by
  simp only [g26_5, bind_brB, bind_ite, bind_none', Option.bind_assoc]
theorem t26_5 {N : Nat} {cl : Cal} {R : Type} (K : KE R) (x0 : D160) (x1 : Int) : exec cl N c26_5 [(1, .own true 3 T161 .no x0), (3, .v T161 x1)] K = (g26_5 x0 x1 (fun y0 y1 y2 => K .normal [(1, .own true 3 T161 .no y0), (2, .v T161 y1), (3, .v T161 y2)])) := by
  kernel_rfl
def g26_6 {R : Type} (x0 : D160) (x1 : Int) (x2 : Int) (k0 : D160 → Int → Option R) : Option R :=
let v272 : Int := (IntKind.i64.wrap (x1 + (1 : Int)))
if x0.length + [v272].length ≤ 17592186044416 then
k0 (x0 ++ [v272]) x2
else none
theorem ng26_6 {R R2 : Type} (x0 : D160) (x1 : Int) (x2 : Int) (k0 : D160 → Int → Option R) (h : R → Option R2) : ((g26_6 x0 x1 x2 k0)).bind h = (g26_6 x0 x1 x2 (fun y0 y1 => (k0 y0 y1).bind h)) := by
  simp only [g26_6, bind_brB, bind_ite, bind_none', Option.bind_assoc]
theorem t26_6 {N : Nat} {cl : Cal} {R : Type} (K : KE R) (x0 : D160) (x1 : Int) (x2 : Int) : exec cl N c26_6 [(1, .own true 3 T161 .no x0), (2, .v T161 x1), (3, .v T161 x2)] K = (g26_6 x0 x1 x2 (fun y0 y1 => K .normal [(1, .own true 3 T161 .no y0), (3, .v T161 y1)])) := by
  kernel_rfl
def g26_8 {R : Type} (x0 : D160) (x1 : Int) (k0 : D160 → Int → Option R) : Option R :=
k0 x0 (IntKind.i64.wrap (x1 + (1 : Int)))
theorem ng26_8 {R R2 : Type} (x0 : D160) (x1 : Int) (k0 : D160 → Int → Option R) (h : R → Option R2) : ((g26_8 x0 x1 k0)).bind h = (g26_8 x0 x1 (fun y0 y1 => (k0 y0 y1).bind h)) := by
  simp only [g26_8, bind_brB, bind_ite, bind_none', Option.bind_assoc]
theorem t26_8 {N : Nat} {cl : Cal} {R : Type} (K : KE R) (x0 : D160) (x1 : Int) : exec cl N c26_8 [(1, .own true 3 T161 .no x0), (3, .v T161 x1)] K = (g26_8 x0 x1 (fun y0 y1 => K .normal [(1, .own true 3 T161 .no y0), (3, .v T161 y1)])) := by
  kernel_rfl
def g26_9 {R : Type} (x0 : D160) (x1 : Int) (k0 : D160 → Int → Option R) (k1 : D160 → Int → Option R) : Option R :=
(g26_3 x0 x1 (fun y0 y1 y2 => brB y2 ((fun y0 y1 => (g26_5 y0 y1 (fun y0 y1 y2 => (g26_6 y0 y1 y2 (fun y0 y1 => (g26_8 y0 y1 k0)))))) y0 y1) (k1 y0 y1)))
theorem ng26_9 {R R2 : Type} (x0 : D160) (x1 : Int) (k0 : D160 → Int → Option R) (k1 : D160 → Int → Option R) (h : R → Option R2) : ((g26_9 x0 x1 k0 k1)).bind h = (g26_9 x0 x1 (fun y0 y1 => (k0 y0 y1).bind h) (fun y0 y1 => (k1 y0 y1).bind h)) := by
  simp only [g26_9, ng26_3, ng26_5, ng26_6, ng26_8, bind_brB, bind_ite, bind_none', Option.bind_assoc]
theorem t26_9 {N : Nat} {cl : Cal} {R : Type} (K : KE R) (x0 : D160) (x1 : Int) : exec cl N c26_9 [(1, .own true 3 T161 .no x0), (3, .v T161 x1)] K = (g26_9 x0 x1 (fun y0 y1 => K .normal [(1, .own true 3 T161 .no y0), (3, .v T161 y1)]) (fun y0 y1 => K (.exit 0) [(1, .own true 3 T161 .no y0), (3, .v T161 y1)])) := by
  simp only [c26_9, exec_seq, seqK_normal, seqK_exit, seqK_ret, t26_3, c26_4, exec_out, exec_cond', hb26_0, Option.bind_some, brB_true, brB_false, exec_skip, exec_exit, kp26_1, c26_7, exec_block, t26_5, t26_6, blockK_normal, blockK_ret, blockK_eq, kp26_0, t26_8]
  rfl

def l26_10 {R : Type} (k0 : D160 → Int → Option R) : Nat → D160 → Int → Option R
  | 0, _, _ => none
  | m + 1, x0, x1 => (g26_9 x0 x1 (fun y0 y1 => l26_10 k0 m y0 y1) k0)
theorem nl26_10 {R R2 : Type} (k0 : D160 → Int → Option R) (h : R → Option R2) : ∀ (m : Nat) (x0 : D160) (x1 : Int), (l26_10 k0 m x0 x1).bind h = l26_10 (fun y0 y1 => (k0 y0 y1).bind h) m x0 x1 := by
  intro m
  induction m with
  | zero => intros; rfl
  | succ m ih =>
    intro x0 x1
    simp only [l26_10, ng26_9, bind_brB, bind_ite, bind_none', ih]
theorem lt26_10 {N : Nat} {cl : Cal} {R : Type} (K : KE R) : ∀ (m : Nat) (x0 : D160) (x1 : Int), iter [1, 3] (fun env K => exec cl N c26_9 env K) K m [(1, .own true 3 T161 .no x0), (3, .v T161 x1)] = l26_10 (fun y0 y1 => K (.exit 0) [(1, .own true 3 T161 .no y0), (3, .v T161 y1)]) m x0 x1 := by
  intro m
  induction m with
  | zero => intros; rfl
  | succ m ih =>
    intro x0 x1
    simp only [iter_succ, t26_9, loopK_normal, loopK_exit, loopK_ret, kp26_0, ih]
    rfl

theorem kp26_2 (x0 : D160) (x1 : Int) : keep [1] [(1, .own true 3 T161 .no x0), (3, .v T161 x1)] = [(1, .own true 3 T161 .no x0)] := by kernel_rfl
def g26_10 {R : Type} (N : Nat) (x0 : D160) (x1 : Int) (k0 : D160 → Option R) : Option R :=
l26_10 (fun y0 y1 => k0 y0) N x0 x1
theorem ng26_10 {R R2 : Type} (N : Nat) (x0 : D160) (x1 : Int) (k0 : D160 → Option R) (h : R → Option R2) : ((g26_10 N x0 x1 k0)).bind h = (g26_10 N x0 x1 (fun y0 => (k0 y0).bind h)) := by
  simp only [g26_10, nl26_10, bind_brB, bind_ite, bind_none', Option.bind_assoc]
theorem t26_10 {N : Nat} {cl : Cal} {R : Type} (K : KE R) (x0 : D160) (x1 : Int) : exec cl N c26_10 [(1, .own true 3 T161 .no x0), (3, .v T161 x1)] K = (g26_10 N x0 x1 (fun y0 => K (.exit 0) [(1, .own true 3 T161 .no y0)])) := by
  simp only [c26_10, exec_out, exec_loop, kp26_0, lt26_10, kp26_2]
  rfl

theorem kp26_3 (x0 : D160) : keep [1] [(1, .own true 3 T161 .no x0)] = [(1, .own true 3 T161 .no x0)] := by kernel_rfl
def g26_12 {R : Type} (x0 : D160) (k0 : D160 → Option R) : Option R :=
k0 x0
theorem ng26_12 {R R2 : Type} (x0 : D160) (k0 : D160 → Option R) (h : R → Option R2) : ((g26_12 x0 k0)).bind h = (g26_12 x0 (fun y0 => (k0 y0).bind h)) := by
  simp only [g26_12, bind_brB, bind_ite, bind_none', Option.bind_assoc]
theorem t26_12 {N : Nat} {cl : Cal} {R : Type} (K : KE R) (x0 : D160) : exec cl N c26_12 [(1, .own true 3 T161 .no x0)] K = (g26_12 x0 (fun y0 => K .normal [(0, .ref 1 []), (1, .own true 3 T161 .no y0)])) := by
  kernel_rfl
def g26_13 {R : Type} (N : Nat) (k0 : D160 → Option R) : Option R :=
(g26_0 (g26_1 (fun y0 => (g26_2 y0 (fun y0 y1 => (g26_10 N y0 y1 (fun y0 => ((fun y0 => (g26_12 y0 (fun y0 => (k0 y0)))) y0))))))))
theorem ng26_13 {R R2 : Type} (N : Nat) (k0 : D160 → Option R) (h : R → Option R2) : ((g26_13 N k0)).bind h = (g26_13 N (fun y0 => (k0 y0).bind h)) := by
  simp only [g26_13, ng26_0, ng26_1, ng26_10, ng26_12, ng26_2, bind_brB, bind_ite, bind_none', Option.bind_assoc]
theorem t26_13 {N : Nat} {cl : Cal} {R : Type} (K : KE R) : exec cl N c26_13 [] K = (g26_13 N (fun y0 => K .ret [(0, .ref 1 []), (1, .own true 3 T161 .no y0)])) := by
  simp only [c26_13, exec_seq, seqK_normal, seqK_exit, seqK_ret, t26_0, t26_1, t26_2, c26_11, exec_out, exec_block, t26_10, blockK_normal, blockK_ret, blockK_eq, kp26_3, t26_12, exec_ret]
  rfl

theorem rk26_0 (y0 : D160) : retK d26 .ret [(0, .ref 1 []), (1, .own true 3 T161 .no y0)] = some [.own true 3 T161 .no y0] := by kernel_rfl
def g26 {R : Type} (N : Nat) (k : D160 → Option R) : Option R :=
(g26_13 N (fun y0 => k y0))
theorem gen26 {N : Nat} {cl : Cal} : exec cl N c26 (params 0 []) (retK d26) = g26 N (fun (r0 : D160) => some [.own true 3 T161 .no r0]) := by
  have e0 : params 0 [] = [] := by kernel_rfl
  simp only [c26, e0, t26_13, rk26_0]
  rfl

def ctr26 (S : Option D162) : Ctr := { A := Unit, B := D160, f := 26, enc := fun a => [], dec := dec0, S := fun a => S, ent := fun b => [.own true 3 T161 .no b], ok := (fun es b h => dec0_some h) }
def S26 (N : Nat) : Option D162 := g26 N (fun (r0 : D160) => some (r0))
theorem ng26 {R R2 : Type} (N : Nat) (k : D160 → Option R) (h : R → Option R2) : (g26 N k).bind h = g26 N (fun (r0 : D160) => (k r0).bind h) := by
  simp only [g26, ng26_13]
end Go.Fw.L16
