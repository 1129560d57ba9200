import Derived.Test.YtngkconohhikpaaFwM16a
import Derived.Test.YtngkconohhikpaaFwP
set_option linter.unusedVariables false
set_option linter.unusedSimpArgs false
namespace Go.Fw.L16
open Go Go.Fw
set_option maxRecDepth 100000
set_option linter.unusedVariables false
set_option linter.unusedSimpArgs false
-- anceps/ancepslaw16.WeightAlways
def g8_0 {R : Type} (x0 : Int) (x1 : Int) (x2 : Bool) (k0 : Int → Int → Bool → Option R) : Option R :=
k0 x0 x1 x2
theorem ng8_0 {R R2 : Type} (x0 : Int) (x1 : Int) (x2 : Bool) (k0 : Int → Int → Bool → Option R) (h : R → Option R2) : ((g8_0 x0 x1 x2 k0)).bind h = (g8_0 x0 x1 x2 (fun y0 y1 y2 => (k0 y0 y1 y2).bind h)) := by
  simp only [g8_0, bind_brB, bind_ite, bind_none', Option.bind_assoc]
theorem t8_0 {N : Nat} {cl : Cal} {R : Type} (K : KE R) (x0 : Int) (x1 : Int) (x2 : Bool) : exec cl N c8_0 [(0, .v T160 x0), (1, .v T160 x1), (2, .v .bool x2)] K = (g8_0 x0 x1 x2 (fun y0 y1 y2 => K .normal [(0, .v T160 y0), (1, .v T160 y1), (2, .v .bool y2)])) := by
  kernel_rfl
def g8_1 {R : Type} (S11 : Option (Bool)) (x0 : Int) (x1 : Int) (x2 : Bool) (k0 : Int → Int → Bool → Bool → Option R) : Option R :=
(S11).bind fun r286 =>
k0 x0 x1 x2 (!r286)
theorem ng8_1 {R R2 : Type} (S11 : Option (Bool)) (x0 : Int) (x1 : Int) (x2 : Bool) (k0 : Int → Int → Bool → Bool → Option R) (h : R → Option R2) : ((g8_1 S11 x0 x1 x2 k0)).bind h = (g8_1 S11 x0 x1 x2 (fun y0 y1 y2 y3 => (k0 y0 y1 y2 y3).bind h)) := by
  simp only [g8_1, bind_brB, bind_ite, bind_none', Option.bind_assoc]
theorem t8_1 {N : Nat} {cl : Cal} (S11 : Option (Bool)) (h11 : (ctr11 S11).holds cl) {R : Type} (K : KE R) (x0 : Int) (x1 : Int) (x2 : Bool) : exec cl N c8_1 [(0, .v T160 x0), (1, .v T160 x1), (2, .v .bool x2)] K = (g8_1 S11 x0 x1 x2 (fun y0 y1 y2 y3 => K .normal [(0, .v T160 y0), (1, .v T160 y1), (2, .v .bool y2), (16, .v .bool y3)])) := by
  rw [← put_eq h11]
  kernel_rfl
def g8_2 {R : Type} (x0 : Int) (x1 : Int) (x2 : Bool) (x3 : Bool) (k0 : Bool → Option R) : Option R :=
k0 false
theorem ng8_2 {R R2 : Type} (x0 : Int) (x1 : Int) (x2 : Bool) (x3 : Bool) (k0 : Bool → Option R) (h : R → Option R2) : ((g8_2 x0 x1 x2 x3 k0)).bind h = (g8_2 x0 x1 x2 x3 (fun y0 => (k0 y0).bind h)) := by
  simp only [g8_2, bind_brB, bind_ite, bind_none', Option.bind_assoc]
theorem t8_2 {N : Nat} {cl : Cal} {R : Type} (K : KE R) (x0 : Int) (x1 : Int) (x2 : Bool) (x3 : Bool) : exec cl N c8_2 [(0, .v T160 x0), (1, .v T160 x1), (2, .v .bool x2), (16, .v .bool x3)] K = (g8_2 x0 x1 x2 x3 (fun y0 => K .normal [(6, .v .bool y0)])) := by
  kernel_rfl
theorem kp8_0 (x0 : Bool) : keep [0, 1, 2, 6] [(6, .v .bool x0)] = [(0, .dead), (1, .dead), (2, .dead), (6, .v .bool x0)] := by kernel_rfl
theorem kp8_1 (x0 : Int) (x1 : Int) (x2 : Bool) (x3 : Bool) : keep [0, 1, 2, 6] [(0, .v T160 x0), (1, .v T160 x1), (2, .v .bool x2), (16, .v .bool x3)] = [(0, .v T160 x0), (1, .v T160 x1), (2, .v .bool x2), (6, .dead)] := by kernel_rfl
theorem hb8_0 (x0 : Int) (x1 : Int) (x2 : Bool) (x3 : Bool) : boolOf? (ent [(0, .v T160 x0), (1, .v T160 x1), (2, .v .bool x2), (16, .v .bool x3)] (.t 16)) = some x3 := by kernel_rfl
def g8_4 {R : Type} (x0 : Int) (x1 : Int) (x2 : Bool) (k0 : Bool → Int → Int → Option R) : Option R :=
k0 x2 (IntKind.i64.wrap ((1 : Int) + (IntKind.i64.wrap (Int.tmod x0 (3 : Int))))) (IntKind.i64.wrap ((1 : Int) + (IntKind.i64.wrap (Int.tmod x1 (4 : Int)))))
theorem ng8_4 {R R2 : Type} (x0 : Int) (x1 : Int) (x2 : Bool) (k0 : Bool → Int → Int → Option R) (h : R → Option R2) : ((g8_4 x0 x1 x2 k0)).bind h = (g8_4 x0 x1 x2 (fun y0 y1 y2 => (k0 y0 y1 y2).bind h)) := by
  simp only [g8_4, bind_brB, bind_ite, bind_none', Option.bind_assoc]
theorem t8_4 {N : Nat} {cl : Cal} {R : Type} (K : KE R) (x0 : Int) (x1 : Int) (x2 : Bool) : exec cl N c8_4 [(0, .v T160 x0), (1, .v T160 x1), (2, .v .bool x2), (6, .dead)] K = (g8_4 x0 x1 x2 (fun y0 y1 y2 => K .normal [(2, .v .bool y0), (7, .v T161 y1), (8, .v T161 y2)])) := by
  kernel_rfl
def g8_5 {R : Type} (S12 : Int → Int → Option D1610) (x0 : Bool) (x1 : Int) (x2 : Int) (k0 : Bool → Int → Int → D167 → Int → Option R) : Option R :=
(S12 x1 x2).bind fun r293 =>
k0 x0 x1 x2 r293.1 r293.2
theorem ng8_5 {R R2 : Type} (S12 : Int → Int → Option D1610) (x0 : Bool) (x1 : Int) (x2 : Int) (k0 : Bool → Int → Int → D167 → Int → Option R) (h : R → Option R2) : ((g8_5 S12 x0 x1 x2 k0)).bind h = (g8_5 S12 x0 x1 x2 (fun y0 y1 y2 y3 y4 => (k0 y0 y1 y2 y3 y4).bind h)) := by
  simp only [g8_5, bind_brB, bind_ite, bind_none', Option.bind_assoc]
theorem t8_5 {N : Nat} {cl : Cal} (S12 : Int → Int → Option D1610) (h12 : (ctr12 S12).holds cl) {R : Type} (K : KE R) (x0 : Bool) (x1 : Int) (x2 : Int) : exec cl N c8_5 [(2, .v .bool x0), (7, .v T161 x1), (8, .v T161 x2)] K = (g8_5 S12 x0 x1 x2 (fun y0 y1 y2 y3 y4 => K .normal [(2, .v .bool y0), (7, .v T161 y1), (8, .v T161 y2), (9, .own true 33 T166 .no y3), (10, .v T161 y4)])) := by
  rw [← put_eq h12]
  kernel_rfl
def g8_6 {R : Type} (S15 : Int → Bool → Option D1610) (x0 : Bool) (x1 : Int) (x2 : Int) (x3 : D167) (x4 : Int) (k0 : Int → D167 → Int → D167 → Int → Option R) : Option R :=
(S15 x1 x0).bind fun r294 =>
k0 x2 x3 x4 r294.1 r294.2
theorem ng8_6 {R R2 : Type} (S15 : Int → Bool → Option D1610) (x0 : Bool) (x1 : Int) (x2 : Int) (x3 : D167) (x4 : Int) (k0 : Int → D167 → Int → D167 → Int → Option R) (h : R → Option R2) : ((g8_6 S15 x0 x1 x2 x3 x4 k0)).bind h = (g8_6 S15 x0 x1 x2 x3 x4 (fun y0 y1 y2 y3 y4 => (k0 y0 y1 y2 y3 y4).bind h)) := by
  simp only [g8_6, bind_brB, bind_ite, bind_none', Option.bind_assoc]
theorem t8_6 {N : Nat} {cl : Cal} (S15 : Int → Bool → Option D1610) (h15 : (ctr15 S15).holds cl) {R : Type} (K : KE R) (x0 : Bool) (x1 : Int) (x2 : Int) (x3 : D167) (x4 : Int) : exec cl N c8_6 [(2, .v .bool x0), (7, .v T161 x1), (8, .v T161 x2), (9, .own true 33 T166 .no x3), (10, .v T161 x4)] K = (g8_6 S15 x0 x1 x2 x3 x4 (fun y0 y1 y2 y3 y4 => K .normal [(8, .v T161 y0), (9, .own true 33 T166 .no y1), (10, .v T161 y2), (11, .own true 33 T166 .no y3), (12, .v T161 y4)])) := by
  rw [← put_eq h15]
  kernel_rfl
def g8_7 {R : Type} (S25 : D167 → D160 → Option D168) (x0 : Int) (x1 : D167) (x2 : Int) (x3 : D167) (x4 : Int) (k0 : Int → D167 → D167 → Bool → Option R) : Option R :=
brB (x2 != (0 : Int)) (k0 x0 x1 x3 true) (brB (x4 != (0 : Int)) (k0 x0 x1 x3 true) ((S25 x1 []).bind fun r297 =>
brB ((r297.length : Int) == (0 : Int)) (k0 x0 x1 x3 true) ((S25 x3 []).bind fun r299 =>
k0 x0 x1 x3 ((r299.length : Int) == (0 : Int)))))
theorem ng8_7 {R R2 : Type} (S25 : D167 → D160 → Option D168) (x0 : Int) (x1 : D167) (x2 : Int) (x3 : D167) (x4 : Int) (k0 : Int → D167 → D167 → Bool → Option R) (h : R → Option R2) : ((g8_7 S25 x0 x1 x2 x3 x4 k0)).bind h = (g8_7 S25 x0 x1 x2 x3 x4 (fun y0 y1 y2 y3 => (k0 y0 y1 y2 y3).bind h)) := by
  simp only [g8_7, bind_brB, bind_ite, bind_none', Option.bind_assoc]
theorem t8_7 {N : Nat} {cl : Cal} (S25 : D167 → D160 → Option D168) (h25 : (ctr25 S25).holds cl) {R : Type} (K : KE R) (x0 : Int) (x1 : D167) (x2 : Int) (x3 : D167) (x4 : Int) : exec cl N c8_7 [(8, .v T161 x0), (9, .own true 33 T166 .no x1), (10, .v T161 x2), (11, .own true 33 T166 .no x3), (12, .v T161 x4)] K = (g8_7 S25 x0 x1 x2 x3 x4 (fun y0 y1 y2 y3 => K .normal [(8, .v T161 y0), (9, .own true 33 T166 .no y1), (11, .own true 33 T166 .no y2), (54, .v .bool y3)])) := by
  rw [← put_eq h25]
  kernel_rfl
def g8_8 {R : Type} (x0 : Int) (x1 : D167) (x2 : D167) (x3 : Bool) (k0 : Bool → Option R) : Option R :=
k0 false
theorem ng8_8 {R R2 : Type} (x0 : Int) (x1 : D167) (x2 : D167) (x3 : Bool) (k0 : Bool → Option R) (h : R → Option R2) : ((g8_8 x0 x1 x2 x3 k0)).bind h = (g8_8 x0 x1 x2 x3 (fun y0 => (k0 y0).bind h)) := by
  simp only [g8_8, bind_brB, bind_ite, bind_none', Option.bind_assoc]
theorem t8_8 {N : Nat} {cl : Cal} {R : Type} (K : KE R) (x0 : Int) (x1 : D167) (x2 : D167) (x3 : Bool) : exec cl N c8_8 [(8, .v T161 x0), (9, .own true 33 T166 .no x1), (11, .own true 33 T166 .no x2), (54, .v .bool x3)] K = (g8_8 x0 x1 x2 x3 (fun y0 => K .normal [(6, .v .bool y0)])) := by
  kernel_rfl
theorem kp8_2 (x0 : Bool) : keep [6, 8, 9, 11] [(6, .v .bool x0)] = [(6, .v .bool x0), (8, .dead), (9, .dead), (11, .dead)] := by kernel_rfl
theorem kp8_3 (x0 : Int) (x1 : D167) (x2 : D167) (x3 : Bool) : keep [6, 8, 9, 11] [(8, .v T161 x0), (9, .own true 33 T166 .no x1), (11, .own true 33 T166 .no x2), (54, .v .bool x3)] = [(6, .dead), (8, .v T161 x0), (9, .own true 33 T166 .no x1), (11, .own true 33 T166 .no x2)] := by kernel_rfl
theorem hb8_1 (x0 : Int) (x1 : D167) (x2 : D167) (x3 : Bool) : boolOf? (ent [(8, .v T161 x0), (9, .own true 33 T166 .no x1), (11, .own true 33 T166 .no x2), (54, .v .bool x3)] (.t 54)) = some x3 := by kernel_rfl
def g8_10 {R : Type} (S19 : D167 → Option (Int)) (S25 : D167 → D160 → Option D168) (S26 : Option D162) (x0 : Int) (x1 : D167) (x2 : D167) (k0 : Int → Int → Int → Option R) : Option R :=
(S26).bind fun r301 =>
(S25 x1 r301).bind fun r302 =>
(S19 r302).bind fun r303 =>
(S26).bind fun r304 =>
(S25 x2 r304).bind fun r305 =>
(S19 r305).bind fun r306 =>
k0 x0 r303 r306
theorem ng8_10 {R R2 : Type} (S19 : D167 → Option (Int)) (S25 : D167 → D160 → Option D168) (S26 : Option D162) (x0 : Int) (x1 : D167) (x2 : D167) (k0 : Int → Int → Int → Option R) (h : R → Option R2) : ((g8_10 S19 S25 S26 x0 x1 x2 k0)).bind h = (g8_10 S19 S25 S26 x0 x1 x2 (fun y0 y1 y2 => (k0 y0 y1 y2).bind h)) := by
  simp only [g8_10, bind_brB, bind_ite, bind_none', Option.bind_assoc]
theorem t8_10 {N : Nat} {cl : Cal} (S19 : D167 → Option (Int)) (S25 : D167 → D160 → Option D168) (S26 : Option D162) (h19 : (ctr19 S19).holds cl) (h25 : (ctr25 S25).holds cl) (h26 : (ctr26 S26).holds cl) {R : Type} (K : KE R) (x0 : Int) (x1 : D167) (x2 : D167) : exec cl N c8_10 [(6, .dead), (8, .v T161 x0), (9, .own true 33 T166 .no x1), (11, .own true 33 T166 .no x2)] K = (g8_10 S19 S25 S26 x0 x1 x2 (fun y0 y1 y2 => K .normal [(8, .v T161 y0), (13, .v T161 y1), (14, .v T161 y2)])) := by
  rw [← put_eq h19]
  rw [← put_eq h25]
  rw [← put_eq h26]
  kernel_rfl
def g8_11 {R : Type} (x0 : Int) (x1 : Int) (x2 : Int) (k0 : Bool → Option R) : Option R :=
brB (decide ((Go.bits .and IntKind.i64 x1 (2 : Int)) > (0 : Int))) (brB (x0 != (1 : Int)) (k0 (x2 == (3 : Int))) (brB (x1 == (3 : Int)) (k0 (x2 == (3 : Int))) (k0 false))) (k0 false)
theorem ng8_11 {R R2 : Type} (x0 : Int) (x1 : Int) (x2 : Int) (k0 : Bool → Option R) (h : R → Option R2) : ((g8_11 x0 x1 x2 k0)).bind h = (g8_11 x0 x1 x2 (fun y0 => (k0 y0).bind h)) := by
  simp only [g8_11, bind_brB, bind_ite, bind_none', Option.bind_assoc]
theorem t8_11 {N : Nat} {cl : Cal} {R : Type} (K : KE R) (x0 : Int) (x1 : Int) (x2 : Int) : exec cl N c8_11 [(8, .v T161 x0), (13, .v T161 x1), (14, .v T161 x2)] K = (g8_11 x0 x1 x2 (fun y0 => K .normal [(6, .v .bool y0)])) := by
  kernel_rfl
def g8_12 {R : Type} (S11 : Option (Bool)) (S12 : Int → Int → Option D1610) (S15 : Int → Bool → Option D1610) (S19 : D167 → Option (Int)) (S25 : D167 → D160 → Option D168) (S26 : Option D162) (x0 : Int) (x1 : Int) (x2 : Bool) (k0 : Bool → Option R) (k1 : Bool → Option R) (k2 : Bool → Option R) : Option R :=
(g8_0 x0 x1 x2 (fun y0 y1 y2 => (g8_1 S11 y0 y1 y2 (fun y0 y1 y2 y3 => brB y3 (g8_2 y0 y1 y2 y3 (fun y0 => ((fun y0 => (k0 y0)) y0))) ((fun y0 y1 y2 => (g8_4 y0 y1 y2 (fun y0 y1 y2 => (g8_5 S12 y0 y1 y2 (fun y0 y1 y2 y3 y4 => (g8_6 S15 y0 y1 y2 y3 y4 (fun y0 y1 y2 y3 y4 => (g8_7 S25 y0 y1 y2 y3 y4 (fun y0 y1 y2 y3 => brB y3 (g8_8 y0 y1 y2 y3 (fun y0 => ((fun y0 => (k1 y0)) y0))) ((fun y0 y1 y2 => (g8_10 S19 S25 S26 y0 y1 y2 (fun y0 y1 y2 => (g8_11 y0 y1 y2 (fun y0 => (k2 y0)))))) y0 y1 y2)))))))))) y0 y1 y2)))))
theorem ng8_12 {R R2 : Type} (S11 : Option (Bool)) (S12 : Int → Int → Option D1610) (S15 : Int → Bool → Option D1610) (S19 : D167 → Option (Int)) (S25 : D167 → D160 → Option D168) (S26 : Option D162) (x0 : Int) (x1 : Int) (x2 : Bool) (k0 : Bool → Option R) (k1 : Bool → Option R) (k2 : Bool → Option R) (h : R → Option R2) : ((g8_12 S11 S12 S15 S19 S25 S26 x0 x1 x2 k0 k1 k2)).bind h = (g8_12 S11 S12 S15 S19 S25 S26 x0 x1 x2 (fun y0 => (k0 y0).bind h) (fun y0 => (k1 y0).bind h) (fun y0 => (k2 y0).bind h)) := by
  simp only [g8_12, ng8_0, ng8_1, ng8_10, ng8_11, ng8_2, ng8_4, ng8_5, ng8_6, ng8_7, ng8_8, bind_brB, bind_ite, bind_none', Option.bind_assoc]
theorem t8_12 {N : Nat} {cl : Cal} (S11 : Option (Bool)) (S12 : Int → Int → Option D1610) (S15 : Int → Bool → Option D1610) (S19 : D167 → Option (Int)) (S25 : D167 → D160 → Option D168) (S26 : Option D162) (h11 : (ctr11 S11).holds cl) (h12 : (ctr12 S12).holds cl) (h15 : (ctr15 S15).holds cl) (h19 : (ctr19 S19).holds cl) (h25 : (ctr25 S25).holds cl) (h26 : (ctr26 S26).holds cl) {R : Type} (K : KE R) (x0 : Int) (x1 : Int) (x2 : Bool) : exec cl N c8_12 [(0, .v T160 x0), (1, .v T160 x1), (2, .v .bool x2)] K = (g8_12 S11 S12 S15 S19 S25 S26 x0 x1 x2 (fun y0 => K .ret [(0, .dead), (1, .dead), (2, .dead), (6, .v .bool y0)]) (fun y0 => K .ret [(6, .v .bool y0), (8, .dead), (9, .dead), (11, .dead)]) (fun y0 => K .ret [(6, .v .bool y0)])) := by
  simp only [c8_12, exec_seq, seqK_normal, seqK_exit, seqK_ret, t8_0, t8_1 S11 h11, c8_3, exec_out, exec_cond', hb8_0, Option.bind_some, brB_true, brB_false, t8_2, exec_ret, exec_skip, kp8_0, kp8_1, t8_4, t8_5 S12 h12, t8_6 S15 h15, t8_7 S25 h25, c8_9, hb8_1, t8_8, kp8_2, kp8_3, t8_10 S19 S25 S26 h19 h25 h26, t8_11]
  rfl

theorem rk8_0 (y0 : Bool) : retK d8 .ret [(0, .dead), (1, .dead), (2, .dead), (6, .v .bool y0)] = some [.v .bool y0] := by kernel_rfl
theorem rk8_1 (y0 : Bool) : retK d8 .ret [(6, .v .bool y0), (8, .dead), (9, .dead), (11, .dead)] = some [.v .bool y0] := by kernel_rfl
theorem rk8_2 (y0 : Bool) : retK d8 .ret [(6, .v .bool y0)] = some [.v .bool y0] := by kernel_rfl
def g8 {R : Type} (S11 : Option (Bool)) (S12 : Int → Int → Option D1610) (S15 : Int → Bool → Option D1610) (S19 : D167 → Option (Int)) (S25 : D167 → D160 → Option D168) (S26 : Option D162) (x0 : Int) (x1 : Int) (x2 : Bool) (k : Bool → Option R) : Option R :=
(g8_12 S11 S12 S15 S19 S25 S26 x0 x1 x2 (fun y0 => k y0) (fun y0 => k y0) (fun y0 => k y0))
theorem gen8 {N : Nat} {cl : Cal} (S11 : Option (Bool)) (S12 : Int → Int → Option D1610) (S15 : Int → Bool → Option D1610) (S19 : D167 → Option (Int)) (S25 : D167 → D160 → Option D168) (S26 : Option D162) (h11 : (ctr11 S11).holds cl) (h12 : (ctr12 S12).holds cl) (h15 : (ctr15 S15).holds cl) (h19 : (ctr19 S19).holds cl) (h25 : (ctr25 S25).holds cl) (h26 : (ctr26 S26).holds cl) (x0 : Int) (x1 : Int) (x2 : Bool) : exec cl N c8 (params 0 [.v T160 x0, .v T160 x1, .v .bool x2]) (retK d8) = g8 S11 S12 S15 S19 S25 S26 x0 x1 x2 (fun (r0 : Bool) => some [.v .bool r0]) := by
  have e0 : params 0 [.v T160 x0, .v T160 x1, .v .bool x2] = [(0, .v T160 x0), (1, .v T160 x1), (2, .v .bool x2)] := by kernel_rfl
  simp only [c8, e0, t8_12 S11 S12 S15 S19 S25 S26 h11 h12 h15 h19 h25 h26, rk8_0, rk8_1, rk8_2]
  rfl

def ctr8 (S : Int → Int → Bool → Option (Bool)) : Ctr := { A := Int × Int × Bool × Unit, B := Bool, f := 8, enc := fun a => [.v T160 a.1, .v T160 a.2.1, .v .bool a.2.2.1], dec := (decC (decV T160) (decC (decV T160) (decC (decV .bool) dec0))), S := fun a => S a.1 a.2.1 a.2.2.1, ent := fun b => [.v .bool b], ok := (decV_cons (T := T160) (decV_cons (T := T160) (decV_cons (T := .bool) (fun es b h => dec0_some h)))) }
def S8 (N : Nat) (x0 : Int) (x1 : Int) (x2 : Bool) : Option (Bool) := g8 (S11 N) (S12 N) (S15 N) (S19 N) (S25 N) (S26 N) x0 x1 x2 (fun (r0 : Bool) => some (r0))
theorem ng8 {R R2 : Type} (S11 : Option (Bool)) (S12 : Int → Int → Option D1610) (S15 : Int → Bool → Option D1610) (S19 : D167 → Option (Int)) (S25 : D167 → D160 → Option D168) (S26 : Option D162) (x0 : Int) (x1 : Int) (x2 : Bool) (k : Bool → Option R) (h : R → Option R2) : (g8 S11 S12 S15 S19 S25 S26 x0 x1 x2 k).bind h = g8 S11 S12 S15 S19 S25 S26 x0 x1 x2 (fun (r0 : Bool) => (k r0).bind h) := by
  simp only [g8, ng8_12]
-- anceps/ancepslaw16.WeightOpen
def g9_0 {R : Type} (x0 : Int) (x1 : Bool) (x2 : D160) (k0 : Int → Bool → D160 → Option R) : Option R :=
k0 x0 x1 x2
theorem ng9_0 {R R2 : Type} (x0 : Int) (x1 : Bool) (x2 : D160) (k0 : Int → Bool → D160 → Option R) (h : R → Option R2) : ((g9_0 x0 x1 x2 k0)).bind h = (g9_0 x0 x1 x2 (fun y0 y1 y2 => (k0 y0 y1 y2).bind h)) := by
  simp only [g9_0, bind_brB, bind_ite, bind_none', Option.bind_assoc]
theorem t9_0 {N : Nat} {cl : Cal} {R : Type} (K : KE R) (x0 : Int) (x1 : Bool) (x2 : D160) : exec cl N c9_0 [(0, .v T160 x0), (1, .v .bool x1), (2, .v T162 x2)] K = (g9_0 x0 x1 x2 (fun y0 y1 y2 => K .normal [(0, .v T160 y0), (1, .v .bool y1), (2, .v T162 y2)])) := by
  kernel_rfl
def g9_1 {R : Type} (S11 : Option (Bool)) (x0 : Int) (x1 : Bool) (x2 : D160) (k0 : Int → Bool → D160 → Bool → Option R) : Option R :=
(S11).bind fun r341 =>
brB (!r341) (k0 x0 x1 x2 true) (k0 x0 x1 x2 (decide ((x2.length : Int) > (40 : Int))))
theorem ng9_1 {R R2 : Type} (S11 : Option (Bool)) (x0 : Int) (x1 : Bool) (x2 : D160) (k0 : Int → Bool → D160 → Bool → Option R) (h : R → Option R2) : ((g9_1 S11 x0 x1 x2 k0)).bind h = (g9_1 S11 x0 x1 x2 (fun y0 y1 y2 y3 => (k0 y0 y1 y2 y3).bind h)) := by
  simp only [g9_1, bind_brB, bind_ite, bind_none', Option.bind_assoc]
theorem t9_1 {N : Nat} {cl : Cal} (S11 : Option (Bool)) (h11 : (ctr11 S11).holds cl) {R : Type} (K : KE R) (x0 : Int) (x1 : Bool) (x2 : D160) : exec cl N c9_1 [(0, .v T160 x0), (1, .v .bool x1), (2, .v T162 x2)] K = (g9_1 S11 x0 x1 x2 (fun y0 y1 y2 y3 => K .normal [(0, .v T160 y0), (1, .v .bool y1), (2, .v T162 y2), (20, .v .bool y3)])) := by
  rw [← put_eq h11]
  kernel_rfl
def g9_2 {R : Type} (S11 : Option (Bool)) (x0 : Int) (x1 : Bool) (x2 : D160) (x3 : Bool) (k0 : Bool → Option R) : Option R :=
(S11).bind fun r343 =>
k0 r343
theorem ng9_2 {R R2 : Type} (S11 : Option (Bool)) (x0 : Int) (x1 : Bool) (x2 : D160) (x3 : Bool) (k0 : Bool → Option R) (h : R → Option R2) : ((g9_2 S11 x0 x1 x2 x3 k0)).bind h = (g9_2 S11 x0 x1 x2 x3 (fun y0 => (k0 y0).bind h)) := by
  simp only [g9_2, bind_brB, bind_ite, bind_none', Option.bind_assoc]
theorem t9_2 {N : Nat} {cl : Cal} (S11 : Option (Bool)) (h11 : (ctr11 S11).holds cl) {R : Type} (K : KE R) (x0 : Int) (x1 : Bool) (x2 : D160) (x3 : Bool) : exec cl N c9_2 [(0, .v T160 x0), (1, .v .bool x1), (2, .v T162 x2), (20, .v .bool x3)] K = (g9_2 S11 x0 x1 x2 x3 (fun y0 => K .normal [(6, .v .bool y0)])) := by
  rw [← put_eq h11]
  kernel_rfl
theorem kp9_0 (x0 : Bool) : keep [0, 1, 2, 6] [(6, .v .bool x0)] = [(0, .dead), (1, .dead), (2, .dead), (6, .v .bool x0)] := by kernel_rfl
theorem kp9_1 (x0 : Int) (x1 : Bool) (x2 : D160) (x3 : Bool) : keep [0, 1, 2, 6] [(0, .v T160 x0), (1, .v .bool x1), (2, .v T162 x2), (20, .v .bool x3)] = [(0, .v T160 x0), (1, .v .bool x1), (2, .v T162 x2), (6, .dead)] := by kernel_rfl
theorem hb9_0 (x0 : Int) (x1 : Bool) (x2 : D160) (x3 : Bool) : boolOf? (ent [(0, .v T160 x0), (1, .v .bool x1), (2, .v T162 x2), (20, .v .bool x3)] (.t 20)) = some x3 := by kernel_rfl
def g9_4 {R : Type} (x0 : Int) (x1 : Bool) (x2 : D160) (k0 : Int → Bool → D160 → D160 → D160 → Option R) : Option R :=
k0 x0 x1 x2 (List.replicate 4 (0 : Int)) (List.replicate 4 (0 : Int))
theorem ng9_4 {R R2 : Type} (x0 : Int) (x1 : Bool) (x2 : D160) (k0 : Int → Bool → D160 → D160 → D160 → Option R) (h : R → Option R2) : ((g9_4 x0 x1 x2 k0)).bind h = (g9_4 x0 x1 x2 (fun y0 y1 y2 y3 y4 => (k0 y0 y1 y2 y3 y4).bind h)) := by
  simp only [g9_4, bind_brB, bind_ite, bind_none', Option.bind_assoc]
theorem t9_4 {N : Nat} {cl : Cal} {R : Type} (K : KE R) (x0 : Int) (x1 : Bool) (x2 : D160) : exec cl N c9_4 [(0, .v T160 x0), (1, .v .bool x1), (2, .v T162 x2), (6, .dead)] K = (g9_4 x0 x1 x2 (fun y0 y1 y2 y3 y4 => K .normal [(0, .v T160 y0), (1, .v .bool y1), (2, .v T162 y2), (7, .loc T163 .no y3), (8, .loc T163 .no y4)])) := by
  kernel_rfl
def g9_5 {R : Type} (x0 : Int) (x1 : Bool) (x2 : D160) (x3 : D160) (x4 : D160) (k0 : Int → Bool → D160 → D160 → D160 → Int → Option R) : Option R :=
k0 x0 x1 x2 x3 x4 (1 : Int)
theorem ng9_5 {R R2 : Type} (x0 : Int) (x1 : Bool) (x2 : D160) (x3 : D160) (x4 : D160) (k0 : Int → Bool → D160 → D160 → D160 → Int → Option R) (h : R → Option R2) : ((g9_5 x0 x1 x2 x3 x4 k0)).bind h = (g9_5 x0 x1 x2 x3 x4 (fun y0 y1 y2 y3 y4 y5 => (k0 y0 y1 y2 y3 y4 y5).bind h)) := by
  simp only [g9_5, bind_brB, bind_ite, bind_none', Option.bind_assoc]
theorem t9_5 {N : Nat} {cl : Cal} {R : Type} (K : KE R) (x0 : Int) (x1 : Bool) (x2 : D160) (x3 : D160) (x4 : D160) : exec cl N c9_5 [(0, .v T160 x0), (1, .v .bool x1), (2, .v T162 x2), (7, .loc T163 .no x3), (8, .loc T163 .no x4)] K = (g9_5 x0 x1 x2 x3 x4 (fun y0 y1 y2 y3 y4 y5 => K .normal [(0, .v T160 y0), (1, .v .bool y1), (2, .v T162 y2), (7, .loc T163 .no y3), (8, .loc T163 .no y4), (9, .v T161 y5)])) := by
  kernel_rfl
theorem kp9_2 (x0 : Int) (x1 : Bool) (x2 : D160) (x3 : D160) (x4 : D160) (x5 : Int) : keep [0, 1, 2, 7, 8, 9] [(0, .v T160 x0), (1, .v .bool x1), (2, .v T162 x2), (7, .loc T163 .no x3), (8, .loc T163 .no x4), (9, .v T161 x5)] = [(0, .v T160 x0), (1, .v .bool x1), (2, .v T162 x2), (7, .loc T163 .no x3), (8, .loc T163 .no x4), (9, .v T161 x5)] := by kernel_rfl
def g9_6 {R : Type} (x0 : Int) (x1 : Bool) (x2 : D160) (x3 : D160) (x4 : D160) (x5 : Int) (k0 : Int → Bool → D160 → D160 → D160 → Int → Bool → Option R) : Option R :=
k0 x0 x1 x2 x3 x4 x5 (decide (x5 ≤ (3 : Int)))
theorem ng9_6 {R R2 : Type} (x0 : Int) (x1 : Bool) (x2 : D160) (x3 : D160) (x4 : D160) (x5 : Int) (k0 : Int → Bool → D160 → D160 → D160 → Int → Bool → Option R) (h : R → Option R2) : ((g9_6 x0 x1 x2 x3 x4 x5 k0)).bind h = (g9_6 x0 x1 x2 x3 x4 x5 (fun y0 y1 y2 y3 y4 y5 y6 => (k0 y0 y1 y2 y3 y4 y5 y6).bind h)) := by
  simp only [g9_6, bind_brB, bind_ite, bind_none', Option.bind_assoc]
theorem t9_6 {N : Nat} {cl : Cal} {R : Type} (K : KE R) (x0 : Int) (x1 : Bool) (x2 : D160) (x3 : D160) (x4 : D160) (x5 : Int) : exec cl N c9_6 [(0, .v T160 x0), (1, .v .bool x1), (2, .v T162 x2), (7, .loc T163 .no x3), (8, .loc T163 .no x4), (9, .v T161 x5)] K = (g9_6 x0 x1 x2 x3 x4 x5 (fun y0 y1 y2 y3 y4 y5 y6 => K .normal [(0, .v T160 y0), (1, .v .bool y1), (2, .v T162 y2), (7, .loc T163 .no y3), (8, .loc T163 .no y4), (9, .v T161 y5), (25, .v .bool y6)])) := by
  kernel_rfl
theorem kp9_3 (x0 : Int) (x1 : Bool) (x2 : D160) (x3 : D160) (x4 : D160) (x5 : Int) (x6 : Bool) : keep [0, 1, 2, 7, 8, 9] [(0, .v T160 x0), (1, .v .bool x1), (2, .v T162 x2), (7, .loc T163 .no x3), (8, .loc T163 .no x4), (9, .v T161 x5), (25, .v .bool x6)] = [(0, .v T160 x0), (1, .v .bool x1), (2, .v T162 x2), (7, .loc T163 .no x3), (8, .loc T163 .no x4), (9, .v T161 x5)] := by kernel_rfl
theorem hb9_1 (x0 : Int) (x1 : Bool) (x2 : D160) (x3 : D160) (x4 : D160) (x5 : Int) (x6 : Bool) : boolOf? (ent [(0, .v T160 x0), (1, .v .bool x1), (2, .v T162 x2), (7, .loc T163 .no x3), (8, .loc T163 .no x4), (9, .v T161 x5), (25, .v .bool x6)] (.t 25)) = some x6 := by kernel_rfl
def g9_8 {R : Type} (S12 : Int → Int → Option D1610) (x0 : Int) (x1 : Bool) (x2 : D160) (x3 : D160) (x4 : D160) (x5 : Int) (k0 : Int → Bool → D160 → D160 → D160 → Int → D167 → Int → Option R) : Option R :=
(S12 x5 (IntKind.i64.wrap ((1 : Int) + (IntKind.i64.wrap (Int.tmod x0 (4 : Int)))))).bind fun r348 =>
k0 x0 x1 x2 x3 x4 x5 r348.1 r348.2
theorem ng9_8 {R R2 : Type} (S12 : Int → Int → Option D1610) (x0 : Int) (x1 : Bool) (x2 : D160) (x3 : D160) (x4 : D160) (x5 : Int) (k0 : Int → Bool → D160 → D160 → D160 → Int → D167 → Int → Option R) (h : R → Option R2) : ((g9_8 S12 x0 x1 x2 x3 x4 x5 k0)).bind h = (g9_8 S12 x0 x1 x2 x3 x4 x5 (fun y0 y1 y2 y3 y4 y5 y6 y7 => (k0 y0 y1 y2 y3 y4 y5 y6 y7).bind h)) := by
  simp only [g9_8, bind_brB, bind_ite, bind_none', Option.bind_assoc]
theorem t9_8 {N : Nat} {cl : Cal} (S12 : Int → Int → Option D1610) (h12 : (ctr12 S12).holds cl) {R : Type} (K : KE R) (x0 : Int) (x1 : Bool) (x2 : D160) (x3 : D160) (x4 : D160) (x5 : Int) : exec cl N c9_8 [(0, .v T160 x0), (1, .v .bool x1), (2, .v T162 x2), (7, .loc T163 .no x3), (8, .loc T163 .no x4), (9, .v T161 x5)] K = (g9_8 S12 x0 x1 x2 x3 x4 x5 (fun y0 y1 y2 y3 y4 y5 y6 y7 => K .normal [(0, .v T160 y0), (1, .v .bool y1), (2, .v T162 y2), (7, .loc T163 .no y3), (8, .loc T163 .no y4), (9, .v T161 y5), (10, .own true 33 T166 .no y6), (11, .v T161 y7)])) := by
  rw [← put_eq h12]
  kernel_rfl
def g9_9 {R : Type} (S15 : Int → Bool → Option D1610) (x0 : Int) (x1 : Bool) (x2 : D160) (x3 : D160) (x4 : D160) (x5 : Int) (x6 : D167) (x7 : Int) (k0 : Int → Bool → D160 → D160 → D160 → Int → D167 → Int → D167 → Int → Option R) : Option R :=
(S15 x5 x1).bind fun r349 =>
k0 x0 x1 x2 x3 x4 x5 x6 x7 r349.1 r349.2
theorem ng9_9 {R R2 : Type} (S15 : Int → Bool → Option D1610) (x0 : Int) (x1 : Bool) (x2 : D160) (x3 : D160) (x4 : D160) (x5 : Int) (x6 : D167) (x7 : Int) (k0 : Int → Bool → D160 → D160 → D160 → Int → D167 → Int → D167 → Int → Option R) (h : R → Option R2) : ((g9_9 S15 x0 x1 x2 x3 x4 x5 x6 x7 k0)).bind h = (g9_9 S15 x0 x1 x2 x3 x4 x5 x6 x7 (fun y0 y1 y2 y3 y4 y5 y6 y7 y8 y9 => (k0 y0 y1 y2 y3 y4 y5 y6 y7 y8 y9).bind h)) := by
  simp only [g9_9, bind_brB, bind_ite, bind_none', Option.bind_assoc]
theorem t9_9 {N : Nat} {cl : Cal} (S15 : Int → Bool → Option D1610) (h15 : (ctr15 S15).holds cl) {R : Type} (K : KE R) (x0 : Int) (x1 : Bool) (x2 : D160) (x3 : D160) (x4 : D160) (x5 : Int) (x6 : D167) (x7 : Int) : exec cl N c9_9 [(0, .v T160 x0), (1, .v .bool x1), (2, .v T162 x2), (7, .loc T163 .no x3), (8, .loc T163 .no x4), (9, .v T161 x5), (10, .own true 33 T166 .no x6), (11, .v T161 x7)] K = (g9_9 S15 x0 x1 x2 x3 x4 x5 x6 x7 (fun y0 y1 y2 y3 y4 y5 y6 y7 y8 y9 => K .normal [(0, .v T160 y0), (1, .v .bool y1), (2, .v T162 y2), (7, .loc T163 .no y3), (8, .loc T163 .no y4), (9, .v T161 y5), (10, .own true 33 T166 .no y6), (11, .v T161 y7), (12, .own true 33 T166 .no y8), (13, .v T161 y9)])) := by
  rw [← put_eq h15]
  kernel_rfl
def g9_10 {R : Type} (x0 : Int) (x1 : Bool) (x2 : D160) (x3 : D160) (x4 : D160) (x5 : Int) (x6 : D167) (x7 : Int) (x8 : D167) (x9 : Int) (k0 : Int → Bool → D160 → D160 → D160 → Int → D167 → D167 → Bool → Option R) : Option R :=
brB (x7 != (0 : Int)) (k0 x0 x1 x2 x3 x4 x5 x6 x8 true) (k0 x0 x1 x2 x3 x4 x5 x6 x8 (x9 != (0 : Int)))
theorem ng9_10 {R R2 : Type} (x0 : Int) (x1 : Bool) (x2 : D160) (x3 : D160) (x4 : D160) (x5 : Int) (x6 : D167) (x7 : Int) (x8 : D167) (x9 : Int) (k0 : Int → Bool → D160 → D160 → D160 → Int → D167 → D167 → Bool → Option R) (h : R → Option R2) : ((g9_10 x0 x1 x2 x3 x4 x5 x6 x7 x8 x9 k0)).bind h = (g9_10 x0 x1 x2 x3 x4 x5 x6 x7 x8 x9 (fun y0 y1 y2 y3 y4 y5 y6 y7 y8 => (k0 y0 y1 y2 y3 y4 y5 y6 y7 y8).bind h)) := by
  simp only [g9_10, bind_brB, bind_ite, bind_none', Option.bind_assoc]
theorem t9_10 {N : Nat} {cl : Cal} {R : Type} (K : KE R) (x0 : Int) (x1 : Bool) (x2 : D160) (x3 : D160) (x4 : D160) (x5 : Int) (x6 : D167) (x7 : Int) (x8 : D167) (x9 : Int) : exec cl N c9_10 [(0, .v T160 x0), (1, .v .bool x1), (2, .v T162 x2), (7, .loc T163 .no x3), (8, .loc T163 .no x4), (9, .v T161 x5), (10, .own true 33 T166 .no x6), (11, .v T161 x7), (12, .own true 33 T166 .no x8), (13, .v T161 x9)] K = (g9_10 x0 x1 x2 x3 x4 x5 x6 x7 x8 x9 (fun y0 y1 y2 y3 y4 y5 y6 y7 y8 => K .normal [(0, .v T160 y0), (1, .v .bool y1), (2, .v T162 y2), (7, .loc T163 .no y3), (8, .loc T163 .no y4), (9, .v T161 y5), (10, .own true 33 T166 .no y6), (12, .own true 33 T166 .no y7), (48, .v .bool y8)])) := by
  kernel_rfl
def g9_11 {R : Type} (x0 : Int) (x1 : Bool) (x2 : D160) (x3 : D160) (x4 : D160) (x5 : Int) (x6 : D167) (x7 : D167) (x8 : Bool) (k0 : Bool → Option R) : Option R :=
k0 false
theorem ng9_11 {R R2 : Type} (x0 : Int) (x1 : Bool) (x2 : D160) (x3 : D160) (x4 : D160) (x5 : Int) (x6 : D167) (x7 : D167) (x8 : Bool) (k0 : Bool → Option R) (h : R → Option R2) : ((g9_11 x0 x1 x2 x3 x4 x5 x6 x7 x8 k0)).bind h = (g9_11 x0 x1 x2 x3 x4 x5 x6 x7 x8 (fun y0 => (k0 y0).bind h)) := by
  simp only [g9_11, bind_brB, bind_ite, bind_none', Option.bind_assoc]
theorem t9_11 {N : Nat} {cl : Cal} {R : Type} (K : KE R) (x0 : Int) (x1 : Bool) (x2 : D160) (x3 : D160) (x4 : D160) (x5 : Int) (x6 : D167) (x7 : D167) (x8 : Bool) : exec cl N c9_11 [(0, .v T160 x0), (1, .v .bool x1), (2, .v T162 x2), (7, .loc T163 .no x3), (8, .loc T163 .no x4), (9, .v T161 x5), (10, .own true 33 T166 .no x6), (12, .own true 33 T166 .no x7), (48, .v .bool x8)] K = (g9_11 x0 x1 x2 x3 x4 x5 x6 x7 x8 (fun y0 => K .normal [(6, .v .bool y0)])) := by
  kernel_rfl
theorem kp9_4 (x0 : Bool) : keep [0, 1, 2, 6, 7, 8, 9, 10, 12] [(6, .v .bool x0)] = [(0, .dead), (1, .dead), (2, .dead), (6, .v .bool x0), (7, .dead), (8, .dead), (9, .dead), (10, .dead), (12, .dead)] := by kernel_rfl
theorem kp9_5 (x0 : Int) (x1 : Bool) (x2 : D160) (x3 : D160) (x4 : D160) (x5 : Int) (x6 : D167) (x7 : D167) (x8 : Bool) : keep [0, 1, 2, 6, 7, 8, 9, 10, 12] [(0, .v T160 x0), (1, .v .bool x1), (2, .v T162 x2), (7, .loc T163 .no x3), (8, .loc T163 .no x4), (9, .v T161 x5), (10, .own true 33 T166 .no x6), (12, .own true 33 T166 .no x7), (48, .v .bool x8)] = [(0, .v T160 x0), (1, .v .bool x1), (2, .v T162 x2), (6, .dead), (7, .loc T163 .no x3), (8, .loc T163 .no x4), (9, .v T161 x5), (10, .own true 33 T166 .no x6), (12, .own true 33 T166 .no x7)] := by kernel_rfl
theorem hb9_2 (x0 : Int) (x1 : Bool) (x2 : D160) (x3 : D160) (x4 : D160) (x5 : Int) (x6 : D167) (x7 : D167) (x8 : Bool) : boolOf? (ent [(0, .v T160 x0), (1, .v .bool x1), (2, .v T162 x2), (7, .loc T163 .no x3), (8, .loc T163 .no x4), (9, .v T161 x5), (10, .own true 33 T166 .no x6), (12, .own true 33 T166 .no x7), (48, .v .bool x8)] (.t 48)) = some x8 := by kernel_rfl
def g9_13 {R : Type} (S19 : D167 → Option (Int)) (S25 : D167 → D160 → Option D168) (x0 : Int) (x1 : Bool) (x2 : D160) (x3 : D160) (x4 : D160) (x5 : Int) (x6 : D167) (x7 : D167) (k0 : Int → Bool → D160 → D160 → D160 → Int → Option R) : Option R :=
(S25 x6 x2).bind fun r352 =>
(S19 r352).bind fun r353 =>
(S25 x7 x2).bind fun r354 =>
(S19 r354).bind fun r355 =>
if 0 ≤ x5 ∧ x5 < ((4 : Nat) : Int) then
(setP T163 [.ix x5.toNat] x3 ⟨T161, r353⟩).bind fun v356 =>
if 0 ≤ x5 ∧ x5 < ((4 : Nat) : Int) then
(setP T163 [.ix x5.toNat] x4 ⟨T161, r355⟩).bind fun v357 =>
k0 x0 x1 x2 v356 v357 x5
else none
else none
theorem ng9_13 {R R2 : Type} (S19 : D167 → Option (Int)) (S25 : D167 → D160 → Option D168) (x0 : Int) (x1 : Bool) (x2 : D160) (x3 : D160) (x4 : D160) (x5 : Int) (x6 : D167) (x7 : D167) (k0 : Int → Bool → D160 → D160 → D160 → Int → Option R) (h : R → Option R2) : ((g9_13 S19 S25 x0 x1 x2 x3 x4 x5 x6 x7 k0)).bind h = (g9_13 S19 S25 x0 x1 x2 x3 x4 x5 x6 x7 (fun y0 y1 y2 y3 y4 y5 => (k0 y0 y1 y2 y3 y4 y5).bind h)) := by
  simp only [g9_13, bind_brB, bind_ite, bind_none', Option.bind_assoc]
theorem t9_13 {N : Nat} {cl : Cal} (S19 : D167 → Option (Int)) (S25 : D167 → D160 → Option D168) (h19 : (ctr19 S19).holds cl) (h25 : (ctr25 S25).holds cl) {R : Type} (K : KE R) (x0 : Int) (x1 : Bool) (x2 : D160) (x3 : D160) (x4 : D160) (x5 : Int) (x6 : D167) (x7 : D167) : exec cl N c9_13 [(0, .v T160 x0), (1, .v .bool x1), (2, .v T162 x2), (6, .dead), (7, .loc T163 .no x3), (8, .loc T163 .no x4), (9, .v T161 x5), (10, .own true 33 T166 .no x6), (12, .own true 33 T166 .no x7)] K = (g9_13 S19 S25 x0 x1 x2 x3 x4 x5 x6 x7 (fun y0 y1 y2 y3 y4 y5 => K .normal [(0, .v T160 y0), (1, .v .bool y1), (2, .v T162 y2), (7, .loc T163 .no y3), (8, .loc T163 .no y4), (9, .v T161 y5)])) := by
  rw [← put_eq h19]
  rw [← put_eq h25]
  kernel_rfl
theorem kp9_6 (x0 : Bool) : keep [0, 1, 2, 6, 7, 8, 9] [(0, .dead), (1, .dead), (2, .dead), (6, .v .bool x0), (7, .dead), (8, .dead), (9, .dead), (10, .dead), (12, .dead)] = [(0, .dead), (1, .dead), (2, .dead), (6, .v .bool x0), (7, .dead), (8, .dead), (9, .dead)] := by kernel_rfl
theorem kp9_7 (x0 : Int) (x1 : Bool) (x2 : D160) (x3 : D160) (x4 : D160) (x5 : Int) : keep [0, 1, 2, 6, 7, 8, 9] [(0, .v T160 x0), (1, .v .bool x1), (2, .v T162 x2), (7, .loc T163 .no x3), (8, .loc T163 .no x4), (9, .v T161 x5)] = [(0, .v T160 x0), (1, .v .bool x1), (2, .v T162 x2), (6, .dead), (7, .loc T163 .no x3), (8, .loc T163 .no x4), (9, .v T161 x5)] := by kernel_rfl
def g9_15 {R : Type} (x0 : Int) (x1 : Bool) (x2 : D160) (x3 : D160) (x4 : D160) (x5 : Int) (k0 : Int → Bool → D160 → D160 → D160 → Int → Option R) : Option R :=
k0 x0 x1 x2 x3 x4 (IntKind.i64.wrap (x5 + (1 : Int)))
theorem ng9_15 {R R2 : Type} (x0 : Int) (x1 : Bool) (x2 : D160) (x3 : D160) (x4 : D160) (x5 : Int) (k0 : Int → Bool → D160 → D160 → D160 → Int → Option R) (h : R → Option R2) : ((g9_15 x0 x1 x2 x3 x4 x5 k0)).bind h = (g9_15 x0 x1 x2 x3 x4 x5 (fun y0 y1 y2 y3 y4 y5 => (k0 y0 y1 y2 y3 y4 y5).bind h)) := by
  simp only [g9_15, bind_brB, bind_ite, bind_none', Option.bind_assoc]
theorem t9_15 {N : Nat} {cl : Cal} {R : Type} (K : KE R) (x0 : Int) (x1 : Bool) (x2 : D160) (x3 : D160) (x4 : D160) (x5 : Int) : exec cl N c9_15 [(0, .v T160 x0), (1, .v .bool x1), (2, .v T162 x2), (6, .dead), (7, .loc T163 .no x3), (8, .loc T163 .no x4), (9, .v T161 x5)] K = (g9_15 x0 x1 x2 x3 x4 x5 (fun y0 y1 y2 y3 y4 y5 => K .normal [(0, .v T160 y0), (1, .v .bool y1), (2, .v T162 y2), (7, .loc T163 .no y3), (8, .loc T163 .no y4), (9, .v T161 y5)])) := by
  kernel_rfl
def g9_16 {R : Type} (S12 : Int → Int → Option D1610) (S15 : Int → Bool → Option D1610) (S19 : D167 → Option (Int)) (S25 : D167 → D160 → Option D168) (x0 : Int) (x1 : Bool) (x2 : D160) (x3 : D160) (x4 : D160) (x5 : Int) (k0 : Bool → Option R) (k1 : Int → Bool → D160 → D160 → D160 → Int → Option R) (k2 : Int → Bool → D160 → D160 → D160 → Int → Option R) : Option R :=
(g9_6 x0 x1 x2 x3 x4 x5 (fun y0 y1 y2 y3 y4 y5 y6 => brB y6 ((fun y0 y1 y2 y3 y4 y5 => (g9_8 S12 y0 y1 y2 y3 y4 y5 (fun y0 y1 y2 y3 y4 y5 y6 y7 => (g9_9 S15 y0 y1 y2 y3 y4 y5 y6 y7 (fun y0 y1 y2 y3 y4 y5 y6 y7 y8 y9 => (g9_10 y0 y1 y2 y3 y4 y5 y6 y7 y8 y9 (fun y0 y1 y2 y3 y4 y5 y6 y7 y8 => brB y8 (g9_11 y0 y1 y2 y3 y4 y5 y6 y7 y8 (fun y0 => ((fun y0 => (k0 y0)) y0))) ((fun y0 y1 y2 y3 y4 y5 y6 y7 => (g9_13 S19 S25 y0 y1 y2 y3 y4 y5 y6 y7 (fun y0 y1 y2 y3 y4 y5 => (g9_15 y0 y1 y2 y3 y4 y5 k1)))) y0 y1 y2 y3 y4 y5 y6 y7)))))))) y0 y1 y2 y3 y4 y5) (k2 y0 y1 y2 y3 y4 y5)))
theorem ng9_16 {R R2 : Type} (S12 : Int → Int → Option D1610) (S15 : Int → Bool → Option D1610) (S19 : D167 → Option (Int)) (S25 : D167 → D160 → Option D168) (x0 : Int) (x1 : Bool) (x2 : D160) (x3 : D160) (x4 : D160) (x5 : Int) (k0 : Bool → Option R) (k1 : Int → Bool → D160 → D160 → D160 → Int → Option R) (k2 : Int → Bool → D160 → D160 → D160 → Int → Option R) (h : R → Option R2) : ((g9_16 S12 S15 S19 S25 x0 x1 x2 x3 x4 x5 k0 k1 k2)).bind h = (g9_16 S12 S15 S19 S25 x0 x1 x2 x3 x4 x5 (fun y0 => (k0 y0).bind h) (fun y0 y1 y2 y3 y4 y5 => (k1 y0 y1 y2 y3 y4 y5).bind h) (fun y0 y1 y2 y3 y4 y5 => (k2 y0 y1 y2 y3 y4 y5).bind h)) := by
  simp only [g9_16, ng9_10, ng9_11, ng9_13, ng9_15, ng9_6, ng9_8, ng9_9, bind_brB, bind_ite, bind_none', Option.bind_assoc]
theorem t9_16 {N : Nat} {cl : Cal} (S12 : Int → Int → Option D1610) (S15 : Int → Bool → Option D1610) (S19 : D167 → Option (Int)) (S25 : D167 → D160 → Option D168) (h12 : (ctr12 S12).holds cl) (h15 : (ctr15 S15).holds cl) (h19 : (ctr19 S19).holds cl) (h25 : (ctr25 S25).holds cl) {R : Type} (K : KE R) (x0 : Int) (x1 : Bool) (x2 : D160) (x3 : D160) (x4 : D160) (x5 : Int) : exec cl N c9_16 [(0, .v T160 x0), (1, .v .bool x1), (2, .v T162 x2), (7, .loc T163 .no x3), (8, .loc T163 .no x4), (9, .v T161 x5)] K = (g9_16 S12 S15 S19 S25 x0 x1 x2 x3 x4 x5 (fun y0 => K .ret [(0, .dead), (1, .dead), (2, .dead), (6, .v .bool y0), (7, .dead), (8, .dead), (9, .dead)]) (fun y0 y1 y2 y3 y4 y5 => K .normal [(0, .v T160 y0), (1, .v .bool y1), (2, .v T162 y2), (7, .loc T163 .no y3), (8, .loc T163 .no y4), (9, .v T161 y5)]) (fun y0 y1 y2 y3 y4 y5 => K (.exit 0) [(0, .v T160 y0), (1, .v .bool y1), (2, .v T162 y2), (7, .loc T163 .no y3), (8, .loc T163 .no y4), (9, .v T161 y5)])) := by
  simp only [c9_16, exec_seq, seqK_normal, seqK_exit, seqK_ret, t9_6, c9_7, exec_out, exec_cond', hb9_1, Option.bind_some, brB_true, brB_false, exec_skip, exec_exit, kp9_3, c9_14, exec_block, t9_8 S12 h12, t9_9 S15 h15, t9_10, c9_12, hb9_2, t9_11, exec_ret, kp9_4, kp9_5, t9_13 S19 S25 h19 h25, blockK_normal, blockK_ret, blockK_eq, kp9_6, kp9_7, t9_15]
  rfl

def l9_17 {R : Type} (S12 : Int → Int → Option D1610) (S15 : Int → Bool → Option D1610) (S19 : D167 → Option (Int)) (S25 : D167 → D160 → Option D168) (k0 : Bool → Option R) (k1 : Int → Bool → D160 → D160 → D160 → Int → Option R) : Nat → Int → Bool → D160 → D160 → D160 → Int → Option R
  | 0, _, _, _, _, _, _ => none
  | m + 1, x0, x1, x2, x3, x4, x5 => (g9_16 S12 S15 S19 S25 x0 x1 x2 x3 x4 x5 k0 (fun y0 y1 y2 y3 y4 y5 => l9_17 S12 S15 S19 S25 k0 k1 m y0 y1 y2 y3 y4 y5) k1)
theorem nl9_17 {R R2 : Type} (S12 : Int → Int → Option D1610) (S15 : Int → Bool → Option D1610) (S19 : D167 → Option (Int)) (S25 : D167 → D160 → Option D168) (k0 : Bool → Option R) (k1 : Int → Bool → D160 → D160 → D160 → Int → Option R) (h : R → Option R2) : ∀ (m : Nat) (x0 : Int) (x1 : Bool) (x2 : D160) (x3 : D160) (x4 : D160) (x5 : Int), (l9_17 S12 S15 S19 S25 k0 k1 m x0 x1 x2 x3 x4 x5).bind h = l9_17 S12 S15 S19 S25 (fun y0 => (k0 y0).bind h) (fun y0 y1 y2 y3 y4 y5 => (k1 y0 y1 y2 y3 y4 y5).bind h) m x0 x1 x2 x3 x4 x5 := by
  intro m
  induction m with
  | zero => intros; rfl
  | succ m ih =>
    intro x0 x1 x2 x3 x4 x5
    simp only [l9_17, ng9_16, bind_brB, bind_ite, bind_none', ih]
theorem lt9_17 {N : Nat} {cl : Cal} (S12 : Int → Int → Option D1610) (S15 : Int → Bool → Option D1610) (S19 : D167 → Option (Int)) (S25 : D167 → D160 → Option D168) (h12 : (ctr12 S12).holds cl) (h15 : (ctr15 S15).holds cl) (h19 : (ctr19 S19).holds cl) (h25 : (ctr25 S25).holds cl) {R : Type} (K : KE R) : ∀ (m : Nat) (x0 : Int) (x1 : Bool) (x2 : D160) (x3 : D160) (x4 : D160) (x5 : Int), iter [0, 1, 2, 7, 8, 9] (fun env K => exec cl N c9_16 env K) K m [(0, .v T160 x0), (1, .v .bool x1), (2, .v T162 x2), (7, .loc T163 .no x3), (8, .loc T163 .no x4), (9, .v T161 x5)] = l9_17 S12 S15 S19 S25 (fun y0 => K .ret [(0, .dead), (1, .dead), (2, .dead), (6, .v .bool y0), (7, .dead), (8, .dead), (9, .dead)]) (fun y0 y1 y2 y3 y4 y5 => K (.exit 0) [(0, .v T160 y0), (1, .v .bool y1), (2, .v T162 y2), (7, .loc T163 .no y3), (8, .loc T163 .no y4), (9, .v T161 y5)]) m x0 x1 x2 x3 x4 x5 := by
  intro m
  induction m with
  | zero => intros; rfl
  | succ m ih =>
    intro x0 x1 x2 x3 x4 x5
    simp only [iter_succ, t9_16 S12 S15 S19 S25 h12 h15 h19 h25, loopK_normal, loopK_exit, loopK_ret, kp9_2, ih]
    rfl

theorem kp9_8 (x0 : Bool) : keep [6, 7, 8] [(0, .dead), (1, .dead), (2, .dead), (6, .v .bool x0), (7, .dead), (8, .dead), (9, .dead)] = [(6, .v .bool x0), (7, .dead), (8, .dead)] := by kernel_rfl
theorem kp9_9 (x0 : Int) (x1 : Bool) (x2 : D160) (x3 : D160) (x4 : D160) (x5 : Int) : keep [6, 7, 8] [(0, .v T160 x0), (1, .v .bool x1), (2, .v T162 x2), (7, .loc T163 .no x3), (8, .loc T163 .no x4), (9, .v T161 x5)] = [(6, .dead), (7, .loc T163 .no x3), (8, .loc T163 .no x4)] := by kernel_rfl
def g9_17 {R : Type} (N : Nat) (S12 : Int → Int → Option D1610) (S15 : Int → Bool → Option D1610) (S19 : D167 → Option (Int)) (S25 : D167 → D160 → Option D168) (x0 : Int) (x1 : Bool) (x2 : D160) (x3 : D160) (x4 : D160) (x5 : Int) (k0 : Bool → Option R) (k1 : D160 → D160 → Option R) : Option R :=
l9_17 S12 S15 S19 S25 (fun y0 => k0 y0) (fun y0 y1 y2 y3 y4 y5 => k1 y3 y4) N x0 x1 x2 x3 x4 x5
theorem ng9_17 {R R2 : Type} (N : Nat) (S12 : Int → Int → Option D1610) (S15 : Int → Bool → Option D1610) (S19 : D167 → Option (Int)) (S25 : D167 → D160 → Option D168) (x0 : Int) (x1 : Bool) (x2 : D160) (x3 : D160) (x4 : D160) (x5 : Int) (k0 : Bool → Option R) (k1 : D160 → D160 → Option R) (h : R → Option R2) : ((g9_17 N S12 S15 S19 S25 x0 x1 x2 x3 x4 x5 k0 k1)).bind h = (g9_17 N S12 S15 S19 S25 x0 x1 x2 x3 x4 x5 (fun y0 => (k0 y0).bind h) (fun y0 y1 => (k1 y0 y1).bind h)) := by
  simp only [g9_17, nl9_17, bind_brB, bind_ite, bind_none', Option.bind_assoc]
theorem t9_17 {N : Nat} {cl : Cal} (S12 : Int → Int → Option D1610) (S15 : Int → Bool → Option D1610) (S19 : D167 → Option (Int)) (S25 : D167 → D160 → Option D168) (h12 : (ctr12 S12).holds cl) (h15 : (ctr15 S15).holds cl) (h19 : (ctr19 S19).holds cl) (h25 : (ctr25 S25).holds cl) {R : Type} (K : KE R) (x0 : Int) (x1 : Bool) (x2 : D160) (x3 : D160) (x4 : D160) (x5 : Int) : exec cl N c9_17 [(0, .v T160 x0), (1, .v .bool x1), (2, .v T162 x2), (7, .loc T163 .no x3), (8, .loc T163 .no x4), (9, .v T161 x5)] K = (g9_17 N S12 S15 S19 S25 x0 x1 x2 x3 x4 x5 (fun y0 => K .ret [(6, .v .bool y0), (7, .dead), (8, .dead)]) (fun y0 y1 => K (.exit 0) [(6, .dead), (7, .loc T163 .no y0), (8, .loc T163 .no y1)])) := by
  simp only [c9_17, exec_out, exec_loop, kp9_2, lt9_17 S12 S15 S19 S25 h12 h15 h19 h25, kp9_8, kp9_9]
  rfl

theorem kp9_10 (x0 : Bool) : keep [6, 7, 8] [(6, .v .bool x0), (7, .dead), (8, .dead)] = [(6, .v .bool x0), (7, .dead), (8, .dead)] := by kernel_rfl
theorem kp9_11 (x0 : D160) (x1 : D160) : keep [6, 7, 8] [(6, .dead), (7, .loc T163 .no x0), (8, .loc T163 .no x1)] = [(6, .dead), (7, .loc T163 .no x0), (8, .loc T163 .no x1)] := by kernel_rfl
def g9_19 {R : Type} (x0 : D160) (x1 : D160) (k0 : Bool → Option R) : Option R :=
if 0 ≤ (3 : Int) ∧ (3 : Int) < ((4 : Nat) : Int) then
(getP T163 [.ix (3 : Int).toNat] x0).bind fun z => (cast? T161 z).bind fun v359 =>
if 0 ≤ (1 : Int) ∧ (1 : Int) < ((4 : Nat) : Int) then
(getP T163 [.ix (1 : Int).toNat] x0).bind fun z => (cast? T161 z).bind fun v360 =>
if 0 ≤ (2 : Int) ∧ (2 : Int) < ((4 : Nat) : Int) then
(getP T163 [.ix (2 : Int).toNat] x0).bind fun z => (cast? T161 z).bind fun v361 =>
brB (v359 == (Go.bits .or IntKind.i64 v360 v361)) (if 0 ≤ (3 : Int) ∧ (3 : Int) < ((4 : Nat) : Int) then
(getP T163 [.ix (3 : Int).toNat] x1).bind fun z => (cast? T161 z).bind fun v364 =>
if 0 ≤ (1 : Int) ∧ (1 : Int) < ((4 : Nat) : Int) then
(getP T163 [.ix (1 : Int).toNat] x1).bind fun z => (cast? T161 z).bind fun v365 =>
if 0 ≤ (2 : Int) ∧ (2 : Int) < ((4 : Nat) : Int) then
(getP T163 [.ix (2 : Int).toNat] x1).bind fun z => (cast? T161 z).bind fun v366 =>
k0 (v364 == (Go.bits .or IntKind.i64 v365 v366))
else none
else none
else none) (k0 false)
else none
else none
else none
theorem ng9_19 {R R2 : Type} (x0 : D160) (x1 : D160) (k0 : Bool → Option R) (h : R → Option R2) : ((g9_19 x0 x1 k0)).bind h = (g9_19 x0 x1 (fun y0 => (k0 y0).bind h)) := by
  simp only [g9_19, bind_brB, bind_ite, bind_none', Option.bind_assoc]
theorem t9_19 {N : Nat} {cl : Cal} {R : Type} (K : KE R) (x0 : D160) (x1 : D160) : exec cl N c9_19 [(6, .dead), (7, .loc T163 .no x0), (8, .loc T163 .no x1)] K = (g9_19 x0 x1 (fun y0 => K .normal [(6, .v .bool y0)])) := by
  kernel_rfl
def g9_20 {R : Type} (N : Nat) (S11 : Option (Bool)) (S12 : Int → Int → Option D1610) (S15 : Int → Bool → Option D1610) (S19 : D167 → Option (Int)) (S25 : D167 → D160 → Option D168) (x0 : Int) (x1 : Bool) (x2 : D160) (k0 : Bool → Option R) (k1 : Bool → Option R) (k2 : Bool → Option R) : Option R :=
(g9_0 x0 x1 x2 (fun y0 y1 y2 => (g9_1 S11 y0 y1 y2 (fun y0 y1 y2 y3 => brB y3 (g9_2 S11 y0 y1 y2 y3 (fun y0 => ((fun y0 => (k0 y0)) y0))) ((fun y0 y1 y2 => (g9_4 y0 y1 y2 (fun y0 y1 y2 y3 y4 => (g9_5 y0 y1 y2 y3 y4 (fun y0 y1 y2 y3 y4 y5 => (g9_17 N S12 S15 S19 S25 y0 y1 y2 y3 y4 y5 (fun y0 => (k1 y0)) (fun y0 y1 => ((fun y0 y1 => (g9_19 y0 y1 (fun y0 => (k2 y0)))) y0 y1)))))))) y0 y1 y2)))))
theorem ng9_20 {R R2 : Type} (N : Nat) (S11 : Option (Bool)) (S12 : Int → Int → Option D1610) (S15 : Int → Bool → Option D1610) (S19 : D167 → Option (Int)) (S25 : D167 → D160 → Option D168) (x0 : Int) (x1 : Bool) (x2 : D160) (k0 : Bool → Option R) (k1 : Bool → Option R) (k2 : Bool → Option R) (h : R → Option R2) : ((g9_20 N S11 S12 S15 S19 S25 x0 x1 x2 k0 k1 k2)).bind h = (g9_20 N S11 S12 S15 S19 S25 x0 x1 x2 (fun y0 => (k0 y0).bind h) (fun y0 => (k1 y0).bind h) (fun y0 => (k2 y0).bind h)) := by
  simp only [g9_20, ng9_0, ng9_1, ng9_17, ng9_19, ng9_2, ng9_4, ng9_5, bind_brB, bind_ite, bind_none', Option.bind_assoc]
theorem t9_20 {N : Nat} {cl : Cal} (S11 : Option (Bool)) (S12 : Int → Int → Option D1610) (S15 : Int → Bool → Option D1610) (S19 : D167 → Option (Int)) (S25 : D167 → D160 → Option D168) (h11 : (ctr11 S11).holds cl) (h12 : (ctr12 S12).holds cl) (h15 : (ctr15 S15).holds cl) (h19 : (ctr19 S19).holds cl) (h25 : (ctr25 S25).holds cl) {R : Type} (K : KE R) (x0 : Int) (x1 : Bool) (x2 : D160) : exec cl N c9_20 [(0, .v T160 x0), (1, .v .bool x1), (2, .v T162 x2)] K = (g9_20 N S11 S12 S15 S19 S25 x0 x1 x2 (fun y0 => K .ret [(0, .dead), (1, .dead), (2, .dead), (6, .v .bool y0)]) (fun y0 => K .ret [(6, .v .bool y0), (7, .dead), (8, .dead)]) (fun y0 => K .ret [(6, .v .bool y0)])) := by
  simp only [c9_20, exec_seq, seqK_normal, seqK_exit, seqK_ret, t9_0, t9_1 S11 h11, c9_3, exec_out, exec_cond', hb9_0, Option.bind_some, brB_true, brB_false, t9_2 S11 h11, exec_ret, exec_skip, kp9_0, kp9_1, t9_4, t9_5, c9_18, exec_block, t9_17 S12 S15 S19 S25 h12 h15 h19 h25, blockK_normal, blockK_ret, blockK_eq, kp9_10, kp9_11, t9_19]
  rfl

theorem rk9_0 (y0 : Bool) : retK d9 .ret [(0, .dead), (1, .dead), (2, .dead), (6, .v .bool y0)] = some [.v .bool y0] := by kernel_rfl
theorem rk9_1 (y0 : Bool) : retK d9 .ret [(6, .v .bool y0), (7, .dead), (8, .dead)] = some [.v .bool y0] := by kernel_rfl
theorem rk9_2 (y0 : Bool) : retK d9 .ret [(6, .v .bool y0)] = some [.v .bool y0] := by kernel_rfl
def g9 {R : Type} (N : Nat) (S11 : Option (Bool)) (S12 : Int → Int → Option D1610) (S15 : Int → Bool → Option D1610) (S19 : D167 → Option (Int)) (S25 : D167 → D160 → Option D168) (x0 : Int) (x1 : Bool) (x2 : D160) (k : Bool → Option R) : Option R :=
(g9_20 N S11 S12 S15 S19 S25 x0 x1 x2 (fun y0 => k y0) (fun y0 => k y0) (fun y0 => k y0))
theorem gen9 {N : Nat} {cl : Cal} (S11 : Option (Bool)) (S12 : Int → Int → Option D1610) (S15 : Int → Bool → Option D1610) (S19 : D167 → Option (Int)) (S25 : D167 → D160 → Option D168) (h11 : (ctr11 S11).holds cl) (h12 : (ctr12 S12).holds cl) (h15 : (ctr15 S15).holds cl) (h19 : (ctr19 S19).holds cl) (h25 : (ctr25 S25).holds cl) (x0 : Int) (x1 : Bool) (x2 : D160) : exec cl N c9 (params 0 [.v T160 x0, .v .bool x1, .v T162 x2]) (retK d9) = g9 N S11 S12 S15 S19 S25 x0 x1 x2 (fun (r0 : Bool) => some [.v .bool r0]) := by
  have e0 : params 0 [.v T160 x0, .v .bool x1, .v T162 x2] = [(0, .v T160 x0), (1, .v .bool x1), (2, .v T162 x2)] := by kernel_rfl
  simp only [c9, e0, t9_20 S11 S12 S15 S19 S25 h11 h12 h15 h19 h25, rk9_0, rk9_1, rk9_2]
  rfl

def ctr9 (S : Int → Bool → D160 → Option (Bool)) : Ctr := { A := Int × Bool × D160 × Unit, B := Bool, f := 9, enc := fun a => [.v T160 a.1, .v .bool a.2.1, .v T162 a.2.2.1], dec := (decC (decV T160) (decC (decV .bool) (decC (decV T162) dec0))), S := fun a => S a.1 a.2.1 a.2.2.1, ent := fun b => [.v .bool b], ok := (decV_cons (T := T160) (decV_cons (T := .bool) (decV_cons (T := T162) (fun es b h => dec0_some h)))) }
def S9 (N : Nat) (x0 : Int) (x1 : Bool) (x2 : D160) : Option (Bool) := g9 N (S11 N) (S12 N) (S15 N) (S19 N) (S25 N) x0 x1 x2 (fun (r0 : Bool) => some (r0))
theorem ng9 {R R2 : Type} (N : Nat) (S11 : Option (Bool)) (S12 : Int → Int → Option D1610) (S15 : Int → Bool → Option D1610) (S19 : D167 → Option (Int)) (S25 : D167 → D160 → Option D168) (x0 : Int) (x1 : Bool) (x2 : D160) (k : Bool → Option R) (h : R → Option R2) : (g9 N S11 S12 S15 S19 S25 x0 x1 x2 k).bind h = g9 N S11 S12 S15 S19 S25 x0 x1 x2 (fun (r0 : Bool) => (k r0).bind h) := by
  simp only [g9, ng9_20]
-- anceps/ancepsref16.has
def g41_0 {R : Type} (x0 : D160) (x1 : Int) (k0 : D160 → Int → Option R) : Option R :=
k0 x0 x1
theorem ng41_0 {R R2 : Type} (x0 : D160) (x1 : Int) (k0 : D160 → Int → Option R) (h : R → Option R2) : ((g41_0 x0 x1 k0)).bind h = (g41_0 x0 x1 (fun y0 y1 => (k0 y0 y1).bind h)) := by
  simp only [g41_0, bind_brB, bind_ite, bind_none', Option.bind_assoc]
theorem t41_0 {N : Nat} {cl : Cal} {R : Type} (K : KE R) (x0 : D160) (x1 : Int) : exec cl N c41_0 [(0, .v T162 x0), (1, .v T161 x1)] K = (g41_0 x0 x1 (fun y0 y1 => K .normal [(0, .v T162 y0), (1, .v T161 y1)])) := by
  kernel_rfl
def g41_1 {R : Type} (x0 : D160) (x1 : Int) (k0 : D160 → Int → Int → Option R) : Option R :=
k0 x0 x1 (0 : Int)
theorem ng41_1 {R R2 : Type} (x0 : D160) (x1 : Int) (k0 : D160 → Int → Int → Option R) (h : R → Option R2) : ((g41_1 x0 x1 k0)).bind h = (g41_1 x0 x1 (fun y0 y1 y2 => (k0 y0 y1 y2).bind h)) := by
  simp only [g41_1, bind_brB, bind_ite, bind_none', Option.bind_assoc]
theorem t41_1 {N : Nat} {cl : Cal} {R : Type} (K : KE R) (x0 : D160) (x1 : Int) : exec cl N c41_1 [(0, .v T162 x0), (1, .v T161 x1)] K = (g41_1 x0 x1 (fun y0 y1 y2 => K .normal [(0, .v T162 y0), (1, .v T161 y1), (5, .v T161 y2)])) := by
  kernel_rfl
theorem kp41_0 (x0 : D160) (x1 : Int) (x2 : Int) : keep [0, 1, 5] [(0, .v T162 x0), (1, .v T161 x1), (5, .v T161 x2)] = [(0, .v T162 x0), (1, .v T161 x1), (5, .v T161 x2)] := by kernel_rfl
def g41_2 {R : Type} (x0 : D160) (x1 : Int) (x2 : Int) (k0 : D160 → Int → Int → Bool → Option R) : Option R :=
k0 x0 x1 x2 (decide (x2 < (x0.length : Int)))
theorem ng41_2 {R R2 : Type} (x0 : D160) (x1 : Int) (x2 : Int) (k0 : D160 → Int → Int → Bool → Option R) (h : R → Option R2) : ((g41_2 x0 x1 x2 k0)).bind h = (g41_2 x0 x1 x2 (fun y0 y1 y2 y3 => (k0 y0 y1 y2 y3).bind h)) := by
  simp only [g41_2, bind_brB, bind_ite, bind_none', Option.bind_assoc]
theorem t41_2 {N : Nat} {cl : Cal} {R : Type} (K : KE R) (x0 : D160) (x1 : Int) (x2 : Int) : exec cl N c41_2 [(0, .v T162 x0), (1, .v T161 x1), (5, .v T161 x2)] K = (g41_2 x0 x1 x2 (fun y0 y1 y2 y3 => K .normal [(0, .v T162 y0), (1, .v T161 y1), (5, .v T161 y2), (9, .v .bool y3)])) := by
  kernel_rfl
theorem kp41_1 (x0 : D160) (x1 : Int) (x2 : Int) (x3 : Bool) : keep [0, 1, 5] [(0, .v T162 x0), (1, .v T161 x1), (5, .v T161 x2), (9, .v .bool x3)] = [(0, .v T162 x0), (1, .v T161 x1), (5, .v T161 x2)] := by kernel_rfl
theorem hb41_0 (x0 : D160) (x1 : Int) (x2 : Int) (x3 : Bool) : boolOf? (ent [(0, .v T162 x0), (1, .v T161 x1), (5, .v T161 x2), (9, .v .bool x3)] (.t 9)) = some x3 := by kernel_rfl
def g41_4 {R : Type} (x0 : D160) (x1 : Int) (x2 : Int) (k0 : D160 → Int → Int → Bool → Option R) : Option R :=
if 0 ≤ x2 ∧ x2 < (x0.length : Int) then
k0 x0 x1 x2 ((x0.getD x2.toNat (0 : Int)) == x1)
else none
theorem ng41_4 {R R2 : Type} (x0 : D160) (x1 : Int) (x2 : Int) (k0 : D160 → Int → Int → Bool → Option R) (h : R → Option R2) : ((g41_4 x0 x1 x2 k0)).bind h = (g41_4 x0 x1 x2 (fun y0 y1 y2 y3 => (k0 y0 y1 y2 y3).bind h)) := by
  simp only [g41_4, bind_brB, bind_ite, bind_none', Option.bind_assoc]
theorem t41_4 {N : Nat} {cl : Cal} {R : Type} (K : KE R) (x0 : D160) (x1 : Int) (x2 : Int) : exec cl N c41_4 [(0, .v T162 x0), (1, .v T161 x1), (5, .v T161 x2)] K = (g41_4 x0 x1 x2 (fun y0 y1 y2 y3 => K .normal [(0, .v T162 y0), (1, .v T161 y1), (5, .v T161 y2), (17, .v .bool y3)])) := by
  kernel_rfl
def g41_5 {R : Type} (x0 : D160) (x1 : Int) (x2 : Int) (x3 : Bool) (k0 : Bool → Option R) : Option R :=
k0 true
theorem ng41_5 {R R2 : Type} (x0 : D160) (x1 : Int) (x2 : Int) (x3 : Bool) (k0 : Bool → Option R) (h : R → Option R2) : ((g41_5 x0 x1 x2 x3 k0)).bind h = (g41_5 x0 x1 x2 x3 (fun y0 => (k0 y0).bind h)) := by
  simp only [g41_5, bind_brB, bind_ite, bind_none', Option.bind_assoc]
theorem t41_5 {N : Nat} {cl : Cal} {R : Type} (K : KE R) (x0 : D160) (x1 : Int) (x2 : Int) (x3 : Bool) : exec cl N c41_5 [(0, .v T162 x0), (1, .v T161 x1), (5, .v T161 x2), (17, .v .bool x3)] K = (g41_5 x0 x1 x2 x3 (fun y0 => K .normal [(4, .v .bool y0)])) := by
  kernel_rfl
theorem kp41_2 (x0 : Bool) : keep [0, 1, 4, 5] [(4, .v .bool x0)] = [(0, .dead), (1, .dead), (4, .v .bool x0), (5, .dead)] := by kernel_rfl
theorem kp41_3 (x0 : D160) (x1 : Int) (x2 : Int) (x3 : Bool) : keep [0, 1, 4, 5] [(0, .v T162 x0), (1, .v T161 x1), (5, .v T161 x2), (17, .v .bool x3)] = [(0, .v T162 x0), (1, .v T161 x1), (4, .dead), (5, .v T161 x2)] := by kernel_rfl
theorem hb41_1 (x0 : D160) (x1 : Int) (x2 : Int) (x3 : Bool) : boolOf? (ent [(0, .v T162 x0), (1, .v T161 x1), (5, .v T161 x2), (17, .v .bool x3)] (.t 17)) = some x3 := by kernel_rfl
theorem kp41_4 (x0 : Bool) : keep [0, 1, 4, 5] [(0, .dead), (1, .dead), (4, .v .bool x0), (5, .dead)] = [(0, .dead), (1, .dead), (4, .v .bool x0), (5, .dead)] := by kernel_rfl
theorem kp41_5 (x0 : D160) (x1 : Int) (x2 : Int) : keep [0, 1, 4, 5] [(0, .v T162 x0), (1, .v T161 x1), (4, .dead), (5, .v T161 x2)] = [(0, .v T162 x0), (1, .v T161 x1), (4, .dead), (5, .v T161 x2)] := by kernel_rfl
def g41_8 {R : Type} (x0 : D160) (x1 : Int) (x2 : Int) (k0 : D160 → Int → Int → Option R) : Option R :=
k0 x0 x1 (IntKind.i64.wrap (x2 + (1 : Int)))
theorem ng41_8 {R R2 : Type} (x0 : D160) (x1 : Int) (x2 : Int) (k0 : D160 → Int → Int → Option R) (h : R → Option R2) : ((g41_8 x0 x1 x2 k0)).bind h = (g41_8 x0 x1 x2 (fun y0 y1 y2 => (k0 y0 y1 y2).bind h)) := by
  simp only [g41_8, bind_brB, bind_ite, bind_none', Option.bind_assoc]
theorem t41_8 {N : Nat} {cl : Cal} {R : Type} (K : KE R) (x0 : D160) (x1 : Int) (x2 : Int) : exec cl N c41_8 [(0, .v T162 x0), (1, .v T161 x1), (4, .dead), (5, .v T161 x2)] K = (g41_8 x0 x1 x2 (fun y0 y1 y2 => K .normal [(0, .v T162 y0), (1, .v T161 y1), (5, .v T161 y2)])) := by
  kernel_rfl
def g41_9 {R : Type} (x0 : D160) (x1 : Int) (x2 : Int) (k0 : Bool → Option R) (k1 : D160 → Int → Int → Option R) (k2 : D160 → Int → Int → Option R) : Option R :=
(g41_2 x0 x1 x2 (fun y0 y1 y2 y3 => brB y3 ((fun y0 y1 y2 => (g41_4 y0 y1 y2 (fun y0 y1 y2 y3 => brB y3 (g41_5 y0 y1 y2 y3 (fun y0 => ((fun y0 => (k0 y0)) y0))) (g41_8 y0 y1 y2 k1)))) y0 y1 y2) (k2 y0 y1 y2)))
theorem ng41_9 {R R2 : Type} (x0 : D160) (x1 : Int) (x2 : Int) (k0 : Bool → Option R) (k1 : D160 → Int → Int → Option R) (k2 : D160 → Int → Int → Option R) (h : R → Option R2) : ((g41_9 x0 x1 x2 k0 k1 k2)).bind h = (g41_9 x0 x1 x2 (fun y0 => (k0 y0).bind h) (fun y0 y1 y2 => (k1 y0 y1 y2).bind h) (fun y0 y1 y2 => (k2 y0 y1 y2).bind h)) := by
  simp only [g41_9, ng41_2, ng41_4, ng41_5, ng41_8, bind_brB, bind_ite, bind_none', Option.bind_assoc]
theorem t41_9 {N : Nat} {cl : Cal} {R : Type} (K : KE R) (x0 : D160) (x1 : Int) (x2 : Int) : exec cl N c41_9 [(0, .v T162 x0), (1, .v T161 x1), (5, .v T161 x2)] K = (g41_9 x0 x1 x2 (fun y0 => K .ret [(0, .dead), (1, .dead), (4, .v .bool y0), (5, .dead)]) (fun y0 y1 y2 => K .normal [(0, .v T162 y0), (1, .v T161 y1), (5, .v T161 y2)]) (fun y0 y1 y2 => K (.exit 0) [(0, .v T162 y0), (1, .v T161 y1), (5, .v T161 y2)])) := by
  simp only [c41_9, exec_seq, seqK_normal, seqK_exit, seqK_ret, t41_2, c41_3, exec_out, exec_cond', hb41_0, Option.bind_some, brB_true, brB_false, exec_skip, exec_exit, kp41_1, c41_7, exec_block, t41_4, c41_6, hb41_1, t41_5, exec_ret, kp41_2, kp41_3, blockK_normal, blockK_ret, blockK_eq, kp41_4, kp41_5, t41_8]
  rfl

def l41_10 {R : Type} (k0 : Bool → Option R) (k1 : D160 → Int → Int → Option R) : Nat → D160 → Int → Int → Option R
  | 0, _, _, _ => none
  | m + 1, x0, x1, x2 => (g41_9 x0 x1 x2 k0 (fun y0 y1 y2 => l41_10 k0 k1 m y0 y1 y2) k1)
theorem nl41_10 {R R2 : Type} (k0 : Bool → Option R) (k1 : D160 → Int → Int → Option R) (h : R → Option R2) : ∀ (m : Nat) (x0 : D160) (x1 : Int) (x2 : Int), (l41_10 k0 k1 m x0 x1 x2).bind h = l41_10 (fun y0 => (k0 y0).bind h) (fun y0 y1 y2 => (k1 y0 y1 y2).bind h) m x0 x1 x2 := by
  intro m
  induction m with
  | zero => intros; rfl
  | succ m ih =>
    intro x0 x1 x2
    simp only [l41_10, ng41_9, bind_brB, bind_ite, bind_none', ih]
theorem lt41_10 {N : Nat} {cl : Cal} {R : Type} (K : KE R) : ∀ (m : Nat) (x0 : D160) (x1 : Int) (x2 : Int), iter [0, 1, 5] (fun env K => exec cl N c41_9 env K) K m [(0, .v T162 x0), (1, .v T161 x1), (5, .v T161 x2)] = l41_10 (fun y0 => K .ret [(0, .dead), (1, .dead), (4, .v .bool y0), (5, .dead)]) (fun y0 y1 y2 => K (.exit 0) [(0, .v T162 y0), (1, .v T161 y1), (5, .v T161 y2)]) m x0 x1 x2 := by
  intro m
  induction m with
  | zero => intros; rfl
  | succ m ih =>
    intro x0 x1 x2
    simp only [iter_succ, t41_9, loopK_normal, loopK_exit, loopK_ret, kp41_0, ih]
    rfl

theorem kp41_6 (x0 : Bool) : keep [4] [(0, .dead), (1, .dead), (4, .v .bool x0), (5, .dead)] = [(4, .v .bool x0)] := by kernel_rfl
theorem kp41_7 (x0 : D160) (x1 : Int) (x2 : Int) : keep [4] [(0, .v T162 x0), (1, .v T161 x1), (5, .v T161 x2)] = [(4, .dead)] := by kernel_rfl
def g41_10 {R : Type} (N : Nat) (x0 : D160) (x1 : Int) (x2 : Int) (k0 : Bool → Option R) (k1 : Option R) : Option R :=
l41_10 (fun y0 => k0 y0) (fun y0 y1 y2 => k1) N x0 x1 x2
theorem ng41_10 {R R2 : Type} (N : Nat) (x0 : D160) (x1 : Int) (x2 : Int) (k0 : Bool → Option R) (k1 : Option R) (h : R → Option R2) : ((g41_10 N x0 x1 x2 k0 k1)).bind h = (g41_10 N x0 x1 x2 (fun y0 => (k0 y0).bind h) ((k1).bind h)) := by
  simp only [g41_10, nl41_10, bind_brB, bind_ite, bind_none', Option.bind_assoc]
theorem t41_10 {N : Nat} {cl : Cal} {R : Type} (K : KE R) (x0 : D160) (x1 : Int) (x2 : Int) : exec cl N c41_10 [(0, .v T162 x0), (1, .v T161 x1), (5, .v T161 x2)] K = (g41_10 N x0 x1 x2 (fun y0 => K .ret [(4, .v .bool y0)]) (K (.exit 0) [(4, .dead)])) := by
  simp only [c41_10, exec_out, exec_loop, kp41_0, lt41_10, kp41_6, kp41_7]
  rfl

theorem kp41_8 (x0 : Bool) : keep [4] [(4, .v .bool x0)] = [(4, .v .bool x0)] := by kernel_rfl
theorem kp41_9 : keep [4] [(4, .dead)] = [(4, .dead)] := by kernel_rfl
def g41_12 {R : Type} (k0 : Bool → Option R) : Option R :=
k0 false
theorem ng41_12 {R R2 : Type} (k0 : Bool → Option R) (h : R → Option R2) : ((g41_12 k0)).bind h = (g41_12 (fun y0 => (k0 y0).bind h)) := by
  simp only [g41_12, bind_brB, bind_ite, bind_none', Option.bind_assoc]
theorem t41_12 {N : Nat} {cl : Cal} {R : Type} (K : KE R) : exec cl N c41_12 [(4, .dead)] K = (g41_12 (fun y0 => K .normal [(4, .v .bool y0)])) := by
  kernel_rfl
def g41_13 {R : Type} (N : Nat) (x0 : D160) (x1 : Int) (k0 : Bool → Option R) : Option R :=
(g41_0 x0 x1 (fun y0 y1 => (g41_1 y0 y1 (fun y0 y1 y2 => (g41_10 N y0 y1 y2 (fun y0 => (k0 y0)) (g41_12 (fun y0 => (k0 y0))))))))
theorem ng41_13 {R R2 : Type} (N : Nat) (x0 : D160) (x1 : Int) (k0 : Bool → Option R) (h : R → Option R2) : ((g41_13 N x0 x1 k0)).bind h = (g41_13 N x0 x1 (fun y0 => (k0 y0).bind h)) := by
  simp only [g41_13, ng41_0, ng41_1, ng41_10, ng41_12, bind_brB, bind_ite, bind_none', Option.bind_assoc]
theorem t41_13 {N : Nat} {cl : Cal} {R : Type} (K : KE R) (x0 : D160) (x1 : Int) : exec cl N c41_13 [(0, .v T162 x0), (1, .v T161 x1)] K = (g41_13 N x0 x1 (fun y0 => K .ret [(4, .v .bool y0)])) := by
  simp only [c41_13, exec_seq, seqK_normal, seqK_exit, seqK_ret, t41_0, t41_1, c41_11, exec_out, exec_block, t41_10, blockK_normal, blockK_ret, blockK_eq, kp41_8, kp41_9, t41_12, exec_ret]
  rfl

theorem rk41_0 (y0 : Bool) : retK d41 .ret [(4, .v .bool y0)] = some [.v .bool y0] := by kernel_rfl
def g41 {R : Type} (N : Nat) (x0 : D160) (x1 : Int) (k : Bool → Option R) : Option R :=
(g41_13 N x0 x1 (fun y0 => k y0))
theorem gen41 {N : Nat} {cl : Cal} (x0 : D160) (x1 : Int) : exec cl N c41 (params 0 [.v T162 x0, .v T161 x1]) (retK d41) = g41 N x0 x1 (fun (r0 : Bool) => some [.v .bool r0]) := by
  have e0 : params 0 [.v T162 x0, .v T161 x1] = [(0, .v T162 x0), (1, .v T161 x1)] := by kernel_rfl
  simp only [c41, e0, t41_13, rk41_0]
  rfl

def ctr41 (S : D160 → Int → Option (Bool)) : Ctr := { A := D160 × Int × Unit, B := Bool, f := 41, enc := fun a => [.v T162 a.1, .v T161 a.2.1], dec := (decC (decV T162) (decC (decV T161) dec0)), S := fun a => S a.1 a.2.1, ent := fun b => [.v .bool b], ok := (decV_cons (T := T162) (decV_cons (T := T161) (fun es b h => dec0_some h))) }
def S41 (N : Nat) (x0 : D160) (x1 : Int) : Option (Bool) := g41 N x0 x1 (fun (r0 : Bool) => some (r0))
theorem ng41 {R R2 : Type} (N : Nat) (x0 : D160) (x1 : Int) (k : Bool → Option R) (h : R → Option R2) : (g41 N x0 x1 k).bind h = g41 N x0 x1 (fun (r0 : Bool) => (k r0).bind h) := by
  simp only [g41, ng41_13]
-- anceps/ancepsref16.Allowed
def g29_0 {R : Type} (x0 : D167) (x1 : D160) (k0 : D167 → D160 → Option R) : Option R :=
k0 x0 x1
theorem ng29_0 {R R2 : Type} (x0 : D167) (x1 : D160) (k0 : D167 → D160 → Option R) (h : R → Option R2) : ((g29_0 x0 x1 k0)).bind h = (g29_0 x0 x1 (fun y0 y1 => (k0 y0 y1).bind h)) := by
  simp only [g29_0, bind_brB, bind_ite, bind_none', Option.bind_assoc]
theorem t29_0 {N : Nat} {cl : Cal} {R : Type} (K : KE R) (x0 : D167) (x1 : D160) : exec cl N c29_0 [(0, .v T167 x0), (1, .v T162 x1)] K = (g29_0 x0 x1 (fun y0 y1 => K .normal [(0, .v T167 y0), (1, .v T162 y1)])) := by
  kernel_rfl
def g29_1 {R : Type} (x0 : D167) (x1 : D160) (k0 : D167 → D160 → D167 → Option R) : Option R :=
k0 x0 x1 []
theorem ng29_1 {R R2 : Type} (x0 : D167) (x1 : D160) (k0 : D167 → D160 → D167 → Option R) (h : R → Option R2) : ((g29_1 x0 x1 k0)).bind h = (g29_1 x0 x1 (fun y0 y1 y2 => (k0 y0 y1 y2).bind h)) := by
  simp only [g29_1, bind_brB, bind_ite, bind_none', Option.bind_assoc]
theorem t29_1 {N : Nat} {cl : Cal} {R : Type} (K : KE R) (x0 : D167) (x1 : D160) : exec cl N c29_1 [(0, .v T167 x0), (1, .v T162 x1)] K = (g29_1 x0 x1 (fun y0 y1 y2 => K .normal [(0, .v T167 y0), (1, .v T162 y1), (5, .own true 33 T166 .no y2)])) := by
  kernel_rfl
def g29_2 {R : Type} (x0 : D167) (x1 : D160) (x2 : D167) (k0 : D167 → D160 → D167 → Int → Option R) : Option R :=
k0 x0 x1 x2 (0 : Int)
theorem ng29_2 {R R2 : Type} (x0 : D167) (x1 : D160) (x2 : D167) (k0 : D167 → D160 → D167 → Int → Option R) (h : R → Option R2) : ((g29_2 x0 x1 x2 k0)).bind h = (g29_2 x0 x1 x2 (fun y0 y1 y2 y3 => (k0 y0 y1 y2 y3).bind h)) := by
  simp only [g29_2, bind_brB, bind_ite, bind_none', Option.bind_assoc]
theorem t29_2 {N : Nat} {cl : Cal} {R : Type} (K : KE R) (x0 : D167) (x1 : D160) (x2 : D167) : exec cl N c29_2 [(0, .v T167 x0), (1, .v T162 x1), (5, .own true 33 T166 .no x2)] K = (g29_2 x0 x1 x2 (fun y0 y1 y2 y3 => K .normal [(0, .v T167 y0), (1, .v T162 y1), (5, .own true 33 T166 .no y2), (6, .v T161 y3)])) := by
  kernel_rfl
theorem kp29_0 (x0 : D167) (x1 : D160) (x2 : D167) (x3 : Int) : keep [0, 1, 5, 6] [(0, .v T167 x0), (1, .v T162 x1), (5, .own true 33 T166 .no x2), (6, .v T161 x3)] = [(0, .v T167 x0), (1, .v T162 x1), (5, .own true 33 T166 .no x2), (6, .v T161 x3)] := by kernel_rfl
def g29_3 {R : Type} (x0 : D167) (x1 : D160) (x2 : D167) (x3 : Int) (k0 : D167 → D160 → D167 → Int → Bool → Option R) : Option R :=
k0 x0 x1 x2 x3 (decide (x3 < (x0.length : Int)))
theorem ng29_3 {R R2 : Type} (x0 : D167) (x1 : D160) (x2 : D167) (x3 : Int) (k0 : D167 → D160 → D167 → Int → Bool → Option R) (h : R → Option R2) : ((g29_3 x0 x1 x2 x3 k0)).bind h = (g29_3 x0 x1 x2 x3 (fun y0 y1 y2 y3 y4 => (k0 y0 y1 y2 y3 y4).bind h)) := by
  simp only [g29_3, bind_brB, bind_ite, bind_none', Option.bind_assoc]
theorem t29_3 {N : Nat} {cl : Cal} {R : Type} (K : KE R) (x0 : D167) (x1 : D160) (x2 : D167) (x3 : Int) : exec cl N c29_3 [(0, .v T167 x0), (1, .v T162 x1), (5, .own true 33 T166 .no x2), (6, .v T161 x3)] K = (g29_3 x0 x1 x2 x3 (fun y0 y1 y2 y3 y4 => K .normal [(0, .v T167 y0), (1, .v T162 y1), (5, .own true 33 T166 .no y2), (6, .v T161 y3), (10, .v .bool y4)])) := by
  kernel_rfl
theorem kp29_1 (x0 : D167) (x1 : D160) (x2 : D167) (x3 : Int) (x4 : Bool) : keep [0, 1, 5, 6] [(0, .v T167 x0), (1, .v T162 x1), (5, .own true 33 T166 .no x2), (6, .v T161 x3), (10, .v .bool x4)] = [(0, .v T167 x0), (1, .v T162 x1), (5, .own true 33 T166 .no x2), (6, .v T161 x3)] := by kernel_rfl
theorem hb29_0 (x0 : D167) (x1 : D160) (x2 : D167) (x3 : Int) (x4 : Bool) : boolOf? (ent [(0, .v T167 x0), (1, .v T162 x1), (5, .own true 33 T166 .no x2), (6, .v T161 x3), (10, .v .bool x4)] (.t 10)) = some x4 := by kernel_rfl
def g29_5 {R : Type} (S41 : D160 → Int → Option (Bool)) (x0 : D167) (x1 : D160) (x2 : D167) (x3 : Int) (k0 : D167 → D160 → D167 → Int → Bool → Option R) : Option R :=
if 0 ≤ x3 ∧ x3 < (x0.length : Int) then
brB ((x0.getD x3.toNat ((0 : Int), ((0 : Int), ((0 : Int), ())))).2.2.1 == (0 : Int)) (k0 x0 x1 x2 x3 true) (if 0 ≤ x3 ∧ x3 < (x0.length : Int) then
(S41 x1 ((x0.getD x3.toNat ((0 : Int), ((0 : Int), ((0 : Int), ())))).2.2.1)).bind fun r390 =>
k0 x0 x1 x2 x3 r390
else none)
else none
theorem ng29_5 {R R2 : Type} (S41 : D160 → Int → Option (Bool)) (x0 : D167) (x1 : D160) (x2 : D167) (x3 : Int) (k0 : D167 → D160 → D167 → Int → Bool → Option R) (h : R → Option R2) : ((g29_5 S41 x0 x1 x2 x3 k0)).bind h = (g29_5 S41 x0 x1 x2 x3 (fun y0 y1 y2 y3 y4 => (k0 y0 y1 y2 y3 y4).bind h)) := by
  simp only [g29_5, bind_brB, bind_ite, bind_none', Option.bind_assoc]
theorem t29_5 {N : Nat} {cl : Cal} (S41 : D160 → Int → Option (Bool)) (h41 : (ctr41 S41).holds cl) {R : Type} (K : KE R) (x0 : D167) (x1 : D160) (x2 : D167) (x3 : Int) : exec cl N c29_5 [(0, .v T167 x0), (1, .v T162 x1), (5, .own true 33 T166 .no x2), (6, .v T161 x3)] K = (g29_5 S41 x0 x1 x2 x3 (fun y0 y1 y2 y3 y4 => K .normal [(0, .v T167 y0), (1, .v T162 y1), (5, .own true 33 T166 .no y2), (6, .v T161 y3), (27, .v .bool y4)])) := by
  rw [← put_eq h41]
  kernel_rfl
def g29_6 {R : Type} (x0 : D167) (x1 : D160) (x2 : D167) (x3 : Int) (x4 : Bool) (k0 : D167 → D160 → D167 → Int → Option R) : Option R :=
if 0 ≤ x3 ∧ x3 < (x0.length : Int) then
if x2.length + [(x0.getD x3.toNat ((0 : Int), ((0 : Int), ((0 : Int), ()))))].length ≤ 5864062014805 then
k0 x0 x1 (x2 ++ [(x0.getD x3.toNat ((0 : Int), ((0 : Int), ((0 : Int), ()))))]) x3
else none
else none
theorem ng29_6 {R R2 : Type} (x0 : D167) (x1 : D160) (x2 : D167) (x3 : Int) (x4 : Bool) (k0 : D167 → D160 → D167 → Int → Option R) (h : R → Option R2) : ((g29_6 x0 x1 x2 x3 x4 k0)).bind h = (g29_6 x0 x1 x2 x3 x4 (fun y0 y1 y2 y3 => (k0 y0 y1 y2 y3).bind h)) := by
  simp only [g29_6, bind_brB, bind_ite, bind_none', Option.bind_assoc]
theorem t29_6 {N : Nat} {cl : Cal} {R : Type} (K : KE R) (x0 : D167) (x1 : D160) (x2 : D167) (x3 : Int) (x4 : Bool) : exec cl N c29_6 [(0, .v T167 x0), (1, .v T162 x1), (5, .own true 33 T166 .no x2), (6, .v T161 x3), (27, .v .bool x4)] K = (g29_6 x0 x1 x2 x3 x4 (fun y0 y1 y2 y3 => K .normal [(0, .v T167 y0), (1, .v T162 y1), (5, .own true 33 T166 .no y2), (6, .v T161 y3)])) := by
  kernel_rfl
theorem kp29_2 (x0 : D167) (x1 : D160) (x2 : D167) (x3 : Int) (x4 : Bool) : keep [0, 1, 5, 6] [(0, .v T167 x0), (1, .v T162 x1), (5, .own true 33 T166 .no x2), (6, .v T161 x3), (27, .v .bool x4)] = [(0, .v T167 x0), (1, .v T162 x1), (5, .own true 33 T166 .no x2), (6, .v T161 x3)] := by kernel_rfl
theorem hb29_1 (x0 : D167) (x1 : D160) (x2 : D167) (x3 : Int) (x4 : Bool) : boolOf? (ent [(0, .v T167 x0), (1, .v T162 x1), (5, .own true 33 T166 .no x2), (6, .v T161 x3), (27, .v .bool x4)] (.t 27)) = some x4 := by kernel_rfl
def g29_8 {R : Type} (S41 : D160 → Int → Option (Bool)) (x0 : D167) (x1 : D160) (x2 : D167) (x3 : Int) (k0 : D167 → D160 → D167 → Int → Option R) : Option R :=
(g29_5 S41 x0 x1 x2 x3 (fun y0 y1 y2 y3 y4 => brB y4 (g29_6 y0 y1 y2 y3 y4 (fun y0 y1 y2 y3 => (k0 y0 y1 y2 y3))) (k0 y0 y1 y2 y3)))
theorem ng29_8 {R R2 : Type} (S41 : D160 → Int → Option (Bool)) (x0 : D167) (x1 : D160) (x2 : D167) (x3 : Int) (k0 : D167 → D160 → D167 → Int → Option R) (h : R → Option R2) : ((g29_8 S41 x0 x1 x2 x3 k0)).bind h = (g29_8 S41 x0 x1 x2 x3 (fun y0 y1 y2 y3 => (k0 y0 y1 y2 y3).bind h)) := by
  simp only [g29_8, ng29_5, ng29_6, bind_brB, bind_ite, bind_none', Option.bind_assoc]
theorem t29_8 {N : Nat} {cl : Cal} (S41 : D160 → Int → Option (Bool)) (h41 : (ctr41 S41).holds cl) {R : Type} (K : KE R) (x0 : D167) (x1 : D160) (x2 : D167) (x3 : Int) : exec cl N c29_8 [(0, .v T167 x0), (1, .v T162 x1), (5, .own true 33 T166 .no x2), (6, .v T161 x3)] K = (g29_8 S41 x0 x1 x2 x3 (fun y0 y1 y2 y3 => K .normal [(0, .v T167 y0), (1, .v T162 y1), (5, .own true 33 T166 .no y2), (6, .v T161 y3)])) := by
  simp only [c29_8, exec_out, exec_block, exec_seq, seqK_normal, seqK_exit, seqK_ret, t29_5 S41 h41, c29_7, exec_cond', hb29_1, Option.bind_some, brB_true, brB_false, t29_6, exec_skip, kp29_0, kp29_2, blockK_normal, blockK_ret, blockK_eq]
  rfl

def g29_9 {R : Type} (x0 : D167) (x1 : D160) (x2 : D167) (x3 : Int) (k0 : D167 → D160 → D167 → Int → Option R) : Option R :=
k0 x0 x1 x2 (IntKind.i64.wrap (x3 + (1 : Int)))
theorem ng29_9 {R R2 : Type} (x0 : D167) (x1 : D160) (x2 : D167) (x3 : Int) (k0 : D167 → D160 → D167 → Int → Option R) (h : R → Option R2) : ((g29_9 x0 x1 x2 x3 k0)).bind h = (g29_9 x0 x1 x2 x3 (fun y0 y1 y2 y3 => (k0 y0 y1 y2 y3).bind h)) := by
  simp only [g29_9, bind_brB, bind_ite, bind_none', Option.bind_assoc]
theorem t29_9 {N : Nat} {cl : Cal} {R : Type} (K : KE R) (x0 : D167) (x1 : D160) (x2 : D167) (x3 : Int) : exec cl N c29_9 [(0, .v T167 x0), (1, .v T162 x1), (5, .own true 33 T166 .no x2), (6, .v T161 x3)] K = (g29_9 x0 x1 x2 x3 (fun y0 y1 y2 y3 => K .normal [(0, .v T167 y0), (1, .v T162 y1), (5, .own true 33 T166 .no y2), (6, .v T161 y3)])) := by
  kernel_rfl
def g29_10 {R : Type} (S41 : D160 → Int → Option (Bool)) (x0 : D167) (x1 : D160) (x2 : D167) (x3 : Int) (k0 : D167 → D160 → D167 → Int → Option R) (k1 : D167 → D160 → D167 → Int → Option R) : Option R :=
(g29_3 x0 x1 x2 x3 (fun y0 y1 y2 y3 y4 => brB y4 ((fun y0 y1 y2 y3 => (g29_8 S41 y0 y1 y2 y3 (fun y0 y1 y2 y3 => (g29_9 y0 y1 y2 y3 k0)))) y0 y1 y2 y3) (k1 y0 y1 y2 y3)))
theorem ng29_10 {R R2 : Type} (S41 : D160 → Int → Option (Bool)) (x0 : D167) (x1 : D160) (x2 : D167) (x3 : Int) (k0 : D167 → D160 → D167 → Int → Option R) (k1 : D167 → D160 → D167 → Int → Option R) (h : R → Option R2) : ((g29_10 S41 x0 x1 x2 x3 k0 k1)).bind h = (g29_10 S41 x0 x1 x2 x3 (fun y0 y1 y2 y3 => (k0 y0 y1 y2 y3).bind h) (fun y0 y1 y2 y3 => (k1 y0 y1 y2 y3).bind h)) := by
  simp only [g29_10, ng29_3, ng29_8, ng29_9, bind_brB, bind_ite, bind_none', Option.bind_assoc]
theorem t29_10 {N : Nat} {cl : Cal} (S41 : D160 → Int → Option (Bool)) (h41 : (ctr41 S41).holds cl) {R : Type} (K : KE R) (x0 : D167) (x1 : D160) (x2 : D167) (x3 : Int) : exec cl N c29_10 [(0, .v T167 x0), (1, .v T162 x1), (5, .own true 33 T166 .no x2), (6, .v T161 x3)] K = (g29_10 S41 x0 x1 x2 x3 (fun y0 y1 y2 y3 => K .normal [(0, .v T167 y0), (1, .v T162 y1), (5, .own true 33 T166 .no y2), (6, .v T161 y3)]) (fun y0 y1 y2 y3 => K (.exit 0) [(0, .v T167 y0), (1, .v T162 y1), (5, .own true 33 T166 .no y2), (6, .v T161 y3)])) := by
  simp only [c29_10, exec_seq, seqK_normal, seqK_exit, seqK_ret, t29_3, c29_4, exec_out, exec_cond', hb29_0, Option.bind_some, brB_true, brB_false, exec_skip, exec_exit, kp29_1, t29_8 S41 h41, t29_9]
  rfl

def l29_11 {R : Type} (S41 : D160 → Int → Option (Bool)) (k0 : D167 → D160 → D167 → Int → Option R) : Nat → D167 → D160 → D167 → Int → Option R
  | 0, _, _, _, _ => none
  | m + 1, x0, x1, x2, x3 => (g29_10 S41 x0 x1 x2 x3 (fun y0 y1 y2 y3 => l29_11 S41 k0 m y0 y1 y2 y3) k0)
theorem nl29_11 {R R2 : Type} (S41 : D160 → Int → Option (Bool)) (k0 : D167 → D160 → D167 → Int → Option R) (h : R → Option R2) : ∀ (m : Nat) (x0 : D167) (x1 : D160) (x2 : D167) (x3 : Int), (l29_11 S41 k0 m x0 x1 x2 x3).bind h = l29_11 S41 (fun y0 y1 y2 y3 => (k0 y0 y1 y2 y3).bind h) m x0 x1 x2 x3 := by
  intro m
  induction m with
  | zero => intros; rfl
  | succ m ih =>
    intro x0 x1 x2 x3
    simp only [l29_11, ng29_10, bind_brB, bind_ite, bind_none', ih]
theorem lt29_11 {N : Nat} {cl : Cal} (S41 : D160 → Int → Option (Bool)) (h41 : (ctr41 S41).holds cl) {R : Type} (K : KE R) : ∀ (m : Nat) (x0 : D167) (x1 : D160) (x2 : D167) (x3 : Int), iter [0, 1, 5, 6] (fun env K => exec cl N c29_10 env K) K m [(0, .v T167 x0), (1, .v T162 x1), (5, .own true 33 T166 .no x2), (6, .v T161 x3)] = l29_11 S41 (fun y0 y1 y2 y3 => K (.exit 0) [(0, .v T167 y0), (1, .v T162 y1), (5, .own true 33 T166 .no y2), (6, .v T161 y3)]) m x0 x1 x2 x3 := by
  intro m
  induction m with
  | zero => intros; rfl
  | succ m ih =>
    intro x0 x1 x2 x3
    simp only [iter_succ, t29_10 S41 h41, loopK_normal, loopK_exit, loopK_ret, kp29_0, ih]
    rfl

theorem kp29_3 (x0 : D167) (x1 : D160) (x2 : D167) (x3 : Int) : keep [5] [(0, .v T167 x0), (1, .v T162 x1), (5, .own true 33 T166 .no x2), (6, .v T161 x3)] = [(5, .own true 33 T166 .no x2)] := by kernel_rfl
def g29_11 {R : Type} (N : Nat) (S41 : D160 → Int → Option (Bool)) (x0 : D167) (x1 : D160) (x2 : D167) (x3 : Int) (k0 : D167 → Option R) : Option R :=
l29_11 S41 (fun y0 y1 y2 y3 => k0 y2) N x0 x1 x2 x3
theorem ng29_11 {R R2 : Type} (N : Nat) (S41 : D160 → Int → Option (Bool)) (x0 : D167) (x1 : D160) (x2 : D167) (x3 : Int) (k0 : D167 → Option R) (h : R → Option R2) : ((g29_11 N S41 x0 x1 x2 x3 k0)).bind h = (g29_11 N S41 x0 x1 x2 x3 (fun y0 => (k0 y0).bind h)) := by
  simp only [g29_11, nl29_11, bind_brB, bind_ite, bind_none', Option.bind_assoc]
theorem t29_11 {N : Nat} {cl : Cal} (S41 : D160 → Int → Option (Bool)) (h41 : (ctr41 S41).holds cl) {R : Type} (K : KE R) (x0 : D167) (x1 : D160) (x2 : D167) (x3 : Int) : exec cl N c29_11 [(0, .v T167 x0), (1, .v T162 x1), (5, .own true 33 T166 .no x2), (6, .v T161 x3)] K = (g29_11 N S41 x0 x1 x2 x3 (fun y0 => K (.exit 0) [(5, .own true 33 T166 .no y0)])) := by
  simp only [c29_11, exec_out, exec_loop, kp29_0, lt29_11 S41 h41, kp29_3]
  rfl

theorem kp29_4 (x0 : D167) : keep [5] [(5, .own true 33 T166 .no x0)] = [(5, .own true 33 T166 .no x0)] := by kernel_rfl
def g29_13 {R : Type} (x0 : D167) (k0 : D167 → Option R) : Option R :=
k0 x0
theorem ng29_13 {R R2 : Type} (x0 : D167) (k0 : D167 → Option R) (h : R → Option R2) : ((g29_13 x0 k0)).bind h = (g29_13 x0 (fun y0 => (k0 y0).bind h)) := by
  simp only [g29_13, bind_brB, bind_ite, bind_none', Option.bind_assoc]
theorem t29_13 {N : Nat} {cl : Cal} {R : Type} (K : KE R) (x0 : D167) : exec cl N c29_13 [(5, .own true 33 T166 .no x0)] K = (g29_13 x0 (fun y0 => K .normal [(4, .ref 5 []), (5, .own true 33 T166 .no y0)])) := by
  kernel_rfl
def g29_14 {R : Type} (N : Nat) (S41 : D160 → Int → Option (Bool)) (x0 : D167) (x1 : D160) (k0 : D167 → Option R) : Option R :=
(g29_0 x0 x1 (fun y0 y1 => (g29_1 y0 y1 (fun y0 y1 y2 => (g29_2 y0 y1 y2 (fun y0 y1 y2 y3 => (g29_11 N S41 y0 y1 y2 y3 (fun y0 => ((fun y0 => (g29_13 y0 (fun y0 => (k0 y0)))) y0)))))))))
theorem ng29_14 {R R2 : Type} (N : Nat) (S41 : D160 → Int → Option (Bool)) (x0 : D167) (x1 : D160) (k0 : D167 → Option R) (h : R → Option R2) : ((g29_14 N S41 x0 x1 k0)).bind h = (g29_14 N S41 x0 x1 (fun y0 => (k0 y0).bind h)) := by
  simp only [g29_14, ng29_0, ng29_1, ng29_11, ng29_13, ng29_2, bind_brB, bind_ite, bind_none', Option.bind_assoc]
theorem t29_14 {N : Nat} {cl : Cal} (S41 : D160 → Int → Option (Bool)) (h41 : (ctr41 S41).holds cl) {R : Type} (K : KE R) (x0 : D167) (x1 : D160) : exec cl N c29_14 [(0, .v T167 x0), (1, .v T162 x1)] K = (g29_14 N S41 x0 x1 (fun y0 => K .ret [(4, .ref 5 []), (5, .own true 33 T166 .no y0)])) := by
  simp only [c29_14, exec_seq, seqK_normal, seqK_exit, seqK_ret, t29_0, t29_1, t29_2, c29_12, exec_out, exec_block, t29_11 S41 h41, blockK_normal, blockK_ret, blockK_eq, kp29_4, t29_13, exec_ret]
  rfl

theorem rk29_0 (y0 : D167) : retK d29 .ret [(4, .ref 5 []), (5, .own true 33 T166 .no y0)] = some [.own true 33 T166 .no y0] := by kernel_rfl
def g29 {R : Type} (N : Nat) (S41 : D160 → Int → Option (Bool)) (x0 : D167) (x1 : D160) (k : D167 → Option R) : Option R :=
(g29_14 N S41 x0 x1 (fun y0 => k y0))
theorem gen29 {N : Nat} {cl : Cal} (S41 : D160 → Int → Option (Bool)) (h41 : (ctr41 S41).holds cl) (x0 : D167) (x1 : D160) : exec cl N c29 (params 0 [.v T167 x0, .v T162 x1]) (retK d29) = g29 N S41 x0 x1 (fun (r0 : D167) => some [.own true 33 T166 .no r0]) := by
  have e0 : params 0 [.v T167 x0, .v T162 x1] = [(0, .v T167 x0), (1, .v T162 x1)] := by kernel_rfl
  simp only [c29, e0, t29_14 S41 h41, rk29_0]
  rfl

def ctr29 (S : D167 → D160 → Option D168) : Ctr := { A := D167 × D160 × Unit, B := D167, f := 29, enc := fun a => [.v T167 a.1, .v T162 a.2.1], dec := (decC (decV T167) (decC (decV T162) dec0)), S := fun a => S a.1 a.2.1, ent := fun b => [.own true 33 T166 .no b], ok := (decV_cons (T := T167) (decV_cons (T := T162) (fun es b h => dec0_some h))) }
def S29 (N : Nat) (x0 : D167) (x1 : D160) : Option D168 := g29 N (S41 N) x0 x1 (fun (r0 : D167) => some (r0))
theorem ng29 {R R2 : Type} (N : Nat) (S41 : D160 → Int → Option (Bool)) (x0 : D167) (x1 : D160) (k : D167 → Option R) (h : R → Option R2) : (g29 N S41 x0 x1 k).bind h = g29 N S41 x0 x1 (fun (r0 : D167) => (k r0).bind h) := by
  simp only [g29, ng29_14]
-- anceps/ancepslaw16.WeightAllowed
def g10_0 {R : Type} (x0 : D167) (x1 : D160) (x2 : Int) (k0 : D167 → D160 → Int → Option R) : Option R :=
k0 x0 x1 x2
theorem ng10_0 {R R2 : Type} (x0 : D167) (x1 : D160) (x2 : Int) (k0 : D167 → D160 → Int → Option R) (h : R → Option R2) : ((g10_0 x0 x1 x2 k0)).bind h = (g10_0 x0 x1 x2 (fun y0 y1 y2 => (k0 y0 y1 y2).bind h)) := by
  simp only [g10_0, bind_brB, bind_ite, bind_none', Option.bind_assoc]
theorem t10_0 {N : Nat} {cl : Cal} {R : Type} (K : KE R) (x0 : D167) (x1 : D160) (x2 : Int) : exec cl N c10_0 [(0, .v T167 x0), (1, .v T162 x1), (2, .v T161 x2)] K = (g10_0 x0 x1 x2 (fun y0 y1 y2 => K .normal [(0, .v T167 y0), (1, .v T162 y1), (2, .v T161 y2)])) := by
  kernel_rfl
def g10_1 {R : Type} (S11 : Option (Bool)) (x0 : D167) (x1 : D160) (x2 : Int) (k0 : D167 → D160 → Int → Bool → Option R) : Option R :=
(S11).bind fun r399 =>
brB (!r399) (k0 x0 x1 x2 true) (brB (decide ((x0.length : Int) > (40 : Int))) (k0 x0 x1 x2 true) (k0 x0 x1 x2 (decide ((x1.length : Int) > (40 : Int)))))
theorem ng10_1 {R R2 : Type} (S11 : Option (Bool)) (x0 : D167) (x1 : D160) (x2 : Int) (k0 : D167 → D160 → Int → Bool → Option R) (h : R → Option R2) : ((g10_1 S11 x0 x1 x2 k0)).bind h = (g10_1 S11 x0 x1 x2 (fun y0 y1 y2 y3 => (k0 y0 y1 y2 y3).bind h)) := by
  simp only [g10_1, bind_brB, bind_ite, bind_none', Option.bind_assoc]
theorem t10_1 {N : Nat} {cl : Cal} (S11 : Option (Bool)) (h11 : (ctr11 S11).holds cl) {R : Type} (K : KE R) (x0 : D167) (x1 : D160) (x2 : Int) : exec cl N c10_1 [(0, .v T167 x0), (1, .v T162 x1), (2, .v T161 x2)] K = (g10_1 S11 x0 x1 x2 (fun y0 y1 y2 y3 => K .normal [(0, .v T167 y0), (1, .v T162 y1), (2, .v T161 y2), (20, .v .bool y3)])) := by
  rw [← put_eq h11]
  kernel_rfl
def g10_2 {R : Type} (S11 : Option (Bool)) (x0 : D167) (x1 : D160) (x2 : Int) (x3 : Bool) (k0 : Bool → Option R) : Option R :=
(S11).bind fun r402 =>
k0 r402
theorem ng10_2 {R R2 : Type} (S11 : Option (Bool)) (x0 : D167) (x1 : D160) (x2 : Int) (x3 : Bool) (k0 : Bool → Option R) (h : R → Option R2) : ((g10_2 S11 x0 x1 x2 x3 k0)).bind h = (g10_2 S11 x0 x1 x2 x3 (fun y0 => (k0 y0).bind h)) := by
  simp only [g10_2, bind_brB, bind_ite, bind_none', Option.bind_assoc]
theorem t10_2 {N : Nat} {cl : Cal} (S11 : Option (Bool)) (h11 : (ctr11 S11).holds cl) {R : Type} (K : KE R) (x0 : D167) (x1 : D160) (x2 : Int) (x3 : Bool) : exec cl N c10_2 [(0, .v T167 x0), (1, .v T162 x1), (2, .v T161 x2), (20, .v .bool x3)] K = (g10_2 S11 x0 x1 x2 x3 (fun y0 => K .normal [(6, .v .bool y0)])) := by
  rw [← put_eq h11]
  kernel_rfl
theorem kp10_0 (x0 : Bool) : keep [0, 1, 2, 6] [(6, .v .bool x0)] = [(0, .dead), (1, .dead), (2, .dead), (6, .v .bool x0)] := by kernel_rfl
theorem kp10_1 (x0 : D167) (x1 : D160) (x2 : Int) (x3 : Bool) : keep [0, 1, 2, 6] [(0, .v T167 x0), (1, .v T162 x1), (2, .v T161 x2), (20, .v .bool x3)] = [(0, .v T167 x0), (1, .v T162 x1), (2, .v T161 x2), (6, .dead)] := by kernel_rfl
theorem hb10_0 (x0 : D167) (x1 : D160) (x2 : Int) (x3 : Bool) : boolOf? (ent [(0, .v T167 x0), (1, .v T162 x1), (2, .v T161 x2), (20, .v .bool x3)] (.t 20)) = some x3 := by kernel_rfl
def g10_4 {R : Type} (S25 : D167 → D160 → Option D168) (S27 : D167 → Option D168) (S28 : D160 → Option D162) (x0 : D167) (x1 : D160) (x2 : Int) (k0 : D167 → D160 → Int → D167 → Option R) : Option R :=
(S27 x0).bind fun r403 =>
(S28 x1).bind fun r404 =>
(S25 r403 r404).bind fun r405 =>
k0 x0 x1 x2 r405
theorem ng10_4 {R R2 : Type} (S25 : D167 → D160 → Option D168) (S27 : D167 → Option D168) (S28 : D160 → Option D162) (x0 : D167) (x1 : D160) (x2 : Int) (k0 : D167 → D160 → Int → D167 → Option R) (h : R → Option R2) : ((g10_4 S25 S27 S28 x0 x1 x2 k0)).bind h = (g10_4 S25 S27 S28 x0 x1 x2 (fun y0 y1 y2 y3 => (k0 y0 y1 y2 y3).bind h)) := by
  simp only [g10_4, bind_brB, bind_ite, bind_none', Option.bind_assoc]
theorem t10_4 {N : Nat} {cl : Cal} (S25 : D167 → D160 → Option D168) (S27 : D167 → Option D168) (S28 : D160 → Option D162) (h25 : (ctr25 S25).holds cl) (h27 : (ctr27 S27).holds cl) (h28 : (ctr28 S28).holds cl) {R : Type} (K : KE R) (x0 : D167) (x1 : D160) (x2 : Int) : exec cl N c10_4 [(0, .v T167 x0), (1, .v T162 x1), (2, .v T161 x2), (6, .dead)] K = (g10_4 S25 S27 S28 x0 x1 x2 (fun y0 y1 y2 y3 => K .normal [(0, .v T167 y0), (1, .v T162 y1), (2, .v T161 y2), (7, .own true 33 T166 .no y3)])) := by
  rw [← put_eq h25]
  rw [← put_eq h27]
  rw [← put_eq h28]
  kernel_rfl
def g10_5 {R : Type} (S25 : D167 → D160 → Option D168) (S28 : D160 → Option D162) (x0 : D167) (x1 : D160) (x2 : Int) (x3 : D167) (k0 : D167 → D160 → D167 → D167 → Option R) : Option R :=
(S28 x1).bind fun r406 =>
if r406.length + [x2].length ≤ 17592186044416 then
(S25 x0 (r406 ++ [x2])).bind fun r407 =>
k0 x0 x1 x3 r407
else none
theorem ng10_5 {R R2 : Type} (S25 : D167 → D160 → Option D168) (S28 : D160 → Option D162) (x0 : D167) (x1 : D160) (x2 : Int) (x3 : D167) (k0 : D167 → D160 → D167 → D167 → Option R) (h : R → Option R2) : ((g10_5 S25 S28 x0 x1 x2 x3 k0)).bind h = (g10_5 S25 S28 x0 x1 x2 x3 (fun y0 y1 y2 y3 => (k0 y0 y1 y2 y3).bind h)) := by
  simp only [g10_5, bind_brB, bind_ite, bind_none', Option.bind_assoc]
theorem t10_5 {N : Nat} {cl : Cal} (S25 : D167 → D160 → Option D168) (S28 : D160 → Option D162) (h25 : (ctr25 S25).holds cl) (h28 : (ctr28 S28).holds cl) {R : Type} (K : KE R) (x0 : D167) (x1 : D160) (x2 : Int) (x3 : D167) : exec cl N c10_5 [(0, .v T167 x0), (1, .v T162 x1), (2, .v T161 x2), (7, .own true 33 T166 .no x3)] K = (g10_5 S25 S28 x0 x1 x2 x3 (fun y0 y1 y2 y3 => K .normal [(0, .v T167 y0), (1, .v T162 y1), (7, .own true 33 T166 .no y2), (8, .own true 33 T166 .no y3)])) := by
  rw [← put_eq h25]
  rw [← put_eq h28]
  kernel_rfl
def g10_6 {R : Type} (S14 : D167 → D167 → Option (Bool)) (S25 : D167 → D160 → Option D168) (S29 : D167 → D160 → Option D168) (x0 : D167) (x1 : D160) (x2 : D167) (x3 : D167) (k0 : D160 → D167 → D167 → Bool → Option R) : Option R :=
(S29 x0 x1).bind fun r408 =>
(S14 x2 r408).bind fun r409 =>
brB (!r409) (k0 x1 x2 x3 true) ((S25 x2 x1).bind fun r410 =>
(S14 r410 x2).bind fun r411 =>
k0 x1 x2 x3 (!r411))
theorem ng10_6 {R R2 : Type} (S14 : D167 → D167 → Option (Bool)) (S25 : D167 → D160 → Option D168) (S29 : D167 → D160 → Option D168) (x0 : D167) (x1 : D160) (x2 : D167) (x3 : D167) (k0 : D160 → D167 → D167 → Bool → Option R) (h : R → Option R2) : ((g10_6 S14 S25 S29 x0 x1 x2 x3 k0)).bind h = (g10_6 S14 S25 S29 x0 x1 x2 x3 (fun y0 y1 y2 y3 => (k0 y0 y1 y2 y3).bind h)) := by
  simp only [g10_6, bind_brB, bind_ite, bind_none', Option.bind_assoc]
theorem t10_6 {N : Nat} {cl : Cal} (S14 : D167 → D167 → Option (Bool)) (S25 : D167 → D160 → Option D168) (S29 : D167 → D160 → Option D168) (h14 : (ctr14 S14).holds cl) (h25 : (ctr25 S25).holds cl) (h29 : (ctr29 S29).holds cl) {R : Type} (K : KE R) (x0 : D167) (x1 : D160) (x2 : D167) (x3 : D167) : exec cl N c10_6 [(0, .v T167 x0), (1, .v T162 x1), (7, .own true 33 T166 .no x2), (8, .own true 33 T166 .no x3)] K = (g10_6 S14 S25 S29 x0 x1 x2 x3 (fun y0 y1 y2 y3 => K .normal [(1, .v T162 y0), (7, .own true 33 T166 .no y1), (8, .own true 33 T166 .no y2), (47, .v .bool y3)])) := by
  rw [← put_eq h14]
  rw [← put_eq h25]
  rw [← put_eq h29]
  kernel_rfl
def g10_7 {R : Type} (x0 : D160) (x1 : D167) (x2 : D167) (x3 : Bool) (k0 : Bool → Option R) : Option R :=
k0 false
theorem ng10_7 {R R2 : Type} (x0 : D160) (x1 : D167) (x2 : D167) (x3 : Bool) (k0 : Bool → Option R) (h : R → Option R2) : ((g10_7 x0 x1 x2 x3 k0)).bind h = (g10_7 x0 x1 x2 x3 (fun y0 => (k0 y0).bind h)) := by
  simp only [g10_7, bind_brB, bind_ite, bind_none', Option.bind_assoc]
theorem t10_7 {N : Nat} {cl : Cal} {R : Type} (K : KE R) (x0 : D160) (x1 : D167) (x2 : D167) (x3 : Bool) : exec cl N c10_7 [(1, .v T162 x0), (7, .own true 33 T166 .no x1), (8, .own true 33 T166 .no x2), (47, .v .bool x3)] K = (g10_7 x0 x1 x2 x3 (fun y0 => K .normal [(6, .v .bool y0)])) := by
  kernel_rfl
theorem kp10_2 (x0 : Bool) : keep [1, 6, 7, 8] [(6, .v .bool x0)] = [(1, .dead), (6, .v .bool x0), (7, .dead), (8, .dead)] := by kernel_rfl
theorem kp10_3 (x0 : D160) (x1 : D167) (x2 : D167) (x3 : Bool) : keep [1, 6, 7, 8] [(1, .v T162 x0), (7, .own true 33 T166 .no x1), (8, .own true 33 T166 .no x2), (47, .v .bool x3)] = [(1, .v T162 x0), (6, .dead), (7, .own true 33 T166 .no x1), (8, .own true 33 T166 .no x2)] := by kernel_rfl
theorem hb10_1 (x0 : D160) (x1 : D167) (x2 : D167) (x3 : Bool) : boolOf? (ent [(1, .v T162 x0), (7, .own true 33 T166 .no x1), (8, .own true 33 T166 .no x2), (47, .v .bool x3)] (.t 47)) = some x3 := by kernel_rfl
def g10_9 {R : Type} (S14 : D167 → D167 → Option (Bool)) (S25 : D167 → D160 → Option D168) (x0 : D160) (x1 : D167) (x2 : D167) (k0 : Bool → Option R) : Option R :=
(S25 x2 x0).bind fun r412 =>
(S14 r412 x1).bind fun r413 =>
brB r413 (k0 (decide ((x2.length : Int) ≥ (x1.length : Int)))) (k0 false)
theorem ng10_9 {R R2 : Type} (S14 : D167 → D167 → Option (Bool)) (S25 : D167 → D160 → Option D168) (x0 : D160) (x1 : D167) (x2 : D167) (k0 : Bool → Option R) (h : R → Option R2) : ((g10_9 S14 S25 x0 x1 x2 k0)).bind h = (g10_9 S14 S25 x0 x1 x2 (fun y0 => (k0 y0).bind h)) := by
  simp only [g10_9, bind_brB, bind_ite, bind_none', Option.bind_assoc]
theorem t10_9 {N : Nat} {cl : Cal} (S14 : D167 → D167 → Option (Bool)) (S25 : D167 → D160 → Option D168) (h14 : (ctr14 S14).holds cl) (h25 : (ctr25 S25).holds cl) {R : Type} (K : KE R) (x0 : D160) (x1 : D167) (x2 : D167) : exec cl N c10_9 [(1, .v T162 x0), (6, .dead), (7, .own true 33 T166 .no x1), (8, .own true 33 T166 .no x2)] K = (g10_9 S14 S25 x0 x1 x2 (fun y0 => K .normal [(6, .v .bool y0)])) := by
  rw [← put_eq h14]
  rw [← put_eq h25]
  kernel_rfl
def g10_10 {R : Type} (S11 : Option (Bool)) (S14 : D167 → D167 → Option (Bool)) (S25 : D167 → D160 → Option D168) (S27 : D167 → Option D168) (S28 : D160 → Option D162) (S29 : D167 → D160 → Option D168) (x0 : D167) (x1 : D160) (x2 : Int) (k0 : Bool → Option R) (k1 : Bool → Option R) (k2 : Bool → Option R) : Option R :=
(g10_0 x0 x1 x2 (fun y0 y1 y2 => (g10_1 S11 y0 y1 y2 (fun y0 y1 y2 y3 => brB y3 (g10_2 S11 y0 y1 y2 y3 (fun y0 => ((fun y0 => (k0 y0)) y0))) ((fun y0 y1 y2 => (g10_4 S25 S27 S28 y0 y1 y2 (fun y0 y1 y2 y3 => (g10_5 S25 S28 y0 y1 y2 y3 (fun y0 y1 y2 y3 => (g10_6 S14 S25 S29 y0 y1 y2 y3 (fun y0 y1 y2 y3 => brB y3 (g10_7 y0 y1 y2 y3 (fun y0 => ((fun y0 => (k1 y0)) y0))) ((fun y0 y1 y2 => (g10_9 S14 S25 y0 y1 y2 (fun y0 => (k2 y0)))) y0 y1 y2)))))))) y0 y1 y2)))))
theorem ng10_10 {R R2 : Type} (S11 : Option (Bool)) (S14 : D167 → D167 → Option (Bool)) (S25 : D167 → D160 → Option D168) (S27 : D167 → Option D168) (S28 : D160 → Option D162) (S29 : D167 → D160 → Option D168) (x0 : D167) (x1 : D160) (x2 : Int) (k0 : Bool → Option R) (k1 : Bool → Option R) (k2 : Bool → Option R) (h : R → Option R2) : ((g10_10 S11 S14 S25 S27 S28 S29 x0 x1 x2 k0 k1 k2)).bind h = (g10_10 S11 S14 S25 S27 S28 S29 x0 x1 x2 (fun y0 => (k0 y0).bind h) (fun y0 => (k1 y0).bind h) (fun y0 => (k2 y0).bind h)) := by
  simp only [g10_10, ng10_0, ng10_1, ng10_2, ng10_4, ng10_5, ng10_6, ng10_7, ng10_9, bind_brB, bind_ite, bind_none', Option.bind_assoc]
theorem t10_10 {N : Nat} {cl : Cal} (S11 : Option (Bool)) (S14 : D167 → D167 → Option (Bool)) (S25 : D167 → D160 → Option D168) (S27 : D167 → Option D168) (S28 : D160 → Option D162) (S29 : D167 → D160 → Option D168) (h11 : (ctr11 S11).holds cl) (h14 : (ctr14 S14).holds cl) (h25 : (ctr25 S25).holds cl) (h27 : (ctr27 S27).holds cl) (h28 : (ctr28 S28).holds cl) (h29 : (ctr29 S29).holds cl) {R : Type} (K : KE R) (x0 : D167) (x1 : D160) (x2 : Int) : exec cl N c10_10 [(0, .v T167 x0), (1, .v T162 x1), (2, .v T161 x2)] K = (g10_10 S11 S14 S25 S27 S28 S29 x0 x1 x2 (fun y0 => K .ret [(0, .dead), (1, .dead), (2, .dead), (6, .v .bool y0)]) (fun y0 => K .ret [(1, .dead), (6, .v .bool y0), (7, .dead), (8, .dead)]) (fun y0 => K .ret [(6, .v .bool y0)])) := by
  simp only [c10_10, exec_seq, seqK_normal, seqK_exit, seqK_ret, t10_0, t10_1 S11 h11, c10_3, exec_out, exec_cond', hb10_0, Option.bind_some, brB_true, brB_false, t10_2 S11 h11, exec_ret, exec_skip, kp10_0, kp10_1, t10_4 S25 S27 S28 h25 h27 h28, t10_5 S25 S28 h25 h28, t10_6 S14 S25 S29 h14 h25 h29, c10_8, hb10_1, t10_7, kp10_2, kp10_3, t10_9 S14 S25 h14 h25]
  rfl

theorem rk10_0 (y0 : Bool) : retK d10 .ret [(0, .dead), (1, .dead), (2, .dead), (6, .v .bool y0)] = some [.v .bool y0] := by kernel_rfl
theorem rk10_1 (y0 : Bool) : retK d10 .ret [(1, .dead), (6, .v .bool y0), (7, .dead), (8, .dead)] = some [.v .bool y0] := by kernel_rfl
theorem rk10_2 (y0 : Bool) : retK d10 .ret [(6, .v .bool y0)] = some [.v .bool y0] := by kernel_rfl
def g10 {R : Type} (S11 : Option (Bool)) (S14 : D167 → D167 → Option (Bool)) (S25 : D167 → D160 → Option D168) (S27 : D167 → Option D168) (S28 : D160 → Option D162) (S29 : D167 → D160 → Option D168) (x0 : D167) (x1 : D160) (x2 : Int) (k : Bool → Option R) : Option R :=
(g10_10 S11 S14 S25 S27 S28 S29 x0 x1 x2 (fun y0 => k y0) (fun y0 => k y0) (fun y0 => k y0))
theorem gen10 {N : Nat} {cl : Cal} (S11 : Option (Bool)) (S14 : D167 → D167 → Option (Bool)) (S25 : D167 → D160 → Option D168) (S27 : D167 → Option D168) (S28 : D160 → Option D162) (S29 : D167 → D160 → Option D168) (h11 : (ctr11 S11).holds cl) (h14 : (ctr14 S14).holds cl) (h25 : (ctr25 S25).holds cl) (h27 : (ctr27 S27).holds cl) (h28 : (ctr28 S28).holds cl) (h29 : (ctr29 S29).holds cl) (x0 : D167) (x1 : D160) (x2 : Int) : exec cl N c10 (params 0 [.v T167 x0, .v T162 x1, .v T161 x2]) (retK d10) = g10 S11 S14 S25 S27 S28 S29 x0 x1 x2 (fun (r0 : Bool) => some [.v .bool r0]) := by
  have e0 : params 0 [.v T167 x0, .v T162 x1, .v T161 x2] = [(0, .v T167 x0), (1, .v T162 x1), (2, .v T161 x2)] := by kernel_rfl
  simp only [c10, e0, t10_10 S11 S14 S25 S27 S28 S29 h11 h14 h25 h27 h28 h29, rk10_0, rk10_1, rk10_2]
  rfl

def ctr10 (S : D167 → D160 → Int → Option (Bool)) : Ctr := { A := D167 × D160 × Int × Unit, B := Bool, f := 10, enc := fun a => [.v T167 a.1, .v T162 a.2.1, .v T161 a.2.2.1], dec := (decC (decV T167) (decC (decV T162) (decC (decV T161) dec0))), S := fun a => S a.1 a.2.1 a.2.2.1, ent := fun b => [.v .bool b], ok := (decV_cons (T := T167) (decV_cons (T := T162) (decV_cons (T := T161) (fun es b h => dec0_some h)))) }
def S10 (N : Nat) (x0 : D167) (x1 : D160) (x2 : Int) : Option (Bool) := g10 (S11 N) (S14 N) (S25 N) (S27 N) (S28 N) (S29 N) x0 x1 x2 (fun (r0 : Bool) => some (r0))
theorem ng10 {R R2 : Type} (S11 : Option (Bool)) (S14 : D167 → D167 → Option (Bool)) (S25 : D167 → D160 → Option D168) (S27 : D167 → Option D168) (S28 : D160 → Option D162) (S29 : D167 → D160 → Option D168) (x0 : D167) (x1 : D160) (x2 : Int) (k : Bool → Option R) (h : R → Option R2) : (g10 S11 S14 S25 S27 S28 S29 x0 x1 x2 k).bind h = g10 S11 S14 S25 S27 S28 S29 x0 x1 x2 (fun (r0 : Bool) => (k r0).bind h) := by
  simp only [g10, ng10_10]
end Go.Fw.L16
