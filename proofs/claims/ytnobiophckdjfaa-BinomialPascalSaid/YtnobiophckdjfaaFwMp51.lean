/- Printed by an own program for this claim: the machine's code of functions, or their typed forms with their equations; no conditions. -/
import Derived.Test.YtnobiophckdjfaaFwMp51b
import Derived.Test.YtnobiophckdjfaaFwB4
set_option linter.unusedVariables false
set_option linter.unusedSimpArgs false
namespace Go.Fw.L51
open Go Go.Fw
set_option maxRecDepth 100000
set_option linter.unusedVariables false
set_option linter.unusedSimpArgs false
variable {N : Nat} {cl : Cal} {R : Type} {K : KE R}
def g6_0 (k0 : V12 → Option R) (x0 : V12) : Option R :=
k0 x0
theorem t6_0 (x0) : exec cl N c6_0 [(0, .v U10 x0)] K = (g6_0 (fun y0 => K .normal [(1, .loc U10 .no y0)]) x0) := by
 kernel_rfl
def g6_1 (S11 : Option (Bool)) (k0 : V12 → Bool → Option R) (x0 : V12) : Option R :=
(S11).bind fun r1089 =>
brB (!r1089) (k0 x0 true) (k0 x0 ((Int.tmod x0.1 (41 : Int)) == (0 : Int)))
theorem t6_1 (S11) (h11 : (ctr11 S11).holds cl) (x0) : exec cl N c6_1 [(1, .loc U10 .no x0)] K = (g6_1 S11 (fun y0 y1 => K .normal (e200 y0 y1)) x0) := by
 rw [← put_eq h11]
 kernel_rfl
def g6_2 (S11 : Option (Bool)) (k0 : Bool → Option R) (x0 : V12) (x1 : Bool) : Option R :=
(S11).bind fun r1092 =>
k0 r1092
theorem t6_2 (S11) (h11 : (ctr11 S11).holds cl) (x0 x1) : exec cl N c6_2 (e200 x0 x1) K = (g6_2 S11 (fun y0 => K .normal [(2, .v .bool y0)]) x0 x1) := by
 rw [← put_eq h11]
 kernel_rfl
theorem kp6_0 (x0) : keep [1, 2] [(2, .v .bool x0)] = (e94 x0) := by kernel_rfl
theorem kp6_1 (x0 x1) : keep [1, 2] (e200 x0 x1) = [(1, .loc U10 .no x0), (2, .dead)] := by kernel_rfl
theorem hb6_0 (x0 x1) : boolOf? (ent (e200 x0 x1) (.t 29)) = some x1 := by kernel_rfl
def g6_15 (S17 : Int → Int → V15 → Option V17) (S21 : V15 → V15 → Option (Bool)) (S22 : Int → Int → Option V16) (S23 : Int → Int → Option V17) (S24 : V15 → V15 → Option V17) (S25 : V15 → V15 → Option V17) (S26 : V15 → V15 → Option V17) (k0 : Bool → Option R) (x0 : V12) : Option R :=
let v1191 : Int := (IntKind.i64.wrap (Int.tmod x0.1 (41 : Int)))
(S22 x0.2.2.1 x0.2.2.2.1).bind fun r1192 =>
if v1191 = 0 then none else
let v1194 : Int := (Int.tmod (IntKind.i64.wrap x0.2.1) v1191)
(S23 (1 : Int) (1 : Int)).bind fun r1195 =>
(S24 r1195.1 r1192).bind fun r1196 =>
(S17 v1191 v1194 r1192).bind fun r1197 =>
(S17 v1191 (IntKind.i64.wrap (v1194 + (1 : Int))) r1192).bind fun r1199 =>
(S17 (IntKind.i64.wrap (v1191 + (1 : Int))) (IntKind.i64.wrap (v1194 + (1 : Int))) r1192).bind fun r1202 =>
(S25 r1192 r1197.1).bind fun r1203 =>
(S25 r1196.1 r1199.1).bind fun r1204 =>
(S26 r1203.1 r1204.1).bind fun r1205 =>
brB (r1197.2 == (0 : Int)) (brB (r1199.2 == (0 : Int)) (brB (r1202.2 == (0 : Int)) (brB (r1203.2 == (0 : Int)) (brB (r1204.2 == (0 : Int)) (brB (r1205.2 == (0 : Int)) ((S21 r1205.1 r1202.1).bind fun r1212 =>
k0 r1212) (k0 false)) (k0 false)) (k0 false)) (k0 false)) (k0 false)) (k0 false)
theorem t6_15 (S17) (S21) (S22) (S23) (S24) (S25) (S26) (h17 : (ctr17 S17).holds cl) (h21 : (ctr21 S21).holds cl) (h22 : (ctr22 S22).holds cl) (h23 : (ctr23 S23).holds cl) (h24 : (ctr24 S24).holds cl) (h25 : (ctr25 S25).holds cl) (h26 : (ctr26 S26).holds cl) (x0) : exec cl N c6_15 [(1, .loc U10 .no x0), (2, .dead)] K = (g6_15 S17 S21 S22 S23 S24 S25 S26 (fun y0 => exec cl N .ret [(2, .v .bool y0)] K) x0) := by
 rw [← put_eq h17]
 rw [← put_eq h21]
 rw [← put_eq h22]
 rw [← put_eq h23]
 rw [← put_eq h24]
 rw [← put_eq h25]
 rw [← put_eq h26]
 kernel_rfl
def g6_16 (S11 : Option (Bool)) (S17 : Int → Int → V15 → Option V17) (S21 : V15 → V15 → Option (Bool)) (S22 : Int → Int → Option V16) (S23 : Int → Int → Option V17) (S24 : V15 → V15 → Option V17) (S25 : V15 → V15 → Option V17) (S26 : V15 → V15 → Option V17) (k0 : Bool → Option R) (k1 : Bool → Option R) (x0 : V12) : Option R :=
(g6_0 (g6_1 S11 (fun y0 y1 => brB y1 (g6_2 S11 k0 y0 y1) ((g6_15 S17 S21 S22 S23 S24 S25 S26 k1) y0))) x0)
theorem t6_16 (S11) (S17) (S21) (S22) (S23) (S24) (S25) (S26) (h11 : (ctr11 S11).holds cl) (h17 : (ctr17 S17).holds cl) (h21 : (ctr21 S21).holds cl) (h22 : (ctr22 S22).holds cl) (h23 : (ctr23 S23).holds cl) (h24 : (ctr24 S24).holds cl) (h25 : (ctr25 S25).holds cl) (h26 : (ctr26 S26).holds cl) (x0) : exec cl N c6_16 [(0, .v U10 x0)] K = (g6_16 S11 S17 S21 S22 S23 S24 S25 S26 (fun y0 => K .ret (e94 y0)) (fun y0 => K .ret [(2, .v .bool y0)]) x0) := by
 simp only [c6_16, exec_seq, seqK_normal, seqK_exit, seqK_ret, t6_0, t6_1 S11 h11, c6_3, exec_out, exec_cond', hb6_0, Option.bind_some, brB_true, brB_false, t6_2 S11 h11, exec_ret, exec_skip, kp6_0, kp6_1, t6_15 S17 S21 S22 S23 S24 S25 S26 h17 h21 h22 h23 h24 h25 h26]
 rfl
theorem rk6_0 (y0) : retK d6 .ret (e94 y0) = some [.v .bool y0] := by kernel_rfl
theorem rk6_1 (y0) : retK d6 .ret [(2, .v .bool y0)] = some [.v .bool y0] := by kernel_rfl
def g6 (S11 : Option (Bool)) (S17 : Int → Int → V15 → Option V17) (S21 : V15 → V15 → Option (Bool)) (S22 : Int → Int → Option V16) (S23 : Int → Int → Option V17) (S24 : V15 → V15 → Option V17) (S25 : V15 → V15 → Option V17) (S26 : V15 → V15 → Option V17) (x0 : V12) (k : Bool → Option R) : Option R :=
(g6_16 S11 S17 S21 S22 S23 S24 S25 S26 k k x0)
theorem gen6 (S11) (S17) (S21) (S22) (S23) (S24) (S25) (S26) (h11 : (ctr11 S11).holds cl) (h17 : (ctr17 S17).holds cl) (h21 : (ctr21 S21).holds cl) (h22 : (ctr22 S22).holds cl) (h23 : (ctr23 S23).holds cl) (h24 : (ctr24 S24).holds cl) (h25 : (ctr25 S25).holds cl) (h26 : (ctr26 S26).holds cl) (x0) (k : List E → Option R) : exec cl N c6 [(0, .v U10 x0)] (fun e env => (retK d6 e env).bind k) = g6 S11 S17 S21 S22 S23 S24 S25 S26 x0 (fun r0 => k [.v .bool r0]) := by
 simp only [c6, t6_16 S11 S17 S21 S22 S23 S24 S25 S26 h11 h17 h21 h22 h23 h24 h25 h26, rk6_0, rk6_1, Option.bind_some]
 rfl
def ctr6 (S : V12 → Option (Bool)) : Ctr := cv1 6 U10 S fun b => [.v .bool b]
def S6 (N : Nat) (x0 : V12) : Option (Bool) := g6 (S11 N) (S17 N) (S21 N) (S22 N) (S23 N) (S24 N) (S25 N) (S26 N) x0 (fun (r0 : Bool) => some (r0))
end Go.Fw.L51
