/- Printed by an own program for this claim: the machine's code of functions, or their typed forms with their equations; no conditions. -/
import Derived.Test.YtnobiophckdjfaaFwMq51b
import Derived.Test.YtnobiophckdjfaaFwB4
set_option linter.unusedVariables false
set_option linter.unusedSimpArgs false
namespace Go.Fw.L51
open Go Go.Fw
set_option maxRecDepth 100000
set_option linter.unusedVariables false
set_option linter.unusedSimpArgs false
variable {N : Nat} {cl : Cal} {R : Type} {K : KE R}
def g25_0 (k0 : V15 → V15 → V15 → Option R) (x0 x1 : V15) : Option R :=
k0 x0 x1 (false, (([], ()), (([], ()), ())))
theorem t25_0 (x0 x1) : exec cl N c25_0 (e166 x0 x1) K = (g25_0 (fun y0 y1 y2 => K .normal (e213 y0 y1 y2)) x0 x1) := by
 kernel_rfl
def g25_1 (S54 : V15 → Option (Bool)) (k0 : V15 → V15 → V15 → Bool → Option R) (x0 x1 x2 : V15) : Option R :=
(S54 x0).bind fun r1020 =>
brB (!r1020) (k0 x0 x1 x2 true) ((S54 x1).bind fun r1021 =>
k0 x0 x1 x2 (!r1021))
theorem t25_1 (S54) (h54 : (ctr54 S54).holds cl) (x0 x1 x2) : exec cl N c25_1 (e213 x0 x1 x2) K = (g25_1 S54 (fun y0 y1 y2 y3 => K .normal (e214 y0 y1 y2 y3)) x0 x1 x2) := by
 rw [← put_eq h54]
 kernel_rfl
def g25_2 (k0 : V15 → Int → Option R) (x0 x1 x2 : V15) (x3 : Bool) : Option R :=
k0 (false, ([], ()), ([], ()), ()) (1 : Int)
theorem t25_2 (x0 x1 x2 x3) : exec cl N c25_2 (e214 x0 x1 x2 x3) K = (g25_2 (fun y0 y1 => K .normal (e101 y0 y1)) x0 x1 x2 x3) := by
 kernel_rfl
theorem kp25_0 (x0 x1) : keep [2, 3, 4, 5] (e101 x0 x1) = (e192 x0 x1) := by kernel_rfl
theorem kp25_1 (x0 x1 x2 x3) : keep [2, 3, 4, 5] (e214 x0 x1 x2 x3) = (e215 x0 x1 x2) := by kernel_rfl
theorem hb25_0 (x0 x1 x2 x3) : boolOf? (ent (e214 x0 x1 x2 x3) (.t 16)) = some x3 := by kernel_rfl
def g25_4 (S57 : V5 → V5 → V5 → V5 → Option V13) (k0 : V15 → V15 → V15 → V5 → V5 → Int → Option R) (x0 x1 x2 : V15) : Option R :=
(S57 x0.2.1 x1.2.1 x0.2.2.1 x1.2.2.1).bind fun r1023 =>
k0 x0 x1 x2 r1023.1 r1023.2.1 r1023.2.2
theorem t25_4 (S57) (h57 : (ctr57 S57).holds cl) (x0 x1 x2) : exec cl N c25_4 (e215 x0 x1 x2) K = (g25_4 S57 (fun y0 y1 y2 y3 y4 y5 => K .normal (e216 y0 y1 y2 y3 y4 y5)) x0 x1 x2) := by
 rw [← put_eq h57]
 kernel_rfl
def g25_5 (k0 : V15 → V15 → V15 → V5 → V5 → Int → Bool → Option R) (x0 x1 x2 : V15) (x3 x4 : V5) (x5 : Int) : Option R :=
k0 x0 x1 x2 x3 x4 x5 (x5 != (0 : Int))
theorem t25_5 (x0 x1 x2 x3 x4 x5) : exec cl N c25_5 (e216 x0 x1 x2 x3 x4 x5) K = (g25_5 (fun y0 y1 y2 y3 y4 y5 y6 => K .normal (e217 y0 y1 y2 y3 y4 y5 y6)) x0 x1 x2 x3 x4 x5) := by
 kernel_rfl
def g25_6 (k0 : V15 → Int → Option R) (x0 x1 x2 : V15) (x3 x4 : V5) (x5 : Int) (x6 : Bool) : Option R :=
k0 (false, ([], ()), ([], ()), ()) x5
theorem t25_6 (x0 x1 x2 x3 x4 x5 x6) : exec cl N c25_6 (e217 x0 x1 x2 x3 x4 x5 x6) K = (g25_6 (fun y0 y1 => K .normal (e101 y0 y1)) x0 x1 x2 x3 x4 x5 x6) := by
 kernel_rfl
theorem kp25_2 (x0 x1) : keep [2, 3, 4, 5, 6, 7] (e101 x0 x1) = (e218 x0 x1) := by kernel_rfl
theorem kp25_3 (x0 x1 x2 x3 x4 x5 x6) : keep [2, 3, 4, 5, 6, 7] (e217 x0 x1 x2 x3 x4 x5 x6) = (e219 x0 x1 x2 x3 x4) := by kernel_rfl
theorem hb25_1 (x0 x1 x2 x3 x4 x5 x6) : boolOf? (ent (e217 x0 x1 x2 x3 x4 x5 x6) (.t 32)) = some x6 := by kernel_rfl
def g25_8 (S52 : Bool → V5 → V5 → Option V16) (k0 : V15 → Int → Option R) (x0 x1 x2 : V15) (x3 x4 : V5) : Option R :=
(S52 (!(x0.1 == x1.1)) x3 x4).bind fun r1027 =>
k0 r1027 (0 : Int)
theorem t25_8 (S52) (h52 : (ctr52 S52).holds cl) (x0 x1 x2 x3 x4) : exec cl N c25_8 (e219 x0 x1 x2 x3 x4) K = (g25_8 S52 (fun y0 y1 => K .normal (e101 y0 y1)) x0 x1 x2 x3 x4) := by
 rw [← put_eq h52]
 kernel_rfl
def g25_9 (S52 : Bool → V5 → V5 → Option V16) (S54 : V15 → Option (Bool)) (S57 : V5 → V5 → V5 → V5 → Option V13) (k0 : V15 → Int → Option R) (k1 : V15 → Int → Option R) (k2 : V15 → Int → Option R) (x0 x1 : V15) : Option R :=
(g25_0 (g25_1 S54 (fun y0 y1 y2 y3 => brB y3 (g25_2 k0 y0 y1 y2 y3) ((g25_4 S57 (g25_5 (fun y0 y1 y2 y3 y4 y5 y6 => brB y6 (g25_6 k1 y0 y1 y2 y3 y4 y5 y6) ((g25_8 S52 k2) y0 y1 y2 y3 y4)))) y0 y1 y2))) x0 x1)
theorem t25_9 (S52) (S54) (S57) (h52 : (ctr52 S52).holds cl) (h54 : (ctr54 S54).holds cl) (h57 : (ctr57 S57).holds cl) (x0 x1) : exec cl N c25_9 (e166 x0 x1) K = (g25_9 S52 S54 S57 (fun y0 y1 => K .ret (e192 y0 y1)) (fun y0 y1 => K .ret (e218 y0 y1)) (fun y0 y1 => K .ret (e101 y0 y1)) x0 x1) := by
 simp only [c25_9, exec_seq, seqK_normal, seqK_exit, seqK_ret, t25_0, t25_1 S54 h54, c25_3, exec_out, exec_cond', hb25_0, Option.bind_some, brB_true, brB_false, t25_2, exec_ret, exec_skip, kp25_0, kp25_1, t25_4 S57 h57, t25_5, c25_7, hb25_1, t25_6, kp25_2, kp25_3, t25_8 S52 h52]
 rfl
theorem rk25_0 (y0 y1) : retK d25 .ret (e192 y0 y1) = some [.v U10 y0, .v U1 y1] := by kernel_rfl
theorem rk25_1 (y0 y1) : retK d25 .ret (e218 y0 y1) = some [.v U10 y0, .v U1 y1] := by kernel_rfl
theorem rk25_2 (y0 y1) : retK d25 .ret (e101 y0 y1) = some [.v U10 y0, .v U1 y1] := by kernel_rfl
def g25 (S52 : Bool → V5 → V5 → Option V16) (S54 : V15 → Option (Bool)) (S57 : V5 → V5 → V5 → V5 → Option V13) (x0 x1 : V15) (k : V15 → Int → Option R) : Option R :=
(g25_9 S52 S54 S57 k k k x0 x1)
theorem gen25 (S52) (S54) (S57) (h52 : (ctr52 S52).holds cl) (h54 : (ctr54 S54).holds cl) (h57 : (ctr57 S57).holds cl) (x0 x1) (k : List E → Option R) : exec cl N c25 (e166 x0 x1) (fun e env => (retK d25 e env).bind k) = g25 S52 S54 S57 x0 x1 (fun r0 r1 => k [.v U10 r0, .v U1 r1]) := by
 simp only [c25, t25_9 S52 S54 S57 h52 h54 h57, rk25_0, rk25_1, rk25_2, Option.bind_some]
 rfl
def ctr25 (S : V15 → V15 → Option V18) : Ctr := cv2 25 U10 U10 S fun b => [.v U10 b.1, .v U1 b.2]
def S25 (N : Nat) (x0 : V15) (x1 : V15) : Option V18 := g25 (S52 N) (S54 N) (S57 N) x0 x1 (fun (r0 : V15) (r1 : Int) => some (r0, r1))
def g38_0 (k0 : Int → V15 → V15 → Option R) (x0 : Int) (x1 : V15) : Option R :=
k0 x0 x1 (false, (([], ()), (([], ()), ())))
theorem t38_0 (x0 x1) : exec cl N c38_0 (e203 x0 x1) K = (g38_0 (fun y0 y1 y2 => K .normal (e220 y0 y1 y2)) x0 x1) := by
 kernel_rfl
def g38_5 (S47 : V15 → Int → Int → Int → Int → Option (Int)) (k0 : Int → V15 → V15 → Int → Bool → Option R) (x0 : Int) (x1 x2 : V15) : Option R :=
(S47 x1 x0 (200 : Int) (0 : Int) (0 : Int)).bind fun r1030 =>
k0 x0 x1 x2 r1030 (r1030 != (0 : Int))
theorem t38_5 (S47) (h47 : (ctr47 S47).holds cl) (x0 x1 x2) : exec cl N c38_5 (e220 x0 x1 x2) K = (g38_5 S47 (fun y0 y1 y2 y3 y4 => exec cl N c38_4 (e221 y0 y1 y2 y3 y4) K) x0 x1 x2) := by
 rw [← put_eq h47]
 kernel_rfl
def g38_3 (k0 : V15 → Int → Option R) (x0 : Int) (x1 x2 : V15) (x3 : Int) (x4 : Bool) : Option R :=
k0 (false, ([], ()), ([], ()), ()) x3
theorem t38_3 (x0 x1 x2 x3 x4) : exec cl N c38_3 (e221 x0 x1 x2 x3 x4) K = (g38_3 (fun y0 y1 => K .normal (e101 y0 y1)) x0 x1 x2 x3 x4) := by
 kernel_rfl
theorem kp38_0 (x0 x1) : keep [0, 3, 4, 5] (e101 x0 x1) = (e222 x0 x1) := by kernel_rfl
theorem kp38_1 (x0 x1 x2 x3 x4) : keep [0, 3, 4, 5] (e221 x0 x1 x2 x3 x4) = (e223 x0 x1 x2) := by kernel_rfl
theorem hb38_0 (x0 x1 x2 x3 x4) : boolOf? (ent (e221 x0 x1 x2 x3 x4) (.t 13)) = some x4 := by kernel_rfl
def g38_8 (S23 : Int → Int → Option V18) (S25 : V15 → V15 → Option V18) (k0 : V15 → Int → Option R) (x0 : Int) (x1 x2 : V15) : Option R :=
(S23 x0 (1 : Int)).bind fun r1034 =>
(S25 r1034.1 x1).bind fun r1035 =>
k0 r1035.1 r1035.2
theorem t38_8 (S23) (S25) (h23 : (ctr23 S23).holds cl) (h25 : (ctr25 S25).holds cl) (x0 x1 x2) : exec cl N c38_8 (e223 x0 x1 x2) K = (g38_8 S23 S25 (fun y0 y1 => exec cl N .ret (e101 y0 y1) K) x0 x1 x2) := by
 rw [← put_eq h23]
 rw [← put_eq h25]
 kernel_rfl
def g38_9 (S23 : Int → Int → Option V18) (S25 : V15 → V15 → Option V18) (S47 : V15 → Int → Int → Int → Int → Option (Int)) (k0 : V15 → Int → Option R) (k1 : V15 → Int → Option R) (x0 : Int) (x1 : V15) : Option R :=
(g38_0 (g38_5 S47 (fun y0 y1 y2 y3 y4 => brB y4 (g38_3 k0 y0 y1 y2 y3 y4) ((g38_8 S23 S25 k1) y0 y1 y2))) x0 x1)
theorem t38_9 (S23) (S25) (S47) (h23 : (ctr23 S23).holds cl) (h25 : (ctr25 S25).holds cl) (h47 : (ctr47 S47).holds cl) (x0 x1) : exec cl N c38_9 (e203 x0 x1) K = (g38_9 S23 S25 S47 (fun y0 y1 => K .ret (e222 y0 y1)) (fun y0 y1 => K .ret (e101 y0 y1)) x0 x1) := by
 simp only [c38_9, exec_seq, seqK_normal, seqK_exit, seqK_ret, t38_0, t38_5 S47 h47, c38_4, exec_out, exec_cond', hb38_0, Option.bind_some, brB_true, brB_false, t38_3, exec_ret, exec_skip, kp38_0, kp38_1, t38_8 S23 S25 h23 h25]
 rfl
theorem rk38_0 (y0 y1) : retK d38 .ret (e222 y0 y1) = some [.v U10 y0, .v U1 y1] := by kernel_rfl
theorem rk38_1 (y0 y1) : retK d38 .ret (e101 y0 y1) = some [.v U10 y0, .v U1 y1] := by kernel_rfl
def g38 (S23 : Int → Int → Option V18) (S25 : V15 → V15 → Option V18) (S47 : V15 → Int → Int → Int → Int → Option (Int)) (x0 : Int) (x1 : V15) (k : V15 → Int → Option R) : Option R :=
(g38_9 S23 S25 S47 k k x0 x1)
theorem gen38 (S23) (S25) (S47) (h23 : (ctr23 S23).holds cl) (h25 : (ctr25 S25).holds cl) (h47 : (ctr47 S47).holds cl) (x0 x1) (k : List E → Option R) : exec cl N c38 (e203 x0 x1) (fun e env => (retK d38 e env).bind k) = g38 S23 S25 S47 x0 x1 (fun r0 r1 => k [.v U10 r0, .v U1 r1]) := by
 simp only [c38, t38_9 S23 S25 S47 h23 h25 h47, rk38_0, rk38_1, Option.bind_some]
 rfl
def ctr38 (S : Int → V15 → Option V18) : Ctr := cv2 38 U1 U10 S fun b => [.v U10 b.1, .v U1 b.2]
def S38 (N : Nat) (x0 : Int) (x1 : V15) : Option V18 := g38 (S23 N) (S25 N) (S47 N) x0 x1 (fun (r0 : V15) (r1 : Int) => some (r0, r1))
def g106_0 (k0 : V0 → V5 → Option R) (x0 : V0) : Option R :=
k0 x0 ([], ())
theorem t106_0 (x0) : exec cl N c106_0 [(0, .v U2 x0)] K = (g106_0 (fun y0 y1 => K .normal (e49 y0 y1)) x0) := by
 kernel_rfl
def g106_1 (k0 : V0 → V5 → Bool → Option R) (x0 : V0) (x1 : V5) : Option R :=
k0 x0 x1 (decide ((x0.length : Int) > (200 : Int)))
theorem t106_1 (x0 x1) : exec cl N c106_1 (e49 x0 x1) K = (g106_1 (fun y0 y1 y2 => K .normal (e184 y0 y1 y2)) x0 x1) := by
 kernel_rfl
def g106_2 (k0 : V5 → Int → Option R) (x0 : V0) (x1 : V5) (x2 : Bool) : Option R :=
k0 ([], ()) (3 : Int)
theorem t106_2 (x0 x1 x2) : exec cl N c106_2 (e184 x0 x1 x2) K = (g106_2 (fun y0 y1 => K .normal (e64 y0 y1)) x0 x1 x2) := by
 kernel_rfl
theorem kp106_0 (x0 x1) : keep [0, 2, 3] (e64 x0 x1) = (e65 x0 x1) := by kernel_rfl
theorem kp106_1 (x0 x1 x2) : keep [0, 2, 3] (e184 x0 x1 x2) = (e185 x0 x1) := by kernel_rfl
theorem hb106_0 (x0 x1 x2) : boolOf? (ent (e184 x0 x1 x2) (.t 6)) = some x2 := by kernel_rfl
def g106_4 (S105 : V0 → Option V7) (k0 : V5 → Int → Option R) (x0 : V0) (x1 : V5) : Option R :=
(S105 x0).bind fun r1064 =>
k0 r1064 (0 : Int)
theorem t106_4 (S105) (h105 : (ctr105 S105).holds cl) (x0 x1) : exec cl N c106_4 (e185 x0 x1) K = (g106_4 S105 (fun y0 y1 => K .normal (e70 y0 y1)) x0 x1) := by
 rw [← put_eq h105]
 kernel_rfl
def g106_5 (S105 : V0 → Option V7) (k0 : V5 → Int → Option R) (k1 : V5 → Int → Option R) (x0 : V0) : Option R :=
(g106_0 (g106_1 (fun y0 y1 y2 => brB y2 (g106_2 k0 y0 y1 y2) ((g106_4 S105 k1) y0 y1))) x0)
theorem t106_5 (S105) (h105 : (ctr105 S105).holds cl) (x0) : exec cl N c106_5 [(0, .v U2 x0)] K = (g106_5 S105 (fun y0 y1 => K .ret (e65 y0 y1)) (fun y0 y1 => K .ret (e70 y0 y1)) x0) := by
 simp only [c106_5, exec_seq, seqK_normal, seqK_exit, seqK_ret, t106_0, t106_1, c106_3, exec_out, exec_cond', hb106_0, Option.bind_some, brB_true, brB_false, t106_2, exec_ret, exec_skip, kp106_0, kp106_1, t106_4 S105 h105]
 rfl
theorem rk106_0 (y0 y1) : retK d106 .ret (e65 y0 y1) = some [.v U4 y0, .v U1 y1] := by kernel_rfl
theorem rk106_1 (y0 y1) : retK d106 .ret (e70 y0 y1) = some [.v U4 y0, .v U1 y1] := by kernel_rfl
def g106 (S105 : V0 → Option V7) (x0 : V0) (k : V5 → Int → Option R) : Option R :=
(g106_5 S105 k k x0)
theorem gen106 (S105) (h105 : (ctr105 S105).holds cl) (x0) (k : List E → Option R) : exec cl N c106 [(0, .v U2 x0)] (fun e env => (retK d106 e env).bind k) = g106 S105 x0 (fun r0 r1 => k [.v U4 r0, .v U1 r1]) := by
 simp only [c106, t106_5 S105 h105, rk106_0, rk106_1, Option.bind_some]
 rfl
def ctr106 (S : V0 → Option V10) : Ctr := cv1 106 U2 S fun b => [.v U4 b.1, .v U1 b.2]
def S106 (N : Nat) (x0 : V0) : Option V10 := g106 (S105 N) x0 (fun (r0 : V5) (r1 : Int) => some (r0, r1))
def g92_0 (k0 : Int → Int → V5 → Option R) (x0 x1 : Int) : Option R :=
k0 x0 x1 ([], ())
theorem t92_0 (x0 x1) : exec cl N c92_0 (e98 x0 x1) K = (g92_0 (fun y0 y1 y2 => K .normal (e177 y0 y1 y2)) x0 x1) := by
 kernel_rfl
def g92_1 (k0 : Int → Int → V5 → Bool → Option R) (x0 x1 : Int) (x2 : V5) : Option R :=
brB (decide (x0 < (0 : Int))) (k0 x0 x1 x2 true) (brB (decide (x0 > (400 : Int))) (k0 x0 x1 x2 true) (brB (decide (x1 < (0 : Int))) (k0 x0 x1 x2 true) (k0 x0 x1 x2 (decide (x1 > x0)))))
theorem t92_1 (x0 x1 x2) : exec cl N c92_1 (e177 x0 x1 x2) K = (g92_1 (fun y0 y1 y2 y3 => K .normal (e178 y0 y1 y2 y3)) x0 x1 x2) := by
 kernel_rfl
def g92_2 (k0 : V5 → Int → Option R) (x0 x1 : Int) (x2 : V5) (x3 : Bool) : Option R :=
k0 ([], ()) (6 : Int)
theorem t92_2 (x0 x1 x2 x3) : exec cl N c92_2 (e178 x0 x1 x2 x3) K = (g92_2 (fun y0 y1 => K .normal (e55 y0 y1)) x0 x1 x2 x3) := by
 kernel_rfl
theorem kp92_0 (x0 x1) : keep [0, 1, 4, 5] (e55 x0 x1) = (e179 x0 x1) := by kernel_rfl
theorem kp92_1 (x0 x1 x2 x3) : keep [0, 1, 4, 5] (e178 x0 x1 x2 x3) = (e180 x0 x1 x2) := by kernel_rfl
theorem hb92_0 (x0 x1 x2 x3) : boolOf? (ent (e178 x0 x1 x2 x3) (.t 22)) = some x3 := by kernel_rfl
def g92_4 (k0 : Int → Int → V5 → V0 → Option R) (x0 x1 : Int) (x2 : V5) : Option R :=
k0 x0 x1 x2 [(1 : Int)]
theorem t92_4 (x0 x1 x2) : exec cl N c92_4 (e180 x0 x1 x2) K = (g92_4 (fun y0 y1 y2 y3 => K .normal (e181 y0 y1 y2 y3)) x0 x1 x2) := by
 kernel_rfl
def g92_5 (k0 : Int → Int → V5 → V0 → Int → Option R) (x0 x1 : Int) (x2 : V5) (x3 : V0) : Option R :=
k0 x0 x1 x2 x3 (1 : Int)
theorem t92_5 (x0 x1 x2 x3) : exec cl N c92_5 (e181 x0 x1 x2 x3) K = (g92_5 (fun y0 y1 y2 y3 y4 => K .normal (e182 y0 y1 y2 y3 y4)) x0 x1 x2 x3) := by
 kernel_rfl
theorem kp92_2 (x0 x1 x2 x3 x4) : keep [0, 1, 4, 6, 7] (e182 x0 x1 x2 x3 x4) = (e182 x0 x1 x2 x3 x4) := by kernel_rfl
def g92_6 (k0 : Int → Int → V5 → V0 → Int → Bool → Option R) (x0 x1 : Int) (x2 : V5) (x3 : V0) (x4 : Int) : Option R :=
let v1070 : Int := (IntKind.i64.wrap (x0 - x1))
k0 x0 x1 x2 x3 x4 (decide (x4 ≤ (if v1070 < x1 then v1070 else x1)))
theorem t92_6 (x0 x1 x2 x3 x4) : exec cl N c92_6 (e182 x0 x1 x2 x3 x4) K = (g92_6 (fun y0 y1 y2 y3 y4 y5 => K .normal (e224 y0 y1 y2 y3 y4 y5)) x0 x1 x2 x3 x4) := by
 kernel_rfl
theorem kp92_3 (x0 x1 x2 x3 x4 x5) : keep [0, 1, 4, 6, 7] (e224 x0 x1 x2 x3 x4 x5) = (e182 x0 x1 x2 x3 x4) := by kernel_rfl
theorem hb92_1 (x0 x1 x2 x3 x4 x5) : boolOf? (ent (e224 x0 x1 x2 x3 x4 x5) (.t 31)) = some x5 := by kernel_rfl
def g92_10 (S114 : V0 → V0 → Option V2) (S115 : V0 → V0 → Option V8) (k0 : Int → Int → V5 → V0 → Int → Option R) (x0 x1 : Int) (x2 : V5) (x3 : V0) (x4 : Int) : Option R :=
(S114 x3 [(IntKind.i64.wrap ((IntKind.i64.wrap (x0 + (1 : Int))) - x4))]).bind fun r1078 =>
(S115 r1078 [x4]).bind fun r1079 =>
k0 x0 x1 x2 r1079.1 x4
theorem t92_10 (S114) (S115) (h114 : (ctr114 S114).holds cl) (h115 : (ctr115 S115).holds cl) (x0 x1 x2 x3 x4) : exec cl N c92_10 (e182 x0 x1 x2 x3 x4) K = (g92_10 S114 S115 (fun y0 y1 y2 y3 y4 => K .normal (e182 y0 y1 y2 y3 y4)) x0 x1 x2 x3 x4) := by
 rw [← put_eq h114]
 rw [← put_eq h115]
 kernel_rfl
def g92_12 (k0 : Int → Int → V5 → V0 → Int → Option R) (x0 x1 : Int) (x2 : V5) (x3 : V0) (x4 : Int) : Option R :=
k0 x0 x1 x2 x3 (IntKind.i64.wrap (x4 + (1 : Int)))
theorem t92_12 (x0 x1 x2 x3 x4) : exec cl N c92_12 (e182 x0 x1 x2 x3 x4) K = (g92_12 (fun y0 y1 y2 y3 y4 => K .normal (e182 y0 y1 y2 y3 y4)) x0 x1 x2 x3 x4) := by
 kernel_rfl
def g92_13 (S114 : V0 → V0 → Option V2) (S115 : V0 → V0 → Option V8) (k0 : Int → Int → V5 → V0 → Int → Option R) (k1 : Int → Int → V5 → V0 → Int → Option R) (x0 x1 : Int) (x2 : V5) (x3 : V0) (x4 : Int) : Option R :=
(g92_6 (fun y0 y1 y2 y3 y4 y5 => brB y5 ((g92_10 S114 S115 ((g92_12 k0))) y0 y1 y2 y3 y4) (k1 y0 y1 y2 y3 y4)) x0 x1 x2 x3 x4)
theorem t92_13 (S114) (S115) (h114 : (ctr114 S114).holds cl) (h115 : (ctr115 S115).holds cl) (x0 x1 x2 x3 x4) : exec cl N c92_13 (e182 x0 x1 x2 x3 x4) K = (g92_13 S114 S115 (fun y0 y1 y2 y3 y4 => K .normal (e182 y0 y1 y2 y3 y4)) (fun y0 y1 y2 y3 y4 => K (.exit 0) (e182 y0 y1 y2 y3 y4)) x0 x1 x2 x3 x4) := by
 simp only [c92_13, exec_seq, seqK_normal, seqK_exit, seqK_ret, t92_6, c92_7, exec_out, exec_cond', hb92_1, Option.bind_some, brB_true, brB_false, exec_skip, exec_exit, kp92_3, c92_11, exec_block, t92_10 S114 S115 h114 h115, blockK_normal, blockK_ret, blockK_eq, kp92_2, t92_12]
 rfl
def l92_14 {R : Type} (S114 : V0 → V0 → Option V2) (S115 : V0 → V0 → Option V8) (k0 : Int → Int → V5 → V0 → Int → Option R) : Nat → Int → Int → V5 → V0 → Int → Option R
 | 0, _, _, _, _, _ => none
 | m + 1, x0, x1, x2, x3, x4 => (g92_13 S114 S115 (l92_14 S114 S115 k0 m) k0 x0 x1 x2 x3 x4)
theorem lt92_14 (S114) (S115) (h114 : (ctr114 S114).holds cl) (h115 : (ctr115 S115).holds cl) : ∀ (m) (x0 x1 x2 x3 x4), iter [0, 1, 4, 6, 7] (fun env K => exec cl N c92_13 env K) K m (e182 x0 x1 x2 x3 x4) = l92_14 S114 S115 (fun y0 y1 y2 y3 y4 => K (.exit 0) (e182 y0 y1 y2 y3 y4)) m x0 x1 x2 x3 x4 := by
 intro m
 induction m with
 | zero => intros; rfl
 | succ m ih =>
   intro x0 x1 x2 x3 x4
   simp only [iter_succ, t92_13 S114 S115 h114 h115, loopK_normal, loopK_exit, loopK_ret, kp92_2, ih]
   rfl
theorem kp92_4 (x0 x1 x2 x3 x4) : keep [4, 6] (e182 x0 x1 x2 x3 x4) = (e60 x2 x3) := by kernel_rfl
def g92_14 (N : Nat) (S114 : V0 → V0 → Option V2) (S115 : V0 → V0 → Option V8) (k0 : V5 → V0 → Option R) (x0 x1 : Int) (x2 : V5) (x3 : V0) (x4 : Int) : Option R :=
l92_14 S114 S115 (fun y0 y1 y2 y3 y4 => k0 y2 y3) N x0 x1 x2 x3 x4
theorem t92_14 (S114) (S115) (h114 : (ctr114 S114).holds cl) (h115 : (ctr115 S115).holds cl) (x0 x1 x2 x3 x4) : exec cl N c92_14 (e182 x0 x1 x2 x3 x4) K = (g92_14 N S114 S115 (fun y0 y1 => K (.exit 0) (e60 y0 y1)) x0 x1 x2 x3 x4) := by
 simp only [c92_14, exec_out, exec_loop, kp92_2, lt92_14 S114 S115 h114 h115, kp92_4]
 rfl
theorem kp92_5 (x0 x1) : keep [4, 6] (e60 x0 x1) = (e60 x0 x1) := by kernel_rfl
def g92_16 (S106 : V0 → Option V10) (k0 : V5 → Int → Option R) (x0 : V5) (x1 : V0) : Option R :=
(S106 x1).bind fun r1081 =>
k0 r1081.1 r1081.2
theorem t92_16 (S106) (h106 : (ctr106 S106).holds cl) (x0 x1) : exec cl N c92_16 (e60 x0 x1) K = (g92_16 S106 (fun y0 y1 => K .normal (e61 y0 y1)) x0 x1) := by
 rw [← put_eq h106]
 kernel_rfl
def g92_17 (N : Nat) (S106 : V0 → Option V10) (S114 : V0 → V0 → Option V2) (S115 : V0 → V0 → Option V8) (k0 : V5 → Int → Option R) (k1 : V5 → Int → Option R) (x0 x1 : Int) : Option R :=
(g92_0 (g92_1 (fun y0 y1 y2 y3 => brB y3 (g92_2 k0 y0 y1 y2 y3) ((g92_4 (g92_5 (g92_14 N S114 S115 ((g92_16 S106 k1))))) y0 y1 y2))) x0 x1)
theorem t92_17 (S106) (S114) (S115) (h106 : (ctr106 S106).holds cl) (h114 : (ctr114 S114).holds cl) (h115 : (ctr115 S115).holds cl) (x0 x1) : exec cl N c92_17 (e98 x0 x1) K = (g92_17 N S106 S114 S115 (fun y0 y1 => K .ret (e179 y0 y1)) (fun y0 y1 => K .ret (e61 y0 y1)) x0 x1) := by
 simp only [c92_17, exec_seq, seqK_normal, seqK_exit, seqK_ret, t92_0, t92_1, c92_3, exec_out, exec_cond', hb92_0, Option.bind_some, brB_true, brB_false, t92_2, exec_ret, exec_skip, kp92_0, kp92_1, t92_4, t92_5, c92_15, exec_block, t92_14 S114 S115 h114 h115, blockK_normal, blockK_ret, blockK_eq, kp92_5, t92_16 S106 h106]
 rfl
theorem rk92_0 (y0 y1) : retK d92 .ret (e179 y0 y1) = some [.v U4 y0, .v U1 y1] := by kernel_rfl
theorem rk92_1 (y0 y1) : retK d92 .ret (e61 y0 y1) = some [.v U4 y0, .v U1 y1] := by kernel_rfl
def g92 (N : Nat) (S106 : V0 → Option V10) (S114 : V0 → V0 → Option V2) (S115 : V0 → V0 → Option V8) (x0 x1 : Int) (k : V5 → Int → Option R) : Option R :=
(g92_17 N S106 S114 S115 k k x0 x1)
theorem gen92 (S106) (S114) (S115) (h106 : (ctr106 S106).holds cl) (h114 : (ctr114 S114).holds cl) (h115 : (ctr115 S115).holds cl) (x0 x1) (k : List E → Option R) : exec cl N c92 (e98 x0 x1) (fun e env => (retK d92 e env).bind k) = g92 N S106 S114 S115 x0 x1 (fun r0 r1 => k [.v U4 r0, .v U1 r1]) := by
 simp only [c92, t92_17 S106 S114 S115 h106 h114 h115, rk92_0, rk92_1, Option.bind_some]
 rfl
def ctr92 (S : Int → Int → Option V10) : Ctr := cv2 92 U1 U1 S fun b => [.v U4 b.1, .v U1 b.2]
def S92 (N : Nat) (x0 : Int) (x1 : Int) : Option V10 := g92 N (S106 N) (S114 N) (S115 N) x0 x1 (fun (r0 : V5) (r1 : Int) => some (r0, r1))
def g64_0 (k0 : Int → Int → V5 → Option R) (x0 x1 : Int) : Option R :=
k0 x0 x1 ([], ())
theorem t64_0 (x0 x1) : exec cl N c64_0 (e98 x0 x1) K = (g64_0 (fun y0 y1 y2 => K .normal (e177 y0 y1 y2)) x0 x1) := by
 kernel_rfl
def g64_1 (k0 : Int → Int → V5 → Bool → Option R) (x0 x1 : Int) (x2 : V5) : Option R :=
brB (decide (x1 < (0 : Int))) (k0 x0 x1 x2 true) (k0 x0 x1 x2 (decide (x1 > x0)))
theorem t64_1 (x0 x1 x2) : exec cl N c64_1 (e177 x0 x1 x2) K = (g64_1 (fun y0 y1 y2 y3 => K .normal (e225 y0 y1 y2 y3)) x0 x1 x2) := by
 kernel_rfl
def g64_2 (S49 : Int → Option V7) (k0 : V5 → Option R) (x0 x1 : Int) (x2 : V5) (x3 : Bool) : Option R :=
(S49 (0 : Int)).bind fun r1086 =>
k0 r1086
theorem t64_2 (S49) (h49 : (ctr49 S49).holds cl) (x0 x1 x2 x3) : exec cl N c64_2 (e225 x0 x1 x2 x3) K = (g64_2 S49 (fun y0 => K .normal [(4, .loc U4 .no y0)]) x0 x1 x2 x3) := by
 rw [← put_eq h49]
 kernel_rfl
theorem kp64_0 (x0) : keep [0, 1, 4] [(4, .loc U4 .no x0)] = (e226 x0) := by kernel_rfl
theorem kp64_1 (x0 x1 x2 x3) : keep [0, 1, 4] (e225 x0 x1 x2 x3) = (e177 x0 x1 x2) := by kernel_rfl
theorem hb64_0 (x0 x1 x2 x3) : boolOf? (ent (e225 x0 x1 x2 x3) (.t 13)) = some x3 := by kernel_rfl
def g64_6 (S92 : Int → Int → Option V10) (k0 : V5 → Option R) (x0 x1 : Int) (x2 : V5) : Option R :=
(S92 x0 x1).bind fun r1088 =>
k0 r1088.1
theorem t64_6 (S92) (h92 : (ctr92 S92).holds cl) (x0 x1 x2) : exec cl N c64_6 (e177 x0 x1 x2) K = (g64_6 S92 (fun y0 => exec cl N .ret [(4, .loc U4 .no y0)] K) x0 x1 x2) := by
 rw [← put_eq h92]
 kernel_rfl
def g64_7 (S49 : Int → Option V7) (S92 : Int → Int → Option V10) (k0 : V5 → Option R) (k1 : V5 → Option R) (x0 x1 : Int) : Option R :=
(g64_0 (g64_1 (fun y0 y1 y2 y3 => brB y3 (g64_2 S49 k0 y0 y1 y2 y3) ((g64_6 S92 k1) y0 y1 y2))) x0 x1)
theorem t64_7 (S49) (S92) (h49 : (ctr49 S49).holds cl) (h92 : (ctr92 S92).holds cl) (x0 x1) : exec cl N c64_7 (e98 x0 x1) K = (g64_7 S49 S92 (fun y0 => K .ret (e226 y0)) (fun y0 => K .ret [(4, .loc U4 .no y0)]) x0 x1) := by
 simp only [c64_7, exec_seq, seqK_normal, seqK_exit, seqK_ret, t64_0, t64_1, c64_3, exec_out, exec_cond', hb64_0, Option.bind_some, brB_true, brB_false, t64_2 S49 h49, exec_ret, exec_skip, kp64_0, kp64_1, t64_6 S92 h92]
 rfl
theorem rk64_0 (y0) : retK d64 .ret (e226 y0) = some [.v U4 y0] := by kernel_rfl
theorem rk64_1 (y0) : retK d64 .ret [(4, .loc U4 .no y0)] = some [.v U4 y0] := by kernel_rfl
def g64 (S49 : Int → Option V7) (S92 : Int → Int → Option V10) (x0 x1 : Int) (k : V5 → Option R) : Option R :=
(g64_7 S49 S92 k k x0 x1)
theorem gen64 (S49) (S92) (h49 : (ctr49 S49).holds cl) (h92 : (ctr92 S92).holds cl) (x0 x1) (k : List E → Option R) : exec cl N c64 (e98 x0 x1) (fun e env => (retK d64 e env).bind k) = g64 S49 S92 x0 x1 (fun r0 => k [.v U4 r0]) := by
 simp only [c64, t64_7 S49 S92 h49 h92, rk64_0, rk64_1, Option.bind_some]
 rfl
def ctr64 (S : Int → Int → Option V7) : Ctr := cv2 64 U1 U1 S fun b => [.v U4 b]
def S64 (N : Nat) (x0 : Int) (x1 : Int) : Option V7 := g64 (S49 N) (S92 N) x0 x1 (fun (r0 : V5) => some (r0))
def g103_0 (k0 : V5 → V5 → V5 → Option R) (x0 x1 : V5) : Option R :=
k0 x0 x1 ([], ())
theorem t103_0 (x0 x1) : exec cl N c103_0 (e52 x0 x1) K = (g103_0 (fun y0 y1 y2 => K .normal (e53 y0 y1 y2)) x0 x1) := by
 kernel_rfl
def g103_1 (S75 : V5 → Option (Bool)) (k0 : V5 → V5 → V5 → Bool → Option R) (x0 x1 x2 : V5) : Option R :=
(S75 x0).bind fun r1097 =>
brB (!r1097) (k0 x0 x1 x2 true) ((S75 x1).bind fun r1098 =>
k0 x0 x1 x2 (!r1098))
theorem t103_1 (S75) (h75 : (ctr75 S75).holds cl) (x0 x1 x2) : exec cl N c103_1 (e53 x0 x1 x2) K = (g103_1 S75 (fun y0 y1 y2 y3 => K .normal (e176 y0 y1 y2 y3)) x0 x1 x2) := by
 rw [← put_eq h75]
 kernel_rfl
def g103_2 (k0 : V5 → Int → Option R) (x0 x1 x2 : V5) (x3 : Bool) : Option R :=
k0 ([], ()) (1 : Int)
theorem t103_2 (x0 x1 x2 x3) : exec cl N c103_2 (e176 x0 x1 x2 x3) K = (g103_2 (fun y0 y1 => K .normal (e55 y0 y1)) x0 x1 x2 x3) := by
 kernel_rfl
theorem kp103_0 (x0 x1) : keep [2, 3, 4, 5] (e55 x0 x1) = (e56 x0 x1) := by kernel_rfl
theorem kp103_1 (x0 x1 x2 x3) : keep [2, 3, 4, 5] (e176 x0 x1 x2 x3) = (e57 x0 x1 x2) := by kernel_rfl
theorem hb103_0 (x0 x1 x2 x3) : boolOf? (ent (e176 x0 x1 x2 x3) (.t 13)) = some x3 := by kernel_rfl
def g103_4 (S106 : V0 → Option V10) (S114 : V0 → V0 → Option V2) (k0 : V5 → Int → Option R) (x0 x1 x2 : V5) : Option R :=
(S114 x0.1 x1.1).bind fun r1099 =>
(S106 r1099).bind fun r1100 =>
k0 r1100.1 r1100.2
theorem t103_4 (S106) (S114) (h106 : (ctr106 S106).holds cl) (h114 : (ctr114 S114).holds cl) (x0 x1 x2) : exec cl N c103_4 (e57 x0 x1 x2) K = (g103_4 S106 S114 (fun y0 y1 => K .normal (e61 y0 y1)) x0 x1 x2) := by
 rw [← put_eq h106]
 rw [← put_eq h114]
 kernel_rfl
def g103_5 (S75 : V5 → Option (Bool)) (S106 : V0 → Option V10) (S114 : V0 → V0 → Option V2) (k0 : V5 → Int → Option R) (k1 : V5 → Int → Option R) (x0 x1 : V5) : Option R :=
(g103_0 (g103_1 S75 (fun y0 y1 y2 y3 => brB y3 (g103_2 k0 y0 y1 y2 y3) ((g103_4 S106 S114 k1) y0 y1 y2))) x0 x1)
theorem t103_5 (S75) (S106) (S114) (h75 : (ctr75 S75).holds cl) (h106 : (ctr106 S106).holds cl) (h114 : (ctr114 S114).holds cl) (x0 x1) : exec cl N c103_5 (e52 x0 x1) K = (g103_5 S75 S106 S114 (fun y0 y1 => K .ret (e56 y0 y1)) (fun y0 y1 => K .ret (e61 y0 y1)) x0 x1) := by
 simp only [c103_5, exec_seq, seqK_normal, seqK_exit, seqK_ret, t103_0, t103_1 S75 h75, c103_3, exec_out, exec_cond', hb103_0, Option.bind_some, brB_true, brB_false, t103_2, exec_ret, exec_skip, kp103_0, kp103_1, t103_4 S106 S114 h106 h114]
 rfl
theorem rk103_0 (y0 y1) : retK d103 .ret (e56 y0 y1) = some [.v U4 y0, .v U1 y1] := by kernel_rfl
theorem rk103_1 (y0 y1) : retK d103 .ret (e61 y0 y1) = some [.v U4 y0, .v U1 y1] := by kernel_rfl
def g103 (S75 : V5 → Option (Bool)) (S106 : V0 → Option V10) (S114 : V0 → V0 → Option V2) (x0 x1 : V5) (k : V5 → Int → Option R) : Option R :=
(g103_5 S75 S106 S114 k k x0 x1)
theorem gen103 (S75) (S106) (S114) (h75 : (ctr75 S75).holds cl) (h106 : (ctr106 S106).holds cl) (h114 : (ctr114 S114).holds cl) (x0 x1) (k : List E → Option R) : exec cl N c103 (e52 x0 x1) (fun e env => (retK d103 e env).bind k) = g103 S75 S106 S114 x0 x1 (fun r0 r1 => k [.v U4 r0, .v U1 r1]) := by
 simp only [c103, t103_5 S75 S106 S114 h75 h106 h114, rk103_0, rk103_1, Option.bind_some]
 rfl
def ctr103 (S : V5 → V5 → Option V10) : Ctr := cv2 103 U4 U4 S fun b => [.v U4 b.1, .v U1 b.2]
def S103 (N : Nat) (x0 : V5) (x1 : V5) : Option V10 := g103 (S75 N) (S106 N) (S114 N) x0 x1 (fun (r0 : V5) (r1 : Int) => some (r0, r1))
def g78_3 (S103 : V5 → V5 → Option V10) (k0 : V5 → Option R) (x0 x1 : V5) : Option R :=
(S103 x0 x1).bind fun r1104 =>
k0 r1104.1
theorem t78_3 (S103) (h103 : (ctr103 S103).holds cl) (x0 x1) : exec cl N c78_3 (e52 x0 x1) K = (g78_3 S103 (fun y0 => exec cl N .ret [(4, .loc U4 .no y0)] K) x0 x1) := by
 rw [← put_eq h103]
 kernel_rfl
def g78_3b (S103 : V5 → V5 → Option V10) (k0 : V5 → Option R) (x0 x1 : V5) : Option R :=
(g78_3 S103 k0 x0 x1)
theorem t78_3b (S103) (h103 : (ctr103 S103).holds cl) (x0 x1) : exec cl N c78_3 (e52 x0 x1) K = (g78_3b S103 (fun y0 => K .ret [(4, .loc U4 .no y0)]) x0 x1) := by
 simp only [exec_seq, seqK_normal, seqK_exit, seqK_ret, t78_3 S103 h103, exec_ret]
 rfl
theorem rk78_0 (y0) : retK d78 .ret [(4, .loc U4 .no y0)] = some [.v U4 y0] := by kernel_rfl
def g78 (S103 : V5 → V5 → Option V10) (x0 x1 : V5) (k : V5 → Option R) : Option R :=
(g78_3b S103 k x0 x1)
theorem gen78 (S103) (h103 : (ctr103 S103).holds cl) (x0 x1) (k : List E → Option R) : exec cl N c78 (e52 x0 x1) (fun e env => (retK d78 e env).bind k) = g78 S103 x0 x1 (fun r0 => k [.v U4 r0]) := by
 simp only [c78, t78_3b S103 h103, rk78_0, Option.bind_some]
 rfl
def ctr78 (S : V5 → V5 → Option V7) : Ctr := cv2 78 U4 U4 S fun b => [.v U4 b]
def S78 (N : Nat) (x0 : V5) (x1 : V5) : Option V7 := g78 (S103 N) x0 x1 (fun (r0 : V5) => some (r0))
def g46_12 (S49 : Int → Option V7) (k0 : Int → V5 → V5 → V5 → Option R) (x0 x1 : Int) : Option R :=
(S49 (1 : Int)).bind fun r1107 =>
(S49 x0).bind fun r1108 =>
k0 x1 ([], ()) r1107 r1108
theorem t46_12 (S49) (h49 : (ctr49 S49).holds cl) (x0 x1) : exec cl N c46_12 (e98 x0 x1) K = (g46_12 S49 (fun y0 y1 y2 y3 => exec cl N (.seq (.seq c46_2 c46_10) (.seq c46_11 .ret)) (e227 y0 y1 y2 y3) K) x0 x1) := by
 rw [← put_eq h49]
 kernel_rfl
def g46_2 (k0 : V5 → V5 → V5 → Int → Int → Option R) (x0 : Int) (x1 x2 x3 : V5) : Option R :=
k0 x1 x2 x3 x0 (0 : Int)
theorem t46_2 (x0 x1 x2 x3) : exec cl N c46_2 (e227 x0 x1 x2 x3) K = (g46_2 (fun y0 y1 y2 y3 y4 => K .normal (e228 y0 y1 y2 y3 y4)) x0 x1 x2 x3) := by
 kernel_rfl
theorem kp46_0 (x0 x1 x2 x3 x4) : keep [4, 5, 6, 10, 11] (e228 x0 x1 x2 x3 x4) = (e228 x0 x1 x2 x3 x4) := by kernel_rfl
def g46_3 (k0 : V5 → V5 → V5 → Int → Int → Bool → Option R) (x0 x1 x2 : V5) (x3 x4 : Int) : Option R :=
k0 x0 x1 x2 x3 x4 (decide (x4 < x3))
theorem t46_3 (x0 x1 x2 x3 x4) : exec cl N c46_3 (e228 x0 x1 x2 x3 x4) K = (g46_3 (fun y0 y1 y2 y3 y4 y5 => K .normal (e229 y0 y1 y2 y3 y4 y5)) x0 x1 x2 x3 x4) := by
 kernel_rfl
theorem kp46_1 (x0 x1 x2 x3 x4 x5) : keep [4, 5, 6, 10, 11] (e229 x0 x1 x2 x3 x4 x5) = (e228 x0 x1 x2 x3 x4) := by kernel_rfl
theorem hb46_0 (x0 x1 x2 x3 x4 x5) : boolOf? (ent (e229 x0 x1 x2 x3 x4 x5) (.t 12)) = some x5 := by kernel_rfl
def g46_5 (S78 : V5 → V5 → Option V7) (k0 : V5 → V5 → V5 → Int → Int → Option R) (x0 x1 x2 : V5) (x3 x4 : Int) : Option R :=
(S78 x1 x2).bind fun r1110 =>
k0 x0 r1110 x2 x3 x4
theorem t46_5 (S78) (h78 : (ctr78 S78).holds cl) (x0 x1 x2 x3 x4) : exec cl N c46_5 (e228 x0 x1 x2 x3 x4) K = (g46_5 S78 (fun y0 y1 y2 y3 y4 => K .normal (e228 y0 y1 y2 y3 y4)) x0 x1 x2 x3 x4) := by
 rw [← put_eq h78]
 kernel_rfl
def g46_7 (k0 : V5 → V5 → V5 → Int → Int → Option R) (x0 x1 x2 : V5) (x3 x4 : Int) : Option R :=
k0 x0 x1 x2 x3 (IntKind.i64.wrap (x4 + (1 : Int)))
theorem t46_7 (x0 x1 x2 x3 x4) : exec cl N c46_7 (e228 x0 x1 x2 x3 x4) K = (g46_7 (fun y0 y1 y2 y3 y4 => K .normal (e228 y0 y1 y2 y3 y4)) x0 x1 x2 x3 x4) := by
 kernel_rfl
def g46_8 (S78 : V5 → V5 → Option V7) (k0 : V5 → V5 → V5 → Int → Int → Option R) (k1 : V5 → V5 → V5 → Int → Int → Option R) (x0 x1 x2 : V5) (x3 x4 : Int) : Option R :=
(g46_3 (fun y0 y1 y2 y3 y4 y5 => brB y5 ((g46_5 S78 ((g46_7 k0))) y0 y1 y2 y3 y4) (k1 y0 y1 y2 y3 y4)) x0 x1 x2 x3 x4)
theorem t46_8 (S78) (h78 : (ctr78 S78).holds cl) (x0 x1 x2 x3 x4) : exec cl N c46_8 (e228 x0 x1 x2 x3 x4) K = (g46_8 S78 (fun y0 y1 y2 y3 y4 => K .normal (e228 y0 y1 y2 y3 y4)) (fun y0 y1 y2 y3 y4 => K (.exit 0) (e228 y0 y1 y2 y3 y4)) x0 x1 x2 x3 x4) := by
 simp only [c46_8, exec_seq, seqK_normal, seqK_exit, seqK_ret, t46_3, c46_4, exec_out, exec_cond', hb46_0, Option.bind_some, brB_true, brB_false, exec_skip, exec_exit, kp46_1, c46_6, exec_block, t46_5 S78 h78, blockK_normal, blockK_ret, blockK_eq, kp46_0, t46_7]
 rfl
def l46_9 {R : Type} (S78 : V5 → V5 → Option V7) (k0 : V5 → V5 → V5 → Int → Int → Option R) : Nat → V5 → V5 → V5 → Int → Int → Option R
 | 0, _, _, _, _, _ => none
 | m + 1, x0, x1, x2, x3, x4 => (g46_8 S78 (l46_9 S78 k0 m) k0 x0 x1 x2 x3 x4)
theorem lt46_9 (S78) (h78 : (ctr78 S78).holds cl) : ∀ (m) (x0 x1 x2 x3 x4), iter [4, 5, 6, 10, 11] (fun env K => exec cl N c46_8 env K) K m (e228 x0 x1 x2 x3 x4) = l46_9 S78 (fun y0 y1 y2 y3 y4 => K (.exit 0) (e228 y0 y1 y2 y3 y4)) m x0 x1 x2 x3 x4 := by
 intro m
 induction m with
 | zero => intros; rfl
 | succ m ih =>
   intro x0 x1 x2 x3 x4
   simp only [iter_succ, t46_8 S78 h78, loopK_normal, loopK_exit, loopK_ret, kp46_0, ih]
   rfl
theorem kp46_2 (x0 x1 x2 x3 x4) : keep [4, 5] (e228 x0 x1 x2 x3 x4) = (e189 x0 x1) := by kernel_rfl
def g46_9 (N : Nat) (S78 : V5 → V5 → Option V7) (k0 : V5 → V5 → Option R) (x0 x1 x2 : V5) (x3 x4 : Int) : Option R :=
l46_9 S78 (fun y0 y1 y2 y3 y4 => k0 y0 y1) N x0 x1 x2 x3 x4
theorem t46_9 (S78) (h78 : (ctr78 S78).holds cl) (x0 x1 x2 x3 x4) : exec cl N c46_9 (e228 x0 x1 x2 x3 x4) K = (g46_9 N S78 (fun y0 y1 => K (.exit 0) (e189 y0 y1)) x0 x1 x2 x3 x4) := by
 simp only [c46_9, exec_out, exec_loop, kp46_0, lt46_9 S78 h78, kp46_2]
 rfl
theorem kp46_3 (x0 x1) : keep [4, 5] (e189 x0 x1) = (e189 x0 x1) := by kernel_rfl
def g46_11 (k0 : V5 → Option R) (x0 x1 : V5) : Option R :=
k0 x1
theorem t46_11 (x0 x1) : exec cl N c46_11 (e189 x0 x1) K = (g46_11 (fun y0 => K .normal [(4, .loc U4 .no y0)]) x0 x1) := by
 kernel_rfl
def g46_12b (N : Nat) (S49 : Int → Option V7) (S78 : V5 → V5 → Option V7) (k0 : V5 → Option R) (x0 x1 : Int) : Option R :=
(g46_12 S49 (g46_2 (g46_9 N S78 ((g46_11 k0)))) x0 x1)
theorem t46_12b (S49) (S78) (h49 : (ctr49 S49).holds cl) (h78 : (ctr78 S78).holds cl) (x0 x1) : exec cl N c46_12 (e98 x0 x1) K = (g46_12b N S49 S78 (fun y0 => K .ret [(4, .loc U4 .no y0)]) x0 x1) := by
 simp only [exec_seq, seqK_normal, seqK_exit, seqK_ret, t46_12 S49 h49, t46_2, c46_10, exec_out, exec_block, t46_9 S78 h78, blockK_normal, blockK_ret, blockK_eq, kp46_3, t46_11, exec_ret]
 rfl
theorem rk46_0 (y0) : retK d46 .ret [(4, .loc U4 .no y0)] = some [.v U4 y0] := by kernel_rfl
def g46 (N : Nat) (S49 : Int → Option V7) (S78 : V5 → V5 → Option V7) (x0 x1 : Int) (k : V5 → Option R) : Option R :=
(g46_12b N S49 S78 k x0 x1)
theorem gen46 (S49) (S78) (h49 : (ctr49 S49).holds cl) (h78 : (ctr78 S78).holds cl) (x0 x1) (k : List E → Option R) : exec cl N c46 (e98 x0 x1) (fun e env => (retK d46 e env).bind k) = g46 N S49 S78 x0 x1 (fun r0 => k [.v U4 r0]) := by
 simp only [c46, t46_12b S49 S78 h49 h78, rk46_0, Option.bind_some]
 rfl
def ctr46 (S : Int → Int → Option V7) : Ctr := cv2 46 U1 U1 S fun b => [.v U4 b]
def S46 (N : Nat) (x0 : Int) (x1 : Int) : Option V7 := g46 N (S49 N) (S78 N) x0 x1 (fun (r0 : V5) => some (r0))
def g45_2 (S46 : Int → Int → Option V7) (S64 : Int → Int → Option V7) (S78 : V5 → V5 → Option V7) (k0 : V5 → Option R) (x0 x1 x2 x3 : Int) : Option R :=
(S64 x0 x1).bind fun r1118 =>
(S46 x2 x1).bind fun r1119 =>
(S46 (IntKind.i64.wrap (x3 - x2)) (IntKind.i64.wrap (x0 - x1))).bind fun r1122 =>
(S78 r1119 r1122).bind fun r1123 =>
(S78 r1118 r1123).bind fun r1124 =>
k0 r1124
theorem t45_2 (S46) (S64) (S78) (h46 : (ctr46 S46).holds cl) (h64 : (ctr64 S64).holds cl) (h78 : (ctr78 S78).holds cl) (x0 x1 x2 x3) : exec cl N c45_2 (e230 x0 x1 x2 x3) K = (g45_2 S46 S64 S78 (fun y0 => exec cl N .ret [(8, .loc U4 .no y0)] K) x0 x1 x2 x3) := by
 rw [← put_eq h46]
 rw [← put_eq h64]
 rw [← put_eq h78]
 kernel_rfl
def g45_2b (S46 : Int → Int → Option V7) (S64 : Int → Int → Option V7) (S78 : V5 → V5 → Option V7) (k0 : V5 → Option R) (x0 x1 x2 x3 : Int) : Option R :=
(g45_2 S46 S64 S78 k0 x0 x1 x2 x3)
theorem t45_2b (S46) (S64) (S78) (h46 : (ctr46 S46).holds cl) (h64 : (ctr64 S64).holds cl) (h78 : (ctr78 S78).holds cl) (x0 x1 x2 x3) : exec cl N c45_2 (e230 x0 x1 x2 x3) K = (g45_2b S46 S64 S78 (fun y0 => K .ret [(8, .loc U4 .no y0)]) x0 x1 x2 x3) := by
 simp only [exec_seq, seqK_normal, seqK_exit, seqK_ret, t45_2 S46 S64 S78 h46 h64 h78, exec_ret]
 rfl
theorem rk45_0 (y0) : retK d45 .ret [(8, .loc U4 .no y0)] = some [.v U4 y0] := by kernel_rfl
def g45 (S46 : Int → Int → Option V7) (S64 : Int → Int → Option V7) (S78 : V5 → V5 → Option V7) (x0 x1 x2 x3 : Int) (k : V5 → Option R) : Option R :=
(g45_2b S46 S64 S78 k x0 x1 x2 x3)
theorem gen45 (S46) (S64) (S78) (h46 : (ctr46 S46).holds cl) (h64 : (ctr64 S64).holds cl) (h78 : (ctr78 S78).holds cl) (x0 x1 x2 x3) (k : List E → Option R) : exec cl N c45 (e230 x0 x1 x2 x3) (fun e env => (retK d45 e env).bind k) = g45 S46 S64 S78 x0 x1 x2 x3 (fun r0 => k [.v U4 r0]) := by
 simp only [c45, t45_2b S46 S64 S78 h46 h64 h78, rk45_0, Option.bind_some]
 rfl
def ctr45 (S : Int → Int → Int → Int → Option V7) : Ctr := cv4 45 U1 U1 U1 U1 S fun b => [.v U4 b]
def S45 (N : Nat) (x0 : Int) (x1 : Int) (x2 : Int) (x3 : Int) : Option V7 := g45 (S46 N) (S64 N) (S78 N) x0 x1 x2 x3 (fun (r0 : V5) => some (r0))
def g34_20 (S43 : Int → Int → Int → Int → V15 → Option V4) (k0 : Int → Int → Int → Int → Option R) (x0 : Int) (x1 : V15) : Option R :=
(S43 x0 (0 : Int) (200 : Int) (0 : Int) x1).bind fun r1132 =>
k0 x0 r1132.1 r1132.2.1 r1132.2.2
theorem t34_20 (S43) (h43 : (ctr43 S43).holds cl) (x0 x1) : exec cl N c34_20 (e203 x0 x1) K = (g34_20 S43 (fun y0 y1 y2 y3 => exec cl N (.seq (.seq c34_2 c34_4) (.seq c34_5 (.seq (.seq c34_6 c34_18) (.seq c34_19 .ret)))) [(0, .v U1 y0), (6, .v U1 y1), (7, .v U1 y2), (8, .v U1 y3)] K) x0 x1) := by
 rw [← put_eq h43]
 kernel_rfl
def g34_2 (k0 : Int → Int → Int → Int → Bool → Option R) (x0 x1 x2 x3 : Int) : Option R :=
k0 x0 x1 x2 x3 (x3 != (0 : Int))
theorem t34_2 (x0 x1 x2 x3) : exec cl N c34_2 [(0, .v U1 x0), (6, .v U1 x1), (7, .v U1 x2), (8, .v U1 x3)] K = (g34_2 (fun y0 y1 y2 y3 y4 => K .normal (e231 y0 y1 y2 y3 y4)) x0 x1 x2 x3) := by
 kernel_rfl
def g34_3 (k0 : Int → Int → Option R) (x0 x1 x2 x3 : Int) (x4 : Bool) : Option R :=
k0 (0 : Int) x3
theorem t34_3 (x0 x1 x2 x3 x4) : exec cl N c34_3 (e231 x0 x1 x2 x3 x4) K = (g34_3 (fun y0 y1 => K .normal (e232 y0 y1)) x0 x1 x2 x3 x4) := by
 kernel_rfl
theorem kp34_0 (x0 x1) : keep [0, 4, 5, 6, 7] (e232 x0 x1) = (e233 x0 x1) := by kernel_rfl
theorem kp34_1 (x0 x1 x2 x3 x4) : keep [0, 4, 5, 6, 7] (e231 x0 x1 x2 x3 x4) = [(0, .v U1 x0), (4, .dead), (5, .dead), (6, .v U1 x1), (7, .v U1 x2)] := by kernel_rfl
theorem hb34_0 (x0 x1 x2 x3 x4) : boolOf? (ent (e231 x0 x1 x2 x3 x4) (.t 21)) = some x4 := by kernel_rfl
def g34_5 (S45 : Int → Int → Int → Int → Option V7) (k0 : Int → Int → Int → Int → V5 → Option R) (x0 x1 x2 : Int) : Option R :=
(S45 x0 (0 : Int) x1 x2).bind fun r1134 =>
k0 x0 x1 x2 (0 : Int) r1134
theorem t34_5 (S45) (h45 : (ctr45 S45).holds cl) (x0 x1 x2) : exec cl N c34_5 [(0, .v U1 x0), (4, .dead), (5, .dead), (6, .v U1 x1), (7, .v U1 x2)] K = (g34_5 S45 (fun y0 y1 y2 y3 y4 => K .normal [(0, .v U1 y0), (6, .v U1 y1), (7, .v U1 y2), (9, .v U1 y3), (10, .loc U4 .no y4)]) x0 x1 x2) := by
 rw [← put_eq h45]
 kernel_rfl
def g34_6 (k0 : Int → Int → Int → Int → V5 → Int → Option R) (x0 x1 x2 x3 : Int) (x4 : V5) : Option R :=
k0 x0 x1 x2 x3 x4 (1 : Int)
theorem t34_6 (x0 x1 x2 x3 x4) : exec cl N c34_6 [(0, .v U1 x0), (6, .v U1 x1), (7, .v U1 x2), (9, .v U1 x3), (10, .loc U4 .no x4)] K = (g34_6 (fun y0 y1 y2 y3 y4 y5 => K .normal (e234 y0 y1 y2 y3 y4 y5)) x0 x1 x2 x3 x4) := by
 kernel_rfl
theorem kp34_2 (x0 x1 x2 x3 x4 x5) : keep [0, 6, 7, 9, 10, 11] (e234 x0 x1 x2 x3 x4 x5) = (e234 x0 x1 x2 x3 x4 x5) := by kernel_rfl
def g34_7 (k0 : Int → Int → Int → Int → V5 → Int → Bool → Option R) (x0 x1 x2 x3 : Int) (x4 : V5) (x5 : Int) : Option R :=
k0 x0 x1 x2 x3 x4 x5 (decide (x5 ≤ x0))
theorem t34_7 (x0 x1 x2 x3 x4 x5) : exec cl N c34_7 (e234 x0 x1 x2 x3 x4 x5) K = (g34_7 (fun y0 y1 y2 y3 y4 y5 y6 => K .normal (e235 y0 y1 y2 y3 y4 y5 y6)) x0 x1 x2 x3 x4 x5) := by
 kernel_rfl
theorem kp34_3 (x0 x1 x2 x3 x4 x5 x6) : keep [0, 6, 7, 9, 10, 11] (e235 x0 x1 x2 x3 x4 x5 x6) = (e234 x0 x1 x2 x3 x4 x5) := by kernel_rfl
theorem hb34_1 (x0 x1 x2 x3 x4 x5 x6) : boolOf? (ent (e235 x0 x1 x2 x3 x4 x5 x6) (.t 29)) = some x6 := by kernel_rfl
def g34_13 (S45 : Int → Int → Int → Int → Option V7) (S69 : V5 → V5 → Option (Int)) (k0 : Int → Int → Int → Int → V5 → Int → V5 → Bool → Option R) (x0 x1 x2 x3 : Int) (x4 : V5) (x5 : Int) : Option R :=
(S45 x0 x5 x1 x2).bind fun r1137 =>
(S69 r1137 x4).bind fun r1138 =>
k0 x0 x1 x2 x3 x4 x5 r1137 (decide (r1138 > (0 : Int)))
theorem t34_13 (S45) (S69) (h45 : (ctr45 S45).holds cl) (h69 : (ctr69 S69).holds cl) (x0 x1 x2 x3 x4 x5) : exec cl N c34_13 (e234 x0 x1 x2 x3 x4 x5) K = (g34_13 S45 S69 (fun y0 y1 y2 y3 y4 y5 y6 y7 => exec cl N c34_12 (e236 y0 y1 y2 y3 y4 y5 y6 y7) K) x0 x1 x2 x3 x4 x5) := by
 rw [← put_eq h45]
 rw [← put_eq h69]
 kernel_rfl
def g34_11 (k0 : Int → Int → Int → Int → V5 → Int → Option R) (x0 x1 x2 x3 : Int) (x4 : V5) (x5 : Int) (x6 : V5) (x7 : Bool) : Option R :=
k0 x0 x1 x2 x5 x6 x5
theorem t34_11 (x0 x1 x2 x3 x4 x5 x6 x7) : exec cl N c34_11 (e236 x0 x1 x2 x3 x4 x5 x6 x7) K = (g34_11 (fun y0 y1 y2 y3 y4 y5 => K .normal (e234 y0 y1 y2 y3 y4 y5)) x0 x1 x2 x3 x4 x5 x6 x7) := by
 kernel_rfl
theorem kp34_4 (x0 x1 x2 x3 x4 x5 x6 x7) : keep [0, 6, 7, 9, 10, 11] (e236 x0 x1 x2 x3 x4 x5 x6 x7) = (e234 x0 x1 x2 x3 x4 x5) := by kernel_rfl
theorem hb34_2 (x0 x1 x2 x3 x4 x5 x6 x7) : boolOf? (ent (e236 x0 x1 x2 x3 x4 x5 x6 x7) (.t 40)) = some x7 := by kernel_rfl
def g34_14 (S45 : Int → Int → Int → Int → Option V7) (S69 : V5 → V5 → Option (Int)) (k0 : Int → Int → Int → Int → V5 → Int → Option R) (x0 x1 x2 x3 : Int) (x4 : V5) (x5 : Int) : Option R :=
(g34_13 S45 S69 (fun y0 y1 y2 y3 y4 y5 y6 y7 => brB y7 (g34_11 k0 y0 y1 y2 y3 y4 y5 y6 y7) (k0 y0 y1 y2 y3 y4 y5)) x0 x1 x2 x3 x4 x5)
theorem t34_14 (S45) (S69) (h45 : (ctr45 S45).holds cl) (h69 : (ctr69 S69).holds cl) (x0 x1 x2 x3 x4 x5) : exec cl N c34_14 (e234 x0 x1 x2 x3 x4 x5) K = (g34_14 S45 S69 (fun y0 y1 y2 y3 y4 y5 => K .normal (e234 y0 y1 y2 y3 y4 y5)) x0 x1 x2 x3 x4 x5) := by
 simp only [c34_14, exec_out, exec_block, exec_seq, seqK_normal, seqK_exit, seqK_ret, t34_13 S45 S69 h45 h69, c34_12, exec_cond', hb34_2, Option.bind_some, brB_true, brB_false, t34_11, exec_skip, kp34_2, kp34_4, blockK_normal, blockK_ret, blockK_eq]
 rfl
def g34_15 (k0 : Int → Int → Int → Int → V5 → Int → Option R) (x0 x1 x2 x3 : Int) (x4 : V5) (x5 : Int) : Option R :=
k0 x0 x1 x2 x3 x4 (IntKind.i64.wrap (x5 + (1 : Int)))
theorem t34_15 (x0 x1 x2 x3 x4 x5) : exec cl N c34_15 (e234 x0 x1 x2 x3 x4 x5) K = (g34_15 (fun y0 y1 y2 y3 y4 y5 => K .normal (e234 y0 y1 y2 y3 y4 y5)) x0 x1 x2 x3 x4 x5) := by
 kernel_rfl
def g34_16 (S45 : Int → Int → Int → Int → Option V7) (S69 : V5 → V5 → Option (Int)) (k0 : Int → Int → Int → Int → V5 → Int → Option R) (k1 : Int → Int → Int → Int → V5 → Int → Option R) (x0 x1 x2 x3 : Int) (x4 : V5) (x5 : Int) : Option R :=
(g34_7 (fun y0 y1 y2 y3 y4 y5 y6 => brB y6 ((g34_14 S45 S69 (g34_15 k0)) y0 y1 y2 y3 y4 y5) (k1 y0 y1 y2 y3 y4 y5)) x0 x1 x2 x3 x4 x5)
theorem t34_16 (S45) (S69) (h45 : (ctr45 S45).holds cl) (h69 : (ctr69 S69).holds cl) (x0 x1 x2 x3 x4 x5) : exec cl N c34_16 (e234 x0 x1 x2 x3 x4 x5) K = (g34_16 S45 S69 (fun y0 y1 y2 y3 y4 y5 => K .normal (e234 y0 y1 y2 y3 y4 y5)) (fun y0 y1 y2 y3 y4 y5 => K (.exit 0) (e234 y0 y1 y2 y3 y4 y5)) x0 x1 x2 x3 x4 x5) := by
 simp only [c34_16, exec_seq, seqK_normal, seqK_exit, seqK_ret, t34_7, c34_8, exec_out, exec_cond', hb34_1, Option.bind_some, brB_true, brB_false, exec_skip, exec_exit, kp34_3, t34_14 S45 S69 h45 h69, t34_15]
 rfl
def l34_17 {R : Type} (S45 : Int → Int → Int → Int → Option V7) (S69 : V5 → V5 → Option (Int)) (k0 : Int → Int → Int → Int → V5 → Int → Option R) : Nat → Int → Int → Int → Int → V5 → Int → Option R
 | 0, _, _, _, _, _, _ => none
 | m + 1, x0, x1, x2, x3, x4, x5 => (g34_16 S45 S69 (l34_17 S45 S69 k0 m) k0 x0 x1 x2 x3 x4 x5)
theorem lt34_17 (S45) (S69) (h45 : (ctr45 S45).holds cl) (h69 : (ctr69 S69).holds cl) : ∀ (m) (x0 x1 x2 x3 x4 x5), iter [0, 6, 7, 9, 10, 11] (fun env K => exec cl N c34_16 env K) K m (e234 x0 x1 x2 x3 x4 x5) = l34_17 S45 S69 (fun y0 y1 y2 y3 y4 y5 => K (.exit 0) (e234 y0 y1 y2 y3 y4 y5)) m x0 x1 x2 x3 x4 x5 := by
 intro m
 induction m with
 | zero => intros; rfl
 | succ m ih =>
   intro x0 x1 x2 x3 x4 x5
   simp only [iter_succ, t34_16 S45 S69 h45 h69, loopK_normal, loopK_exit, loopK_ret, kp34_2, ih]
   rfl
theorem kp34_5 (x0 x1 x2 x3 x4 x5) : keep [9] (e234 x0 x1 x2 x3 x4 x5) = [(9, .v U1 x3)] := by kernel_rfl
def g34_17 (N : Nat) (S45 : Int → Int → Int → Int → Option V7) (S69 : V5 → V5 → Option (Int)) (k0 : Int → Option R) (x0 x1 x2 x3 : Int) (x4 : V5) (x5 : Int) : Option R :=
l34_17 S45 S69 (fun y0 y1 y2 y3 y4 y5 => k0 y3) N x0 x1 x2 x3 x4 x5
theorem t34_17 (S45) (S69) (h45 : (ctr45 S45).holds cl) (h69 : (ctr69 S69).holds cl) (x0 x1 x2 x3 x4 x5) : exec cl N c34_17 (e234 x0 x1 x2 x3 x4 x5) K = (g34_17 N S45 S69 (fun y0 => K (.exit 0) [(9, .v U1 y0)]) x0 x1 x2 x3 x4 x5) := by
 simp only [c34_17, exec_out, exec_loop, kp34_2, lt34_17 S45 S69 h45 h69, kp34_5]
 rfl
theorem kp34_6 (x0) : keep [9] [(9, .v U1 x0)] = [(9, .v U1 x0)] := by kernel_rfl
def g34_19 (k0 : Int → Int → Option R) (x0 : Int) : Option R :=
k0 x0 (0 : Int)
theorem t34_19 (x0) : exec cl N c34_19 [(9, .v U1 x0)] K = (g34_19 (fun y0 y1 => K .normal (e232 y0 y1)) x0) := by
 kernel_rfl
def g34_20b (N : Nat) (S43 : Int → Int → Int → Int → V15 → Option V4) (S45 : Int → Int → Int → Int → Option V7) (S69 : V5 → V5 → Option (Int)) (k0 : Int → Int → Option R) (k1 : Int → Int → Option R) (x0 : Int) (x1 : V15) : Option R :=
(g34_20 S43 (g34_2 (fun y0 y1 y2 y3 y4 => brB y4 (g34_3 k0 y0 y1 y2 y3 y4) ((g34_5 S45 (g34_6 (g34_17 N S45 S69 ((g34_19 k1))))) y0 y1 y2))) x0 x1)
theorem t34_20b (S43) (S45) (S69) (h43 : (ctr43 S43).holds cl) (h45 : (ctr45 S45).holds cl) (h69 : (ctr69 S69).holds cl) (x0 x1) : exec cl N c34_20 (e203 x0 x1) K = (g34_20b N S43 S45 S69 (fun y0 y1 => K .ret (e233 y0 y1)) (fun y0 y1 => K .ret (e232 y0 y1)) x0 x1) := by
 simp only [exec_seq, seqK_normal, seqK_exit, seqK_ret, t34_20 S43 h43, t34_2, c34_4, exec_out, exec_cond', hb34_0, Option.bind_some, brB_true, brB_false, t34_3, exec_ret, exec_skip, kp34_0, kp34_1, t34_5 S45 h45, t34_6, c34_18, exec_block, t34_17 S45 S69 h45 h69, blockK_normal, blockK_ret, blockK_eq, kp34_6, t34_19]
 rfl
theorem rk34_0 (y0 y1) : retK d34 .ret (e233 y0 y1) = some [.v U1 y0, .v U1 y1] := by kernel_rfl
theorem rk34_1 (y0 y1) : retK d34 .ret (e232 y0 y1) = some [.v U1 y0, .v U1 y1] := by kernel_rfl
def g34 (N : Nat) (S43 : Int → Int → Int → Int → V15 → Option V4) (S45 : Int → Int → Int → Int → Option V7) (S69 : V5 → V5 → Option (Int)) (x0 : Int) (x1 : V15) (k : Int → Int → Option R) : Option R :=
(g34_20b N S43 S45 S69 k k x0 x1)
theorem gen34 (S43) (S45) (S69) (h43 : (ctr43 S43).holds cl) (h45 : (ctr45 S45).holds cl) (h69 : (ctr69 S69).holds cl) (x0 x1) (k : List E → Option R) : exec cl N c34 (e203 x0 x1) (fun e env => (retK d34 e env).bind k) = g34 N S43 S45 S69 x0 x1 (fun r0 r1 => k [.v U1 r0, .v U1 r1]) := by
 simp only [c34, t34_20b S43 S45 S69 h43 h45 h69, rk34_0, rk34_1, Option.bind_some]
 rfl
def ctr34 (S : Int → V15 → Option V1) : Ctr := cv2 34 U1 U10 S fun b => [.v U1 b.1, .v U1 b.2]
def S34 (N : Nat) (x0 : Int) (x1 : V15) : Option V1 := g34 N (S43 N) (S45 N) (S69 N) x0 x1 (fun (r0 : Int) (r1 : Int) => some (r0, r1))
def g39_0 (k0 : Int → V15 → Option R) (x0 : Int) (x1 : V15) : Option R :=
k0 x0 x1
theorem t39_0 (x0 x1) : exec cl N c39_0 (e203 x0 x1) K = (g39_0 (fun y0 y1 => K .normal [(0, .v U1 y0), (3, .loc U10 .no y1)]) x0 x1) := by
 kernel_rfl
def g39_5 (S47 : V15 → Int → Int → Int → Int → Option (Int)) (k0 : Int → V15 → Int → Bool → Option R) (x0 : Int) (x1 : V15) : Option R :=
(S47 x1 x0 (200 : Int) (0 : Int) (0 : Int)).bind fun r1158 =>
k0 x0 x1 r1158 (r1158 != (0 : Int))
theorem t39_5 (S47) (h47 : (ctr47 S47).holds cl) (x0 x1) : exec cl N c39_5 [(0, .v U1 x0), (3, .loc U10 .no x1)] K = (g39_5 S47 (fun y0 y1 y2 y3 => exec cl N c39_4 (e237 y0 y1 y2 y3) K) x0 x1) := by
 rw [← put_eq h47]
 kernel_rfl
def g39_3 (k0 : Int → Int → Option R) (x0 : Int) (x1 : V15) (x2 : Int) (x3 : Bool) : Option R :=
k0 (0 : Int) x2
theorem t39_3 (x0 x1 x2 x3) : exec cl N c39_3 (e237 x0 x1 x2 x3) K = (g39_3 (fun y0 y1 => K .normal (e232 y0 y1)) x0 x1 x2 x3) := by
 kernel_rfl
theorem kp39_0 (x0 x1) : keep [0, 3, 4, 5] (e232 x0 x1) = (e238 x0 x1) := by kernel_rfl
theorem kp39_1 (x0 x1 x2 x3) : keep [0, 3, 4, 5] (e237 x0 x1 x2 x3) = (e239 x0 x1) := by kernel_rfl
theorem hb39_0 (x0 x1 x2 x3) : boolOf? (ent (e237 x0 x1 x2 x3) (.t 15)) = some x3 := by kernel_rfl
def g39_24 (S71 : Int → Int → V15 → Option V7) (k0 : Int → V15 → Int → V5 → Option R) (x0 : Int) (x1 : V15) : Option R :=
(S71 x0 (0 : Int) x1).bind fun r1160 =>
k0 x0 x1 (0 : Int) r1160
theorem t39_24 (S71) (h71 : (ctr71 S71).holds cl) (x0 x1) : exec cl N c39_24 (e239 x0 x1) K = (g39_24 S71 (fun y0 y1 y2 y3 => exec cl N (.seq (.seq c39_8 c39_22) (.seq c39_23 .ret)) [(0, .v U1 y0), (3, .loc U10 .no y1), (7, .v U1 y2), (8, .loc U4 .no y3)] K) x0 x1) := by
 rw [← put_eq h71]
 kernel_rfl
def g39_8 (k0 : Int → V15 → Int → V5 → Int → Option R) (x0 : Int) (x1 : V15) (x2 : Int) (x3 : V5) : Option R :=
k0 x0 x1 x2 x3 (1 : Int)
theorem t39_8 (x0 x1 x2 x3) : exec cl N c39_8 [(0, .v U1 x0), (3, .loc U10 .no x1), (7, .v U1 x2), (8, .loc U4 .no x3)] K = (g39_8 (fun y0 y1 y2 y3 y4 => K .normal (e240 y0 y1 y2 y3 y4)) x0 x1 x2 x3) := by
 kernel_rfl
theorem kp39_2 (x0 x1 x2 x3 x4) : keep [0, 3, 7, 8, 9] (e240 x0 x1 x2 x3 x4) = (e240 x0 x1 x2 x3 x4) := by kernel_rfl
def g39_9 (k0 : Int → V15 → Int → V5 → Int → Bool → Option R) (x0 : Int) (x1 : V15) (x2 : Int) (x3 : V5) (x4 : Int) : Option R :=
k0 x0 x1 x2 x3 x4 (decide (x4 ≤ x0))
theorem t39_9 (x0 x1 x2 x3 x4) : exec cl N c39_9 (e240 x0 x1 x2 x3 x4) K = (g39_9 (fun y0 y1 y2 y3 y4 y5 => K .normal (e241 y0 y1 y2 y3 y4 y5)) x0 x1 x2 x3 x4) := by
 kernel_rfl
theorem kp39_3 (x0 x1 x2 x3 x4 x5) : keep [0, 3, 7, 8, 9] (e241 x0 x1 x2 x3 x4 x5) = (e240 x0 x1 x2 x3 x4) := by kernel_rfl
theorem hb39_1 (x0 x1 x2 x3 x4 x5) : boolOf? (ent (e241 x0 x1 x2 x3 x4 x5) (.t 22)) = some x5 := by kernel_rfl
def g39_17 (S60 : V5 → V5 → Option (Int)) (S71 : Int → Int → V15 → Option V7) (k0 : Int → V15 → Int → V5 → Int → V5 → Bool → Option R) (x0 : Int) (x1 : V15) (x2 : Int) (x3 : V5) (x4 : Int) : Option R :=
(S71 x0 x4 x1).bind fun r1163 =>
(S60 r1163 x3).bind fun r1164 =>
k0 x0 x1 x2 x3 x4 r1163 (decide (r1164 > (0 : Int)))
theorem t39_17 (S60) (S71) (h60 : (ctr60 S60).holds cl) (h71 : (ctr71 S71).holds cl) (x0 x1 x2 x3 x4) : exec cl N c39_17 (e240 x0 x1 x2 x3 x4) K = (g39_17 S60 S71 (fun y0 y1 y2 y3 y4 y5 y6 => exec cl N c39_16 (e242 y0 y1 y2 y3 y4 y5 y6) K) x0 x1 x2 x3 x4) := by
 rw [← put_eq h60]
 rw [← put_eq h71]
 kernel_rfl
def g39_15 (k0 : Int → V15 → Int → V5 → Int → Option R) (x0 : Int) (x1 : V15) (x2 : Int) (x3 : V5) (x4 : Int) (x5 : V5) (x6 : Bool) : Option R :=
k0 x0 x1 x4 x5 x4
theorem t39_15 (x0 x1 x2 x3 x4 x5 x6) : exec cl N c39_15 (e242 x0 x1 x2 x3 x4 x5 x6) K = (g39_15 (fun y0 y1 y2 y3 y4 => K .normal (e240 y0 y1 y2 y3 y4)) x0 x1 x2 x3 x4 x5 x6) := by
 kernel_rfl
theorem kp39_4 (x0 x1 x2 x3 x4 x5 x6) : keep [0, 3, 7, 8, 9] (e242 x0 x1 x2 x3 x4 x5 x6) = (e240 x0 x1 x2 x3 x4) := by kernel_rfl
theorem hb39_2 (x0 x1 x2 x3 x4 x5 x6) : boolOf? (ent (e242 x0 x1 x2 x3 x4 x5 x6) (.t 32)) = some x6 := by kernel_rfl
def g39_18 (S60 : V5 → V5 → Option (Int)) (S71 : Int → Int → V15 → Option V7) (k0 : Int → V15 → Int → V5 → Int → Option R) (x0 : Int) (x1 : V15) (x2 : Int) (x3 : V5) (x4 : Int) : Option R :=
(g39_17 S60 S71 (fun y0 y1 y2 y3 y4 y5 y6 => brB y6 (g39_15 k0 y0 y1 y2 y3 y4 y5 y6) (k0 y0 y1 y2 y3 y4)) x0 x1 x2 x3 x4)
theorem t39_18 (S60) (S71) (h60 : (ctr60 S60).holds cl) (h71 : (ctr71 S71).holds cl) (x0 x1 x2 x3 x4) : exec cl N c39_18 (e240 x0 x1 x2 x3 x4) K = (g39_18 S60 S71 (fun y0 y1 y2 y3 y4 => K .normal (e240 y0 y1 y2 y3 y4)) x0 x1 x2 x3 x4) := by
 simp only [c39_18, exec_out, exec_block, exec_seq, seqK_normal, seqK_exit, seqK_ret, t39_17 S60 S71 h60 h71, c39_16, exec_cond', hb39_2, Option.bind_some, brB_true, brB_false, t39_15, exec_skip, kp39_2, kp39_4, blockK_normal, blockK_ret, blockK_eq]
 rfl
def g39_19 (k0 : Int → V15 → Int → V5 → Int → Option R) (x0 : Int) (x1 : V15) (x2 : Int) (x3 : V5) (x4 : Int) : Option R :=
k0 x0 x1 x2 x3 (IntKind.i64.wrap (x4 + (1 : Int)))
theorem t39_19 (x0 x1 x2 x3 x4) : exec cl N c39_19 (e240 x0 x1 x2 x3 x4) K = (g39_19 (fun y0 y1 y2 y3 y4 => K .normal (e240 y0 y1 y2 y3 y4)) x0 x1 x2 x3 x4) := by
 kernel_rfl
def g39_20 (S60 : V5 → V5 → Option (Int)) (S71 : Int → Int → V15 → Option V7) (k0 : Int → V15 → Int → V5 → Int → Option R) (k1 : Int → V15 → Int → V5 → Int → Option R) (x0 : Int) (x1 : V15) (x2 : Int) (x3 : V5) (x4 : Int) : Option R :=
(g39_9 (fun y0 y1 y2 y3 y4 y5 => brB y5 ((g39_18 S60 S71 (g39_19 k0)) y0 y1 y2 y3 y4) (k1 y0 y1 y2 y3 y4)) x0 x1 x2 x3 x4)
theorem t39_20 (S60) (S71) (h60 : (ctr60 S60).holds cl) (h71 : (ctr71 S71).holds cl) (x0 x1 x2 x3 x4) : exec cl N c39_20 (e240 x0 x1 x2 x3 x4) K = (g39_20 S60 S71 (fun y0 y1 y2 y3 y4 => K .normal (e240 y0 y1 y2 y3 y4)) (fun y0 y1 y2 y3 y4 => K (.exit 0) (e240 y0 y1 y2 y3 y4)) x0 x1 x2 x3 x4) := by
 simp only [c39_20, exec_seq, seqK_normal, seqK_exit, seqK_ret, t39_9, c39_10, exec_out, exec_cond', hb39_1, Option.bind_some, brB_true, brB_false, exec_skip, exec_exit, kp39_3, t39_18 S60 S71 h60 h71, t39_19]
 rfl
def l39_21 {R : Type} (S60 : V5 → V5 → Option (Int)) (S71 : Int → Int → V15 → Option V7) (k0 : Int → V15 → Int → V5 → Int → Option R) : Nat → Int → V15 → Int → V5 → Int → Option R
 | 0, _, _, _, _, _ => none
 | m + 1, x0, x1, x2, x3, x4 => (g39_20 S60 S71 (l39_21 S60 S71 k0 m) k0 x0 x1 x2 x3 x4)
theorem lt39_21 (S60) (S71) (h60 : (ctr60 S60).holds cl) (h71 : (ctr71 S71).holds cl) : ∀ (m) (x0 x1 x2 x3 x4), iter [0, 3, 7, 8, 9] (fun env K => exec cl N c39_20 env K) K m (e240 x0 x1 x2 x3 x4) = l39_21 S60 S71 (fun y0 y1 y2 y3 y4 => K (.exit 0) (e240 y0 y1 y2 y3 y4)) m x0 x1 x2 x3 x4 := by
 intro m
 induction m with
 | zero => intros; rfl
 | succ m ih =>
   intro x0 x1 x2 x3 x4
   simp only [iter_succ, t39_20 S60 S71 h60 h71, loopK_normal, loopK_exit, loopK_ret, kp39_2, ih]
   rfl
theorem kp39_5 (x0 x1 x2 x3 x4) : keep [7] (e240 x0 x1 x2 x3 x4) = [(7, .v U1 x2)] := by kernel_rfl
def g39_21 (N : Nat) (S60 : V5 → V5 → Option (Int)) (S71 : Int → Int → V15 → Option V7) (k0 : Int → Option R) (x0 : Int) (x1 : V15) (x2 : Int) (x3 : V5) (x4 : Int) : Option R :=
l39_21 S60 S71 (fun y0 y1 y2 y3 y4 => k0 y2) N x0 x1 x2 x3 x4
theorem t39_21 (S60) (S71) (h60 : (ctr60 S60).holds cl) (h71 : (ctr71 S71).holds cl) (x0 x1 x2 x3 x4) : exec cl N c39_21 (e240 x0 x1 x2 x3 x4) K = (g39_21 N S60 S71 (fun y0 => K (.exit 0) [(7, .v U1 y0)]) x0 x1 x2 x3 x4) := by
 simp only [c39_21, exec_out, exec_loop, kp39_2, lt39_21 S60 S71 h60 h71, kp39_5]
 rfl
theorem kp39_6 (x0) : keep [7] [(7, .v U1 x0)] = [(7, .v U1 x0)] := by kernel_rfl
def g39_23 (k0 : Int → Int → Option R) (x0 : Int) : Option R :=
k0 x0 (0 : Int)
theorem t39_23 (x0) : exec cl N c39_23 [(7, .v U1 x0)] K = (g39_23 (fun y0 y1 => K .normal (e232 y0 y1)) x0) := by
 kernel_rfl
def g39_25 (N : Nat) (S47 : V15 → Int → Int → Int → Int → Option (Int)) (S60 : V5 → V5 → Option (Int)) (S71 : Int → Int → V15 → Option V7) (k0 : Int → Int → Option R) (k1 : Int → Int → Option R) (x0 : Int) (x1 : V15) : Option R :=
(g39_0 (g39_5 S47 (fun y0 y1 y2 y3 => brB y3 (g39_3 k0 y0 y1 y2 y3) ((g39_24 S71 (g39_8 (g39_21 N S60 S71 ((g39_23 k1))))) y0 y1))) x0 x1)
theorem t39_25 (S47) (S60) (S71) (h47 : (ctr47 S47).holds cl) (h60 : (ctr60 S60).holds cl) (h71 : (ctr71 S71).holds cl) (x0 x1) : exec cl N c39_25 (e203 x0 x1) K = (g39_25 N S47 S60 S71 (fun y0 y1 => K .ret (e238 y0 y1)) (fun y0 y1 => K .ret (e232 y0 y1)) x0 x1) := by
 simp only [c39_25, exec_seq, seqK_normal, seqK_exit, seqK_ret, t39_0, t39_5 S47 h47, c39_4, exec_out, exec_cond', hb39_0, Option.bind_some, brB_true, brB_false, t39_3, exec_ret, exec_skip, kp39_0, kp39_1, t39_24 S71 h71, t39_8, c39_22, exec_block, t39_21 S60 S71 h60 h71, blockK_normal, blockK_ret, blockK_eq, kp39_6, t39_23]
 rfl
theorem rk39_0 (y0 y1) : retK d39 .ret (e238 y0 y1) = some [.v U1 y0, .v U1 y1] := by kernel_rfl
theorem rk39_1 (y0 y1) : retK d39 .ret (e232 y0 y1) = some [.v U1 y0, .v U1 y1] := by kernel_rfl
def g39 (N : Nat) (S47 : V15 → Int → Int → Int → Int → Option (Int)) (S60 : V5 → V5 → Option (Int)) (S71 : Int → Int → V15 → Option V7) (x0 : Int) (x1 : V15) (k : Int → Int → Option R) : Option R :=
(g39_25 N S47 S60 S71 k k x0 x1)
theorem gen39 (S47) (S60) (S71) (h47 : (ctr47 S47).holds cl) (h60 : (ctr60 S60).holds cl) (h71 : (ctr71 S71).holds cl) (x0 x1) (k : List E → Option R) : exec cl N c39 (e203 x0 x1) (fun e env => (retK d39 e env).bind k) = g39 N S47 S60 S71 x0 x1 (fun r0 r1 => k [.v U1 r0, .v U1 r1]) := by
 simp only [c39, t39_25 S47 S60 S71 h47 h60 h71, rk39_0, rk39_1, Option.bind_some]
 rfl
def ctr39 (S : Int → V15 → Option V1) : Ctr := cv2 39 U1 U10 S fun b => [.v U1 b.1, .v U1 b.2]
def S39 (N : Nat) (x0 : Int) (x1 : V15) : Option V1 := g39 N (S47 N) (S60 N) (S71 N) x0 x1 (fun (r0 : Int) (r1 : Int) => some (r0, r1))
def g21_2 (S51 : V5 → V5 → Option (Bool)) (k0 : Bool → Option R) (x0 x1 : V15) : Option R :=
brB (x0.1 == x1.1) ((S51 x0.2.1 x1.2.1).bind fun r1179 =>
brB r1179 ((S51 x0.2.2.1 x1.2.2.1).bind fun r1180 =>
k0 r1180) (k0 false)) (k0 false)
theorem t21_2 (S51) (h51 : (ctr51 S51).holds cl) (x0 x1) : exec cl N c21_2 (e166 x0 x1) K = (g21_2 S51 (fun y0 => exec cl N .ret [(4, .v .bool y0)] K) x0 x1) := by
 rw [← put_eq h51]
 kernel_rfl
def g21_2b (S51 : V5 → V5 → Option (Bool)) (k0 : Bool → Option R) (x0 x1 : V15) : Option R :=
(g21_2 S51 k0 x0 x1)
theorem t21_2b (S51) (h51 : (ctr51 S51).holds cl) (x0 x1) : exec cl N c21_2 (e166 x0 x1) K = (g21_2b S51 (fun y0 => K .ret [(4, .v .bool y0)]) x0 x1) := by
 simp only [exec_seq, seqK_normal, seqK_exit, seqK_ret, t21_2 S51 h51, exec_ret]
 rfl
theorem rk21_0 (y0) : retK d21 .ret [(4, .v .bool y0)] = some [.v .bool y0] := by kernel_rfl
def g21 (S51 : V5 → V5 → Option (Bool)) (x0 x1 : V15) (k : Bool → Option R) : Option R :=
(g21_2b S51 k x0 x1)
theorem gen21 (S51) (h51 : (ctr51 S51).holds cl) (x0 x1) (k : List E → Option R) : exec cl N c21 (e166 x0 x1) (fun e env => (retK d21 e env).bind k) = g21 S51 x0 x1 (fun r0 => k [.v .bool r0]) := by
 simp only [c21, t21_2b S51 h51, rk21_0, Option.bind_some]
 rfl
def ctr21 (S : V15 → V15 → Option (Bool)) : Ctr := cv2 21 U10 U10 S fun b => [.v .bool b]
def S21 (N : Nat) (x0 : V15) (x1 : V15) : Option (Bool) := g21 (S51 N) x0 x1 (fun (r0 : Bool) => some (r0))
def g10_0 (k0 : V6 → V15 → Option R) (x0 : V6) (x1 : V15) : Option R :=
k0 x0 x1
theorem t10_0 (x0 x1) : exec cl N c10_0 [(0, .v U8 x0), (1, .v U10 x1)] K = (g10_0 (fun y0 y1 => K .normal [(2, .loc U8 .no y0), (3, .loc U10 .no y1)]) x0 x1) := by
 kernel_rfl
def g10_1 (S11 : Option (Bool)) (S12 : V17 → Int → Option (Bool)) (S16 : Int → Option (Bool)) (k0 : V6 → V15 → Bool → Option R) (x0 : V6) (x1 : V15) : Option R :=
(S11).bind fun r1186 =>
brB (!r1186) (k0 x0 x1 true) ((S16 x0.1).bind fun r1187 =>
brB (!r1187) (k0 x0 x1 true) ((S12 [x1] (10 : Int)).bind fun r1188 =>
k0 x0 x1 (!r1188)))
theorem t10_1 (S11) (S12) (S16) (h11 : (ctr11 S11).holds cl) (h12 : (ctr12 S12).holds cl) (h16 : (ctr16 S16).holds cl) (x0 x1) : exec cl N c10_1 [(2, .loc U8 .no x0), (3, .loc U10 .no x1)] K = (g10_1 S11 S12 S16 (fun y0 y1 y2 => K .normal (e243 y0 y1 y2)) x0 x1) := by
 rw [← put_eq h11]
 rw [← put_eq h12]
 rw [← put_eq h16]
 kernel_rfl
def g10_2 (S11 : Option (Bool)) (k0 : Bool → Option R) (x0 : V6) (x1 : V15) (x2 : Bool) : Option R :=
(S11).bind fun r1189 =>
k0 r1189
theorem t10_2 (S11) (h11 : (ctr11 S11).holds cl) (x0 x1 x2) : exec cl N c10_2 (e243 x0 x1 x2) K = (g10_2 S11 (fun y0 => K .normal [(4, .v .bool y0)]) x0 x1 x2) := by
 rw [← put_eq h11]
 kernel_rfl
theorem kp10_0 (x0) : keep [2, 3, 4] [(4, .v .bool x0)] = (e244 x0) := by kernel_rfl
theorem kp10_1 (x0 x1 x2) : keep [2, 3, 4] (e243 x0 x1 x2) = [(2, .loc U8 .no x0), (3, .loc U10 .no x1), (4, .dead)] := by kernel_rfl
theorem hb10_0 (x0 x1 x2) : boolOf? (ent (e243 x0 x1 x2) (.t 30)) = some x2 := by kernel_rfl
def g10_11 (S21 : V15 → V15 → Option (Bool)) (S33 : Int → V15 → Option V18) (S34 : Int → V15 → Option V1) (S36 : Int → Int → V15 → Option V18) (S37 : Int → Int → V15 → Option V18) (S38 : Int → V15 → Option V18) (S39 : Int → V15 → Option V1) (k0 : Bool → Option R) (x0 : V6) (x1 : V15) : Option R :=
(S36 x0.1 x0.2.1 x1).bind fun r1211 =>
(S37 x0.1 x0.2.1 x1).bind fun r1212 =>
(S33 x0.1 x1).bind fun r1213 =>
(S38 x0.1 x1).bind fun r1214 =>
(S34 x0.1 x1).bind fun r1215 =>
(S39 x0.1 x1).bind fun r1216 =>
brB (r1211.2 == r1212.2) ((S21 r1211.1 r1212.1).bind fun r1218 =>
brB r1218 (brB (r1213.2 == r1214.2) ((S21 r1213.1 r1214.1).bind fun r1220 =>
brB r1220 (brB (r1215.2 == r1216.2) (k0 (r1215.1 == r1216.1)) (k0 false)) (k0 false)) (k0 false)) (k0 false)) (k0 false)
theorem t10_11 (S21) (S33) (S34) (S36) (S37) (S38) (S39) (h21 : (ctr21 S21).holds cl) (h33 : (ctr33 S33).holds cl) (h34 : (ctr34 S34).holds cl) (h36 : (ctr36 S36).holds cl) (h37 : (ctr37 S37).holds cl) (h38 : (ctr38 S38).holds cl) (h39 : (ctr39 S39).holds cl) (x0 x1) : exec cl N c10_11 [(2, .loc U8 .no x0), (3, .loc U10 .no x1), (4, .dead)] K = (g10_11 S21 S33 S34 S36 S37 S38 S39 (fun y0 => exec cl N .ret [(4, .v .bool y0)] K) x0 x1) := by
 rw [← put_eq h21]
 rw [← put_eq h33]
 rw [← put_eq h34]
 rw [← put_eq h36]
 rw [← put_eq h37]
 rw [← put_eq h38]
 rw [← put_eq h39]
 kernel_rfl
def g10_12 (S11 : Option (Bool)) (S12 : V17 → Int → Option (Bool)) (S16 : Int → Option (Bool)) (S21 : V15 → V15 → Option (Bool)) (S33 : Int → V15 → Option V18) (S34 : Int → V15 → Option V1) (S36 : Int → Int → V15 → Option V18) (S37 : Int → Int → V15 → Option V18) (S38 : Int → V15 → Option V18) (S39 : Int → V15 → Option V1) (k0 : Bool → Option R) (k1 : Bool → Option R) (x0 : V6) (x1 : V15) : Option R :=
(g10_0 (g10_1 S11 S12 S16 (fun y0 y1 y2 => brB y2 (g10_2 S11 k0 y0 y1 y2) ((g10_11 S21 S33 S34 S36 S37 S38 S39 k1) y0 y1))) x0 x1)
theorem t10_12 (S11) (S12) (S16) (S21) (S33) (S34) (S36) (S37) (S38) (S39) (h11 : (ctr11 S11).holds cl) (h12 : (ctr12 S12).holds cl) (h16 : (ctr16 S16).holds cl) (h21 : (ctr21 S21).holds cl) (h33 : (ctr33 S33).holds cl) (h34 : (ctr34 S34).holds cl) (h36 : (ctr36 S36).holds cl) (h37 : (ctr37 S37).holds cl) (h38 : (ctr38 S38).holds cl) (h39 : (ctr39 S39).holds cl) (x0 x1) : exec cl N c10_12 [(0, .v U8 x0), (1, .v U10 x1)] K = (g10_12 S11 S12 S16 S21 S33 S34 S36 S37 S38 S39 (fun y0 => K .ret (e244 y0)) (fun y0 => K .ret [(4, .v .bool y0)]) x0 x1) := by
 simp only [c10_12, exec_seq, seqK_normal, seqK_exit, seqK_ret, t10_0, t10_1 S11 S12 S16 h11 h12 h16, c10_3, exec_out, exec_cond', hb10_0, Option.bind_some, brB_true, brB_false, t10_2 S11 h11, exec_ret, exec_skip, kp10_0, kp10_1, t10_11 S21 S33 S34 S36 S37 S38 S39 h21 h33 h34 h36 h37 h38 h39]
 rfl
theorem rk10_0 (y0) : retK d10 .ret (e244 y0) = some [.v .bool y0] := by kernel_rfl
theorem rk10_1 (y0) : retK d10 .ret [(4, .v .bool y0)] = some [.v .bool y0] := by kernel_rfl
def g10 (S11 : Option (Bool)) (S12 : V17 → Int → Option (Bool)) (S16 : Int → Option (Bool)) (S21 : V15 → V15 → Option (Bool)) (S33 : Int → V15 → Option V18) (S34 : Int → V15 → Option V1) (S36 : Int → Int → V15 → Option V18) (S37 : Int → Int → V15 → Option V18) (S38 : Int → V15 → Option V18) (S39 : Int → V15 → Option V1) (x0 : V6) (x1 : V15) (k : Bool → Option R) : Option R :=
(g10_12 S11 S12 S16 S21 S33 S34 S36 S37 S38 S39 k k x0 x1)
theorem gen10 (S11) (S12) (S16) (S21) (S33) (S34) (S36) (S37) (S38) (S39) (h11 : (ctr11 S11).holds cl) (h12 : (ctr12 S12).holds cl) (h16 : (ctr16 S16).holds cl) (h21 : (ctr21 S21).holds cl) (h33 : (ctr33 S33).holds cl) (h34 : (ctr34 S34).holds cl) (h36 : (ctr36 S36).holds cl) (h37 : (ctr37 S37).holds cl) (h38 : (ctr38 S38).holds cl) (h39 : (ctr39 S39).holds cl) (x0 x1) (k : List E → Option R) : exec cl N c10 [(0, .v U8 x0), (1, .v U10 x1)] (fun e env => (retK d10 e env).bind k) = g10 S11 S12 S16 S21 S33 S34 S36 S37 S38 S39 x0 x1 (fun r0 => k [.v .bool r0]) := by
 simp only [c10, t10_12 S11 S12 S16 S21 S33 S34 S36 S37 S38 S39 h11 h12 h16 h21 h33 h34 h36 h37 h38 h39, rk10_0, rk10_1, Option.bind_some]
 rfl
def ctr10 (S : V6 → V15 → Option (Bool)) : Ctr := cv2 10 U8 U10 S fun b => [.v .bool b]
def S10 (N : Nat) (x0 : V6) (x1 : V15) : Option (Bool) := g10 (S11 N) (S12 N) (S16 N) (S21 N) (S33 N) (S34 N) (S36 N) (S37 N) (S38 N) (S39 N) x0 x1 (fun (r0 : Bool) => some (r0))
end Go.Fw.L51
