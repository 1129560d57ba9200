/- Printed by an own program for this claim: the machine's code of functions, or their typed forms with their equations; no conditions. -/
import Derived.Test.YtnobiophckdjfaaFwMp51a
import Derived.Test.YtnobiophckdjfaaFwB4
set_option linter.unusedVariables false
set_option linter.unusedSimpArgs false
namespace Go.Fw.L51
open Go Go.Fw
set_option maxRecDepth 100000
set_option linter.unusedVariables false
set_option linter.unusedSimpArgs false
variable {N : Nat} {cl : Cal} {R : Type} {K : KE R}
def g24_0 (k0 : V15 → V15 → V15 → Option R) (x0 x1 : V15) : Option R :=
k0 x0 x1 (false, (([], ()), (([], ()), ())))
theorem t24_0 (x0 x1) : exec cl N c24_0 (e107 x0 x1) K = (g24_0 (fun y0 y1 y2 => K .normal (e108 y0 y1 y2)) x0 x1) := by
 kernel_rfl
def g24_1 (S54 : V15 → Option (Bool)) (k0 : V15 → V15 → V15 → Bool → Option R) (x0 x1 x2 : V15) : Option R :=
(S54 x0).bind fun r539 =>
brB (!r539) (k0 x0 x1 x2 true) ((S54 x1).bind fun r540 =>
k0 x0 x1 x2 (!r540))
theorem t24_1 (S54) (h54 : (ctr54 S54).holds cl) (x0 x1 x2) : exec cl N c24_1 (e108 x0 x1 x2) K = (g24_1 S54 (fun y0 y1 y2 y3 => K .normal (e128 y0 y1 y2 y3)) x0 x1 x2) := by
 rw [← put_eq h54]
 kernel_rfl
def g24_2 (k0 : V15 → Int → Option R) (x0 x1 x2 : V15) (x3 : Bool) : Option R :=
k0 (false, ([], ()), ([], ()), ()) (1 : Int)
theorem t24_2 (x0 x1 x2 x3) : exec cl N c24_2 (e128 x0 x1 x2 x3) K = (g24_2 (fun y0 y1 => K .normal (e86 y0 y1)) x0 x1 x2 x3) := by
 kernel_rfl
theorem kp24_0 (x0 x1) : keep [2, 3, 4, 5] (e86 x0 x1) = (e110 x0 x1) := by kernel_rfl
theorem kp24_1 (x0 x1 x2 x3) : keep [2, 3, 4, 5] (e128 x0 x1 x2 x3) = (e111 x0 x1 x2) := by kernel_rfl
theorem hb24_0 (x0 x1 x2 x3) : boolOf? (ent (e128 x0 x1 x2 x3) (.t 13)) = some x3 := by kernel_rfl
def g24_4 (S55 : V15 → Option V16) (k0 : V15 → V15 → V15 → Option R) (x0 x1 x2 : V15) : Option R :=
(S55 x1).bind fun r542 =>
k0 x0 r542 x2
theorem t24_4 (S55) (h55 : (ctr55 S55).holds cl) (x0 x1 x2) : exec cl N c24_4 (e111 x0 x1 x2) K = (g24_4 S55 (fun y0 y1 y2 => K .normal (e108 y0 y1 y2)) x0 x1 x2) := by
 rw [← put_eq h55]
 kernel_rfl
def g24_5 (S56 : V4 → Option (Bool)) (k0 : V15 → V15 → V15 → Bool → Option R) (x0 x1 x2 : V15) : Option R :=
(S56 x1.2.1).bind fun r543 =>
k0 x0 x1 x2 r543
theorem t24_5 (S56) (h56 : (ctr56 S56).holds cl) (x0 x1 x2) : exec cl N c24_5 (e108 x0 x1 x2) K = (g24_5 S56 (fun y0 y1 y2 y3 => K .normal (e129 y0 y1 y2 y3)) x0 x1 x2) := by
 rw [← put_eq h56]
 kernel_rfl
def g24_6 (k0 : V15 → V15 → V15 → Option R) (x0 x1 x2 : V15) (x3 : Bool) : Option R :=
k0 x0 (false, x1.2) x2
theorem t24_6 (x0 x1 x2 x3) : exec cl N c24_6 (e129 x0 x1 x2 x3) K = (g24_6 (fun y0 y1 y2 => K .normal (e108 y0 y1 y2)) x0 x1 x2 x3) := by
 kernel_rfl
theorem kp24_2 (x0 x1 x2) : keep [2, 3, 4] (e108 x0 x1 x2) = (e108 x0 x1 x2) := by kernel_rfl
theorem kp24_3 (x0 x1 x2 x3) : keep [2, 3, 4] (e129 x0 x1 x2 x3) = (e108 x0 x1 x2) := by kernel_rfl
theorem hb24_1 (x0 x1 x2 x3) : boolOf? (ent (e129 x0 x1 x2 x3) (.t 19)) = some x3 := by kernel_rfl
def g24_8 (S56 : V4 → Option (Bool)) (k0 : V15 → V15 → V15 → Option R) (x0 x1 x2 : V15) : Option R :=
(g24_5 S56 (fun y0 y1 y2 y3 => brB y3 (g24_6 k0 y0 y1 y2 y3) (k0 y0 y1 y2)) x0 x1 x2)
theorem t24_8 (S56) (h56 : (ctr56 S56).holds cl) (x0 x1 x2) : exec cl N c24_8 (e108 x0 x1 x2) K = (g24_8 S56 (fun y0 y1 y2 => K .normal (e108 y0 y1 y2)) x0 x1 x2) := by
 simp only [c24_8, exec_seq, seqK_normal, seqK_exit, seqK_ret, t24_5 S56 h56, c24_7, exec_out, exec_cond', hb24_1, Option.bind_some, brB_true, brB_false, t24_6, exec_skip, kp24_2, kp24_3]
 rfl
def g24_9 (S26 : V15 → V15 → Option V17) (k0 : V15 → Int → Option R) (x0 x1 x2 : V15) : Option R :=
(S26 x0 x1).bind fun r544 =>
k0 r544.1 r544.2
theorem t24_9 (S26) (h26 : (ctr26 S26).holds cl) (x0 x1 x2) : exec cl N c24_9 (e108 x0 x1 x2) K = (g24_9 S26 (fun y0 y1 => K .normal (e86 y0 y1)) x0 x1 x2) := by
 rw [← put_eq h26]
 kernel_rfl
def g24_10 (S26 : V15 → V15 → Option V17) (S54 : V15 → Option (Bool)) (S55 : V15 → Option V16) (S56 : V4 → Option (Bool)) (k0 : V15 → Int → Option R) (k1 : V15 → Int → Option R) (x0 x1 : V15) : Option R :=
(g24_0 (g24_1 S54 (fun y0 y1 y2 y3 => brB y3 (g24_2 k0 y0 y1 y2 y3) ((g24_4 S55 (g24_8 S56 (g24_9 S26 k1))) y0 y1 y2))) x0 x1)
theorem t24_10 (S26) (S54) (S55) (S56) (h26 : (ctr26 S26).holds cl) (h54 : (ctr54 S54).holds cl) (h55 : (ctr55 S55).holds cl) (h56 : (ctr56 S56).holds cl) (x0 x1) : exec cl N c24_10 (e107 x0 x1) K = (g24_10 S26 S54 S55 S56 (fun y0 y1 => K .ret (e110 y0 y1)) (fun y0 y1 => K .ret (e86 y0 y1)) x0 x1) := by
 simp only [c24_10, exec_seq, seqK_normal, seqK_exit, seqK_ret, t24_0, t24_1 S54 h54, c24_3, exec_out, exec_cond', hb24_0, Option.bind_some, brB_true, brB_false, t24_2, exec_ret, exec_skip, kp24_0, kp24_1, t24_4 S55 h55, t24_8 S56 h56, t24_9 S26 h26]
 rfl
theorem rk24_0 (y0 y1) : retK d24 .ret (e110 y0 y1) = some [.v U12 y0, .v U1 y1] := by kernel_rfl
theorem rk24_1 (y0 y1) : retK d24 .ret (e86 y0 y1) = some [.v U12 y0, .v U1 y1] := by kernel_rfl
def g24 (S26 : V15 → V15 → Option V17) (S54 : V15 → Option (Bool)) (S55 : V15 → Option V16) (S56 : V4 → Option (Bool)) (x0 x1 : V15) (k : V15 → Int → Option R) : Option R :=
(g24_10 S26 S54 S55 S56 k k x0 x1)
theorem gen24 (S26) (S54) (S55) (S56) (h26 : (ctr26 S26).holds cl) (h54 : (ctr54 S54).holds cl) (h55 : (ctr55 S55).holds cl) (h56 : (ctr56 S56).holds cl) (x0 x1) (k : List E → Option R) : exec cl N c24 (e107 x0 x1) (fun e env => (retK d24 e env).bind k) = g24 S26 S54 S55 S56 x0 x1 (fun r0 r1 => k [.v U12 r0, .v U1 r1]) := by
 simp only [c24, t24_10 S26 S54 S55 S56 h26 h54 h55 h56, rk24_0, rk24_1, Option.bind_some]
 rfl
def ctr24 (S : V15 → V15 → Option V17) : Ctr := cv2 24 U12 U12 S fun b => [.v U12 b.1, .v U1 b.2]
def S24 (N : Nat) (x0 : V15) (x1 : V15) : Option V17 := g24 (S26 N) (S54 N) (S55 N) (S56 N) x0 x1 (fun (r0 : V15) (r1 : Int) => some (r0, r1))
def g100_2 (k0 : Bool → Option R) (x0 : Int) : Option R :=
brB (decide (x0 < (0 : Int))) (k0 true) (k0 (decide (x0 ≥ (10000 : Int))))
theorem t100_2 (x0) : exec cl N c100_2 [(0, .v U1 x0)] K = (g100_2 (fun y0 => exec cl N .ret [(2, .v .bool y0)] K) x0) := by
 kernel_rfl
def g100_2b (k0 : Bool → Option R) (x0 : Int) : Option R :=
(g100_2 k0 x0)
theorem t100_2b (x0) : exec cl N c100_2 [(0, .v U1 x0)] K = (g100_2b (fun y0 => K .ret [(2, .v .bool y0)]) x0) := by
 simp only [exec_seq, seqK_normal, seqK_exit, seqK_ret, t100_2, exec_ret]
 rfl
theorem rk100_0 (y0) : retK d100 .ret [(2, .v .bool y0)] = some [.v .bool y0] := by kernel_rfl
def g100 (x0 : Int) (k : Bool → Option R) : Option R :=
(g100_2b k x0)
theorem gen100 (x0) (k : List E → Option R) : exec cl N c100 [(0, .v U1 x0)] (fun e env => (retK d100 e env).bind k) = g100 x0 (fun r0 => k [.v .bool r0]) := by
 simp only [c100, t100_2b, rk100_0, Option.bind_some]
 rfl
def ctr100 (S : Int → Option (Bool)) : Ctr := cv1 100 U1 S fun b => [.v .bool b]
def S100 (N : Nat) (x0 : Int) : Option (Bool) := g100 x0 (fun (r0 : Bool) => some (r0))
def g116_0 (k0 : V0 → V10 → Option R) (x0 : V0) (x1 : V10) : Option R :=
k0 x0 x1
theorem t116_0 (x0 x1) : exec cl N c116_0 (e130 x0 x1) K = (g116_0 (fun y0 y1 => K .normal (e130 y0 y1)) x0 x1) := by
 kernel_rfl
def g116_1 (k0 : V0 → V10 → Int → Int → Option R) (x0 : V0) (x1 : V10) : Option R :=
k0 x0 x1 (x0.length : Int) (0 : Int)
theorem t116_1 (x0 x1) : exec cl N c116_1 (e130 x0 x1) K = (g116_1 (fun y0 y1 y2 y3 => K .normal (e131 y0 y1 y2 y3)) x0 x1) := by
 kernel_rfl
theorem kp116_0 (x0 x1 x2 x3) : keep [0, 1, 7, 8] (e131 x0 x1 x2 x3) = (e131 x0 x1 x2 x3) := by kernel_rfl
def g116_2 (k0 : V0 → V10 → Int → Int → Bool → Option R) (x0 : V0) (x1 : V10) (x2 x3 : Int) : Option R :=
k0 x0 x1 x2 x3 (decide (x3 < x2))
theorem t116_2 (x0 x1 x2 x3) : exec cl N c116_2 (e131 x0 x1 x2 x3) K = (g116_2 (fun y0 y1 y2 y3 y4 => K .normal (e132 y0 y1 y2 y3 y4)) x0 x1 x2 x3) := by
 kernel_rfl
theorem kp116_1 (x0 x1 x2 x3 x4) : keep [0, 1, 7, 8] (e132 x0 x1 x2 x3 x4) = (e131 x0 x1 x2 x3) := by kernel_rfl
theorem hb116_0 (x0 x1 x2 x3 x4) : boolOf? (ent (e132 x0 x1 x2 x3 x4) (.t 9)) = some x4 := by kernel_rfl
def g116_8 (k0 : V0 → V10 → Int → Int → Int → Bool → Option R) (x0 : V0) (x1 : V10) (x2 x3 : Int) : Option R :=
if 0 ≤ x3 ∧ x3 < (x0.length : Int) then
(x1 ((x0.getD x3.toNat (0 : Int)), ())).bind fun r567 =>
k0 x0 x1 x3 x2 x3 r567
else none
theorem t116_8 (x0 x1 x2 x3) : exec cl N c116_8 (e131 x0 x1 x2 x3) K = (g116_8 (fun y0 y1 y2 y3 y4 y5 => exec cl N c116_7 (e133 y0 y1 y2 y3 y4 y5) K) x0 x1 x2 x3) := by
 kernel_rfl
def g116_6 (k0 : Int → Option R) (x0 : V0) (x1 : V10) (x2 x3 x4 : Int) (x5 : Bool) : Option R :=
k0 x2
theorem t116_6 (x0 x1 x2 x3 x4 x5) : exec cl N c116_6 (e133 x0 x1 x2 x3 x4 x5) K = (g116_6 (fun y0 => K .normal [(4, .v U1 y0)]) x0 x1 x2 x3 x4 x5) := by
 kernel_rfl
theorem kp116_2 (x0) : keep [0, 1, 4, 7, 8] [(4, .v U1 x0)] = (e134 x0) := by kernel_rfl
theorem kp116_3 (x0 x1 x2 x3 x4 x5) : keep [0, 1, 4, 7, 8] (e133 x0 x1 x2 x3 x4 x5) = (e135 x0 x1 x3 x4) := by kernel_rfl
theorem hb116_1 (x0 x1 x2 x3 x4 x5) : boolOf? (ent (e133 x0 x1 x2 x3 x4 x5) (.t 16)) = some x5 := by kernel_rfl
theorem kp116_4 (x0) : keep [0, 1, 4, 7, 8] (e134 x0) = (e134 x0) := by kernel_rfl
theorem kp116_5 (x0 x1 x2 x3) : keep [0, 1, 4, 7, 8] (e135 x0 x1 x2 x3) = (e135 x0 x1 x2 x3) := by kernel_rfl
def g116_10 (k0 : V0 → V10 → Int → Int → Option R) (x0 : V0) (x1 : V10) (x2 x3 : Int) : Option R :=
k0 x0 x1 x2 (IntKind.i64.wrap (x3 + (1 : Int)))
theorem t116_10 (x0 x1 x2 x3) : exec cl N c116_10 (e135 x0 x1 x2 x3) K = (g116_10 (fun y0 y1 y2 y3 => K .normal (e131 y0 y1 y2 y3)) x0 x1 x2 x3) := by
 kernel_rfl
def g116_11 (k0 : Int → Option R) (k1 : V0 → V10 → Int → Int → Option R) (k2 : V0 → V10 → Int → Int → Option R) (x0 : V0) (x1 : V10) (x2 x3 : Int) : Option R :=
(g116_2 (fun y0 y1 y2 y3 y4 => brB y4 ((g116_8 (fun y0 y1 y2 y3 y4 y5 => brB y5 (g116_6 k0 y0 y1 y2 y3 y4 y5) (((g116_10 k1)) y0 y1 y3 y4))) y0 y1 y2 y3) (k2 y0 y1 y2 y3)) x0 x1 x2 x3)
theorem t116_11 (x0 x1 x2 x3) : exec cl N c116_11 (e131 x0 x1 x2 x3) K = (g116_11 (fun y0 => K .ret (e134 y0)) (fun y0 y1 y2 y3 => K .normal (e131 y0 y1 y2 y3)) (fun y0 y1 y2 y3 => K (.exit 0) (e131 y0 y1 y2 y3)) x0 x1 x2 x3) := by
 simp only [c116_11, exec_seq, seqK_normal, seqK_exit, seqK_ret, t116_2, c116_3, exec_out, exec_cond', hb116_0, Option.bind_some, brB_true, brB_false, exec_skip, exec_exit, kp116_1, c116_9, exec_block, t116_8, c116_7, hb116_1, t116_6, exec_ret, kp116_2, kp116_3, blockK_normal, blockK_ret, blockK_eq, kp116_4, kp116_5, t116_10]
 rfl
def l116_12 {R : Type} (k0 : Int → Option R) (k1 : V0 → V10 → Int → Int → Option R) : Nat → V0 → V10 → Int → Int → Option R
 | 0, _, _, _, _ => none
 | m + 1, x0, x1, x2, x3 => (g116_11 k0 (l116_12 k0 k1 m) k1 x0 x1 x2 x3)
theorem lt116_12 : ∀ (m) (x0 x1 x2 x3), iter [0, 1, 7, 8] (fun env K => exec cl N c116_11 env K) K m (e131 x0 x1 x2 x3) = l116_12 (fun y0 => K .ret (e134 y0)) (fun y0 y1 y2 y3 => K (.exit 0) (e131 y0 y1 y2 y3)) m x0 x1 x2 x3 := by
 intro m
 induction m with
 | zero => intros; rfl
 | succ m ih =>
   intro x0 x1 x2 x3
   simp only [iter_succ, t116_11, loopK_normal, loopK_exit, loopK_ret, kp116_0, ih]
   rfl
theorem kp116_6 (x0) : keep [4] (e134 x0) = [(4, .v U1 x0)] := by kernel_rfl
theorem kp116_7 (x0 x1 x2 x3) : keep [4] (e131 x0 x1 x2 x3) = [(4, .dead)] := by kernel_rfl
def g116_12 (N : Nat) (k0 : Int → Option R) (k1 : Option R) (x0 : V0) (x1 : V10) (x2 x3 : Int) : Option R :=
l116_12 k0 (fun y0 y1 y2 y3 => k1) N x0 x1 x2 x3
theorem t116_12 (x0 x1 x2 x3) : exec cl N c116_12 (e131 x0 x1 x2 x3) K = (g116_12 N (fun y0 => K .ret [(4, .v U1 y0)]) (K (.exit 0) [(4, .dead)]) x0 x1 x2 x3) := by
 simp only [c116_12, exec_out, exec_loop, kp116_0, lt116_12, kp116_6, kp116_7]
 rfl
theorem kp116_8 (x0) : keep [4] [(4, .v U1 x0)] = [(4, .v U1 x0)] := by kernel_rfl
theorem kp116_9 : keep [4] [(4, .dead)] = [(4, .dead)] := by kernel_rfl
def g116_14 (k0 : Int → Option R) : Option R :=
k0 (-1 : Int)
theorem t116_14 : exec cl N c116_14 [(4, .dead)] K = (g116_14 (fun y0 => K .normal [(4, .v U1 y0)])) := by
 kernel_rfl
def g116_15 (N : Nat) (k0 : Int → Option R) (x0 : V0) (x1 : V10) : Option R :=
(g116_0 (g116_1 (g116_12 N k0 (g116_14 k0))) x0 x1)
theorem t116_15 (x0 x1) : exec cl N c116_15 (e130 x0 x1) K = (g116_15 N (fun y0 => K .ret [(4, .v U1 y0)]) x0 x1) := by
 simp only [c116_15, exec_seq, seqK_normal, seqK_exit, seqK_ret, t116_0, t116_1, c116_13, exec_out, exec_block, t116_12, blockK_normal, blockK_ret, blockK_eq, kp116_8, kp116_9, t116_14, exec_ret]
 rfl
theorem rk116_0 (y0) : retK d116 .ret [(4, .v U1 y0)] = some [.v U1 y0] := by kernel_rfl
def g116 (N : Nat) (x0 : V0) (x1 : V10) (k : Int → Option R) : Option R :=
(g116_15 N k x0 x1)
theorem gen116 (x0 x1) (k : List E → Option R) : exec cl N c116 (e130 x0 x1) (fun e env => (retK d116 e env).bind k) = g116 N x0 x1 (fun r0 => k [.v U1 r0]) := by
 simp only [c116, t116_15, rk116_0, Option.bind_some]
 rfl
def ctr116 (S : V0 → V10 → Option (Int)) : Ctr := cv2 116 U2 U6 S fun b => [.v U1 b]
def S116 (N : Nat) (x0 : V0) (x1 : V10) : Option (Int) := g116 N x0 x1 (fun (r0 : Int) => some (r0))
def g99_2 (S116 : V0 → V10 → Option (Int)) (k0 : Bool → Option R) (x0 : V0) (x1 : V10) : Option R :=
(S116 x0 x1).bind fun r571 =>
k0 (decide (r571 ≥ (0 : Int)))
theorem t99_2 (S116) (h116 : (ctr116 S116).holds cl) (x0 x1) : exec cl N c99_2 (e130 x0 x1) K = (g99_2 S116 (fun y0 => exec cl N .ret [(4, .v .bool y0)] K) x0 x1) := by
 rw [← put_eq h116]
 kernel_rfl
def g99_2b (S116 : V0 → V10 → Option (Int)) (k0 : Bool → Option R) (x0 : V0) (x1 : V10) : Option R :=
(g99_2 S116 k0 x0 x1)
theorem t99_2b (S116) (h116 : (ctr116 S116).holds cl) (x0 x1) : exec cl N c99_2 (e130 x0 x1) K = (g99_2b S116 (fun y0 => K .ret [(4, .v .bool y0)]) x0 x1) := by
 simp only [exec_seq, seqK_normal, seqK_exit, seqK_ret, t99_2 S116 h116, exec_ret]
 rfl
theorem rk99_0 (y0) : retK d99 .ret [(4, .v .bool y0)] = some [.v .bool y0] := by kernel_rfl
def g99 (S116 : V0 → V10 → Option (Int)) (x0 : V0) (x1 : V10) (k : Bool → Option R) : Option R :=
(g99_2b S116 k x0 x1)
theorem gen99 (S116) (h116 : (ctr116 S116).holds cl) (x0 x1) (k : List E → Option R) : exec cl N c99 (e130 x0 x1) (fun e env => (retK d99 e env).bind k) = g99 S116 x0 x1 (fun r0 => k [.v .bool r0]) := by
 simp only [c99, t99_2b S116 h116, rk99_0, Option.bind_some]
 rfl
def ctr99 (S : V0 → V10 → Option (Bool)) : Ctr := cv2 99 U2 U6 S fun b => [.v .bool b]
def S99 (N : Nat) (x0 : V0) (x1 : V10) : Option (Bool) := g99 (S116 N) x0 x1 (fun (r0 : Bool) => some (r0))
def g75_6 (k0 : V0 → Option R) (x0 : V4) : Option R :=
k0 x0.1
theorem t75_6 (x0) : exec cl N c75_6 [(0, .v U5 x0)] K = (g75_6 (fun y0 => exec cl N (.seq (.seq c75_2 c75_4) (.seq c75_5 .ret)) [(3, .v U2 y0)] K) x0) := by
 kernel_rfl
def g75_2 (k0 : V0 → Bool → Option R) (x0 : V0) : Option R :=
brB (decide ((x0.length : Int) > (200 : Int))) (k0 x0 true) (brB (decide ((x0.length : Int) > (0 : Int))) (let v576 : Int := (IntKind.i64.wrap ((x0.length : Int) - (1 : Int)))
if 0 ≤ v576 ∧ v576 < (x0.length : Int) then
k0 x0 ((x0.getD v576.toNat (0 : Int)) == (0 : Int))
else none) (k0 x0 false))
theorem t75_2 (x0) : exec cl N c75_2 [(3, .v U2 x0)] K = (g75_2 (fun y0 y1 => K .normal (e136 y0 y1)) x0) := by
 kernel_rfl
def g75_3 (k0 : Bool → Option R) (x0 : V0) (x1 : Bool) : Option R :=
k0 false
theorem t75_3 (x0 x1) : exec cl N c75_3 (e136 x0 x1) K = (g75_3 (fun y0 => K .normal [(2, .v .bool y0)]) x0 x1) := by
 kernel_rfl
theorem kp75_0 (x0) : keep [2, 3] [(2, .v .bool x0)] = [(2, .v .bool x0), (3, .dead)] := by kernel_rfl
theorem kp75_1 (x0 x1) : keep [2, 3] (e136 x0 x1) = [(2, .dead), (3, .v U2 x0)] := by kernel_rfl
theorem hb75_0 (x0 x1) : boolOf? (ent (e136 x0 x1) (.t 22)) = some x1 := by kernel_rfl
def g75_5 (S99 : V0 → V10 → Option (Bool)) (S100 : Int → Option (Bool)) (k0 : Bool → Option R) (x0 : V0) : Option R :=
(S99 x0 (fun (x578 : V2) => ((S100 x578.1).bind fun b579 => some [.v .bool b579]).bind (unE .bool))).bind fun r580 =>
k0 (!r580)
theorem t75_5 (S99) (S100) (h99 : (ctr99 S99).holds cl) (h100 : (ctr100 S100).holds cl) (x0) : exec cl N c75_5 [(2, .dead), (3, .v U2 x0)] K = (g75_5 S99 S100 (fun y0 => K .normal [(2, .v .bool y0)]) x0) := by
 rw [← put_eq h99]
 rw [← put_eq h100]
 kernel_rfl
def g75_6b (S99 : V0 → V10 → Option (Bool)) (S100 : Int → Option (Bool)) (k0 : Bool → Option R) (k1 : Bool → Option R) (x0 : V4) : Option R :=
(g75_6 (g75_2 (fun y0 y1 => brB y1 (g75_3 k0 y0 y1) ((g75_5 S99 S100 k1) y0))) x0)
theorem t75_6b (S99) (S100) (h99 : (ctr99 S99).holds cl) (h100 : (ctr100 S100).holds cl) (x0) : exec cl N c75_6 [(0, .v U5 x0)] K = (g75_6b S99 S100 (fun y0 => K .ret [(2, .v .bool y0), (3, .dead)]) (fun y0 => K .ret [(2, .v .bool y0)]) x0) := by
 simp only [exec_seq, seqK_normal, seqK_exit, seqK_ret, t75_6, t75_2, c75_4, exec_out, exec_cond', hb75_0, Option.bind_some, brB_true, brB_false, t75_3, exec_ret, exec_skip, kp75_0, kp75_1, t75_5 S99 S100 h99 h100]
 rfl
theorem rk75_0 (y0) : retK d75 .ret [(2, .v .bool y0), (3, .dead)] = some [.v .bool y0] := by kernel_rfl
theorem rk75_1 (y0) : retK d75 .ret [(2, .v .bool y0)] = some [.v .bool y0] := by kernel_rfl
def g75 (S99 : V0 → V10 → Option (Bool)) (S100 : Int → Option (Bool)) (x0 : V4) (k : Bool → Option R) : Option R :=
(g75_6b S99 S100 k k x0)
theorem gen75 (S99) (S100) (h99 : (ctr99 S99).holds cl) (h100 : (ctr100 S100).holds cl) (x0) (k : List E → Option R) : exec cl N c75 [(0, .v U5 x0)] (fun e env => (retK d75 e env).bind k) = g75 S99 S100 x0 (fun r0 => k [.v .bool r0]) := by
 simp only [c75, t75_6b S99 S100 h99 h100, rk75_0, rk75_1, Option.bind_some]
 rfl
def ctr75 (S : V4 → Option (Bool)) : Ctr := cv1 75 U5 S fun b => [.v .bool b]
def S75 (N : Nat) (x0 : V4) : Option (Bool) := g75 (S99 N) (S100 N) x0 (fun (r0 : Bool) => some (r0))
def g76_2 (k0 : Bool → Option R) (x0 : V4) : Option R :=
k0 ((x0.1.length : Int) == (0 : Int))
theorem t76_2 (x0) : exec cl N c76_2 [(0, .v U5 x0)] K = (g76_2 (fun y0 => exec cl N .ret [(2, .v .bool y0)] K) x0) := by
 kernel_rfl
def g76_2b (k0 : Bool → Option R) (x0 : V4) : Option R :=
(g76_2 k0 x0)
theorem t76_2b (x0) : exec cl N c76_2 [(0, .v U5 x0)] K = (g76_2b (fun y0 => K .ret [(2, .v .bool y0)]) x0) := by
 simp only [exec_seq, seqK_normal, seqK_exit, seqK_ret, t76_2, exec_ret]
 rfl
theorem rk76_0 (y0) : retK d76 .ret [(2, .v .bool y0)] = some [.v .bool y0] := by kernel_rfl
def g76 (x0 : V4) (k : Bool → Option R) : Option R :=
(g76_2b k x0)
theorem gen76 (x0) (k : List E → Option R) : exec cl N c76 [(0, .v U5 x0)] (fun e env => (retK d76 e env).bind k) = g76 x0 (fun r0 => k [.v .bool r0]) := by
 simp only [c76, t76_2b, rk76_0, Option.bind_some]
 rfl
def ctr76 (S : V4 → Option (Bool)) : Ctr := cv1 76 U5 S fun b => [.v .bool b]
def S76 (N : Nat) (x0 : V4) : Option (Bool) := g76 x0 (fun (r0 : Bool) => some (r0))
def g118_0 (k0 : V0 → Option R) (x0 : V0) : Option R :=
k0 x0
theorem t118_0 (x0) : exec cl N c118_0 [(0, .v U2 x0)] K = (g118_0 (fun y0 => K .normal [(0, .v U2 y0)]) x0) := by
 kernel_rfl
theorem kp118_0 (x0) : keep [0] [(0, .v U2 x0)] = [(0, .v U2 x0)] := by kernel_rfl
def g118_1 (k0 : V0 → Bool → Option R) (x0 : V0) : Option R :=
brB (decide ((x0.length : Int) > (0 : Int))) (let v600 : Int := (IntKind.i64.wrap ((x0.length : Int) - (1 : Int)))
if 0 ≤ v600 ∧ v600 < (x0.length : Int) then
k0 x0 ((x0.getD v600.toNat (0 : Int)) == (0 : Int))
else none) (k0 x0 false)
theorem t118_1 (x0) : exec cl N c118_1 [(0, .v U2 x0)] K = (g118_1 (fun y0 y1 => K .normal (e16 y0 y1)) x0) := by
 kernel_rfl
theorem kp118_1 (x0 x1) : keep [0] (e16 x0 x1) = [(0, .v U2 x0)] := by kernel_rfl
theorem hb118_0 (x0 x1) : boolOf? (ent (e16 x0 x1) (.t 14)) = some x1 := by kernel_rfl
def g118_3 (k0 : V0 → Option R) (x0 : V0) : Option R :=
let v602 : Int := (IntKind.i64.wrap ((x0.length : Int) - (1 : Int)))
if 0 ≤ (0 : Int) ∧ (0 : Int) ≤ v602 ∧ v602 ≤ (x0.length : Int) ∧ (x0.length : Int) ≤ (x0.length : Int) then
k0 ((x0.drop (0 : Int).toNat).take (v602.toNat - (0 : Int).toNat))
else none
theorem t118_3 (x0) : exec cl N c118_3 [(0, .v U2 x0)] K = (g118_3 (fun y0 => K .normal [(0, .v U2 y0)]) x0) := by
 kernel_rfl
def g118_5 (k0 : V0 → Option R) (k1 : V0 → Option R) (x0 : V0) : Option R :=
(g118_1 (fun y0 y1 => brB y1 ((g118_3 k0) y0) (k1 y0)) x0)
theorem t118_5 (x0) : exec cl N c118_5 [(0, .v U2 x0)] K = (g118_5 (fun y0 => K .normal [(0, .v U2 y0)]) (fun y0 => K (.exit 0) [(0, .v U2 y0)]) x0) := by
 simp only [c118_5, exec_seq, seqK_normal, seqK_exit, seqK_ret, t118_1, c118_2, exec_out, exec_cond', hb118_0, Option.bind_some, brB_true, brB_false, exec_skip, exec_exit, kp118_1, c118_4, exec_block, t118_3, blockK_normal, blockK_ret, blockK_eq, kp118_0]
 rfl
def l118_6 {R : Type} (k0 : V0 → Option R) : Nat → V0 → Option R
 | 0, _ => none
 | m + 1, x0 => (g118_5 (l118_6 k0 m) k0 x0)
theorem lt118_6 : ∀ (m) (x0), iter [0] (fun env K => exec cl N c118_5 env K) K m [(0, .v U2 x0)] = l118_6 (fun y0 => K (.exit 0) [(0, .v U2 y0)]) m x0 := by
 intro m
 induction m with
 | zero => intros; rfl
 | succ m ih =>
   intro x0
   simp only [iter_succ, t118_5, loopK_normal, loopK_exit, loopK_ret, kp118_0, ih]
   rfl
def g118_6 (N : Nat) (k0 : V0 → Option R) (x0 : V0) : Option R :=
l118_6 k0 N x0
theorem t118_6 (x0) : exec cl N c118_6 [(0, .v U2 x0)] K = (g118_6 N (fun y0 => K (.exit 0) [(0, .v U2 y0)]) x0) := by
 simp only [c118_6, exec_out, exec_loop, kp118_0, lt118_6, kp118_0]
 rfl
def g118_8 (k0 : V0 → Option R) (x0 : V0) : Option R :=
k0 x0
theorem t118_8 (x0) : exec cl N c118_8 [(0, .v U2 x0)] K = (g118_8 (fun y0 => K .normal [(2, .v U2 y0)]) x0) := by
 kernel_rfl
def g118_9 (N : Nat) (k0 : V0 → Option R) (x0 : V0) : Option R :=
(g118_0 (g118_6 N ((g118_8 k0))) x0)
theorem t118_9 (x0) : exec cl N c118_9 [(0, .v U2 x0)] K = (g118_9 N (fun y0 => K .ret [(2, .v U2 y0)]) x0) := by
 simp only [c118_9, exec_seq, seqK_normal, seqK_exit, seqK_ret, t118_0, c118_7, exec_out, exec_block, t118_6, blockK_normal, blockK_ret, blockK_eq, kp118_0, t118_8, exec_ret]
 rfl
theorem rk118_0 (y0) : retK d118 .ret [(2, .v U2 y0)] = some [.v U2 y0] := by kernel_rfl
def g118 (N : Nat) (x0 : V0) (k : V0 → Option R) : Option R :=
(g118_9 N k x0)
theorem gen118 (x0) (k : List E → Option R) : exec cl N c118 [(0, .v U2 x0)] (fun e env => (retK d118 e env).bind k) = g118 N x0 (fun r0 => k [.v U2 r0]) := by
 simp only [c118, t118_9, rk118_0, Option.bind_some]
 rfl
def ctr118 (S : V0 → Option V1) : Ctr := cv1 118 U2 S fun b => [.v U2 b]
def S118 (N : Nat) (x0 : V0) : Option V1 := g118 N x0 (fun (r0 : V0) => some (r0))
def g114_28 (k0 : V0 → V0 → V0 → Option R) (x0 x1 : V0) : Option R :=
let v642 : Int := (IntKind.i64.wrap ((x0.length : Int) + (x1.length : Int)))
if 0 ≤ v642 ∧ v642 ≤ v642 ∧ v642 ≤ ((17592186044416 : Nat) : Int) then
k0 x0 x1 (List.replicate v642.toNat (0 : Int))
else none
theorem t114_28 (x0 x1) : exec cl N c114_28 (e20 x0 x1) K = (g114_28 (fun y0 y1 y2 => exec cl N (.seq (.seq c114_2 c114_26) (.seq c114_27 .ret)) (e63 y0 y1 y2) K) x0 x1) := by
 kernel_rfl
def g114_2 (k0 : V0 → V0 → V0 → Int → Int → Option R) (x0 x1 x2 : V0) : Option R :=
k0 x1 x2 x0 (x0.length : Int) (0 : Int)
theorem t114_2 (x0 x1 x2) : exec cl N c114_2 (e63 x0 x1 x2) K = (g114_2 (fun y0 y1 y2 y3 y4 => K .normal (e137 y0 y1 y2 y3 y4)) x0 x1 x2) := by
 kernel_rfl
theorem kp114_0 (x0 x1 x2 x3 x4) : keep [1, 5, 17, 18, 19] (e137 x0 x1 x2 x3 x4) = (e137 x0 x1 x2 x3 x4) := by kernel_rfl
def g114_3 (k0 : V0 → V0 → V0 → Int → Int → Bool → Option R) (x0 x1 x2 : V0) (x3 x4 : Int) : Option R :=
k0 x0 x1 x2 x3 x4 (decide (x4 < x3))
theorem t114_3 (x0 x1 x2 x3 x4) : exec cl N c114_3 (e137 x0 x1 x2 x3 x4) K = (g114_3 (fun y0 y1 y2 y3 y4 y5 => K .normal (e138 y0 y1 y2 y3 y4 y5)) x0 x1 x2 x3 x4) := by
 kernel_rfl
theorem kp114_1 (x0 x1 x2 x3 x4 x5) : keep [1, 5, 17, 18, 19] (e138 x0 x1 x2 x3 x4 x5) = (e137 x0 x1 x2 x3 x4) := by kernel_rfl
theorem hb114_0 (x0 x1 x2 x3 x4 x5) : boolOf? (ent (e138 x0 x1 x2 x3 x4 x5) (.t 20)) = some x5 := by kernel_rfl
def g114_21 (k0 : V0 → V0 → Int → Int → Int → V0 → Int → Int → Option R) (x0 x1 x2 : V0) (x3 x4 : Int) : Option R :=
if 0 ≤ x4 ∧ x4 < (x2.length : Int) then
k0 x0 x1 x4 (x2.getD x4.toNat (0 : Int)) (0 : Int) x2 x3 x4
else none
theorem t114_21 (x0 x1 x2 x3 x4) : exec cl N c114_21 (e137 x0 x1 x2 x3 x4) K = (g114_21 (fun y0 y1 y2 y3 y4 y5 y6 y7 => exec cl N (.seq (.seq c114_7 c114_19) c114_20) (e139 y0 y1 y2 y3 y4 y5 y6 y7) K) x0 x1 x2 x3 x4) := by
 kernel_rfl
def g114_7 (k0 : V0 → V0 → Int → Int → Int → V0 → Int → Int → V0 → Int → Int → Option R) (x0 x1 : V0) (x2 x3 x4 : Int) (x5 : V0) (x6 x7 : Int) : Option R :=
k0 x0 x1 x2 x3 x4 x5 x6 x7 x0 (x0.length : Int) (0 : Int)
theorem t114_7 (x0 x1 x2 x3 x4 x5 x6 x7) : exec cl N c114_7 (e139 x0 x1 x2 x3 x4 x5 x6 x7) K = (g114_7 (fun y0 y1 y2 y3 y4 y5 y6 y7 y8 y9 y10 => K .normal (e140 y0 y1 y2 y3 y4 y5 y6 y7 y8 y9 y10)) x0 x1 x2 x3 x4 x5 x6 x7) := by
 kernel_rfl
theorem kp114_2 (x0 x1 x2 x3 x4 x5 x6 x7 x8 x9 x10) : keep [1, 5, 6, 7, 8, 17, 18, 19, 24, 25, 26] (e140 x0 x1 x2 x3 x4 x5 x6 x7 x8 x9 x10) = (e140 x0 x1 x2 x3 x4 x5 x6 x7 x8 x9 x10) := by kernel_rfl
def g114_8 (k0 : V0 → V0 → Int → Int → Int → V0 → Int → Int → V0 → Int → Int → Bool → Option R) (x0 x1 : V0) (x2 x3 x4 : Int) (x5 : V0) (x6 x7 : Int) (x8 : V0) (x9 x10 : Int) : Option R :=
k0 x0 x1 x2 x3 x4 x5 x6 x7 x8 x9 x10 (decide (x10 < x9))
theorem t114_8 (x0 x1 x2 x3 x4 x5 x6 x7 x8 x9 x10) : exec cl N c114_8 (e140 x0 x1 x2 x3 x4 x5 x6 x7 x8 x9 x10) K = (g114_8 (fun y0 y1 y2 y3 y4 y5 y6 y7 y8 y9 y10 y11 => K .normal (e141 y0 y1 y2 y3 y4 y5 y6 y7 y8 y9 y10 y11)) x0 x1 x2 x3 x4 x5 x6 x7 x8 x9 x10) := by
 kernel_rfl
theorem kp114_3 (x0 x1 x2 x3 x4 x5 x6 x7 x8 x9 x10 x11) : keep [1, 5, 6, 7, 8, 17, 18, 19, 24, 25, 26] (e141 x0 x1 x2 x3 x4 x5 x6 x7 x8 x9 x10 x11) = (e140 x0 x1 x2 x3 x4 x5 x6 x7 x8 x9 x10) := by kernel_rfl
theorem hb114_1 (x0 x1 x2 x3 x4 x5 x6 x7 x8 x9 x10 x11) : boolOf? (ent (e141 x0 x1 x2 x3 x4 x5 x6 x7 x8 x9 x10 x11) (.t 27)) = some x11 := by kernel_rfl
def g114_14 (k0 : V0 → V0 → Int → Int → Int → V0 → Int → Int → V0 → Int → Int → Option R) (x0 x1 : V0) (x2 x3 x4 : Int) (x5 : V0) (x6 x7 : Int) (x8 : V0) (x9 x10 : Int) : Option R :=
if 0 ≤ x10 ∧ x10 < (x8.length : Int) then
let v657 : Int := (IntKind.i64.wrap (x2 + x10))
if 0 ≤ v657 ∧ v657 < (x1.length : Int) then
if v657.toNat < x1.length then
let v661 : Int := (IntKind.i64.wrap (x4 + (IntKind.i64.wrap ((x1.getD v657.toNat (0 : Int)) + (IntKind.i64.wrap (x3 * (x8.getD x10.toNat (0 : Int))))))))
let v662 : Int := (IntKind.i64.wrap (x2 + x10))
if 0 ≤ v662 ∧ v662 < (x1.length : Int) then
if v662.toNat < x1.length then
k0 x0 (x1.set v662.toNat (Int.tmod v661 (10000 : Int))) x2 x3 (IntKind.i64.wrap (Int.tdiv v661 (10000 : Int))) x5 x6 x7 x8 x9 x10
else none
else none
else none
else none
else none
theorem t114_14 (x0 x1 x2 x3 x4 x5 x6 x7 x8 x9 x10) : exec cl N c114_14 (e140 x0 x1 x2 x3 x4 x5 x6 x7 x8 x9 x10) K = (g114_14 (fun y0 y1 y2 y3 y4 y5 y6 y7 y8 y9 y10 => K .normal (e140 y0 y1 y2 y3 y4 y5 y6 y7 y8 y9 y10)) x0 x1 x2 x3 x4 x5 x6 x7 x8 x9 x10) := by
 kernel_rfl
def g114_16 (k0 : V0 → V0 → Int → Int → Int → V0 → Int → Int → V0 → Int → Int → Option R) (x0 x1 : V0) (x2 x3 x4 : Int) (x5 : V0) (x6 x7 : Int) (x8 : V0) (x9 x10 : Int) : Option R :=
k0 x0 x1 x2 x3 x4 x5 x6 x7 x8 x9 (IntKind.i64.wrap (x10 + (1 : Int)))
theorem t114_16 (x0 x1 x2 x3 x4 x5 x6 x7 x8 x9 x10) : exec cl N c114_16 (e140 x0 x1 x2 x3 x4 x5 x6 x7 x8 x9 x10) K = (g114_16 (fun y0 y1 y2 y3 y4 y5 y6 y7 y8 y9 y10 => K .normal (e140 y0 y1 y2 y3 y4 y5 y6 y7 y8 y9 y10)) x0 x1 x2 x3 x4 x5 x6 x7 x8 x9 x10) := by
 kernel_rfl
def g114_17 (k0 : V0 → V0 → Int → Int → Int → V0 → Int → Int → V0 → Int → Int → Option R) (k1 : V0 → V0 → Int → Int → Int → V0 → Int → Int → V0 → Int → Int → Option R) (x0 x1 : V0) (x2 x3 x4 : Int) (x5 : V0) (x6 x7 : Int) (x8 : V0) (x9 x10 : Int) : Option R :=
(g114_8 (fun y0 y1 y2 y3 y4 y5 y6 y7 y8 y9 y10 y11 => brB y11 ((g114_14 ((g114_16 k0))) y0 y1 y2 y3 y4 y5 y6 y7 y8 y9 y10) (k1 y0 y1 y2 y3 y4 y5 y6 y7 y8 y9 y10)) x0 x1 x2 x3 x4 x5 x6 x7 x8 x9 x10)
theorem t114_17 (x0 x1 x2 x3 x4 x5 x6 x7 x8 x9 x10) : exec cl N c114_17 (e140 x0 x1 x2 x3 x4 x5 x6 x7 x8 x9 x10) K = (g114_17 (fun y0 y1 y2 y3 y4 y5 y6 y7 y8 y9 y10 => K .normal (e140 y0 y1 y2 y3 y4 y5 y6 y7 y8 y9 y10)) (fun y0 y1 y2 y3 y4 y5 y6 y7 y8 y9 y10 => K (.exit 2) (e140 y0 y1 y2 y3 y4 y5 y6 y7 y8 y9 y10)) x0 x1 x2 x3 x4 x5 x6 x7 x8 x9 x10) := by
 simp only [c114_17, exec_seq, seqK_normal, seqK_exit, seqK_ret, t114_8, c114_9, exec_out, exec_cond', hb114_1, Option.bind_some, brB_true, brB_false, exec_skip, exec_exit, kp114_3, c114_15, exec_block, t114_14, blockK_normal, blockK_ret, blockK_eq, kp114_2, t114_16]
 rfl
def l114_18 {R : Type} (k0 : V0 → V0 → Int → Int → Int → V0 → Int → Int → V0 → Int → Int → Option R) : Nat → V0 → V0 → Int → Int → Int → V0 → Int → Int → V0 → Int → Int → Option R
 | 0, _, _, _, _, _, _, _, _, _, _, _ => none
 | m + 1, x0, x1, x2, x3, x4, x5, x6, x7, x8, x9, x10 => (g114_17 (l114_18 k0 m) k0 x0 x1 x2 x3 x4 x5 x6 x7 x8 x9 x10)
theorem lt114_18 : ∀ (m) (x0 x1 x2 x3 x4 x5 x6 x7 x8 x9 x10), iter [1, 5, 6, 7, 8, 17, 18, 19, 24, 25, 26] (fun env K => exec cl N c114_17 env K) K m (e140 x0 x1 x2 x3 x4 x5 x6 x7 x8 x9 x10) = l114_18 (fun y0 y1 y2 y3 y4 y5 y6 y7 y8 y9 y10 => K (.exit 2) (e140 y0 y1 y2 y3 y4 y5 y6 y7 y8 y9 y10)) m x0 x1 x2 x3 x4 x5 x6 x7 x8 x9 x10 := by
 intro m
 induction m with
 | zero => intros; rfl
 | succ m ih =>
   intro x0 x1 x2 x3 x4 x5 x6 x7 x8 x9 x10
   simp only [iter_succ, t114_17, loopK_normal, loopK_exit, loopK_ret, kp114_2, ih]
   rfl
theorem kp114_4 (x0 x1 x2 x3 x4 x5 x6 x7 x8 x9 x10) : keep [1, 5, 6, 8, 17, 18, 19] (e140 x0 x1 x2 x3 x4 x5 x6 x7 x8 x9 x10) = (e142 x0 x1 x2 x4 x5 x6 x7) := by kernel_rfl
def g114_18 (N : Nat) (k0 : V0 → V0 → Int → Int → V0 → Int → Int → Option R) (x0 x1 : V0) (x2 x3 x4 : Int) (x5 : V0) (x6 x7 : Int) (x8 : V0) (x9 x10 : Int) : Option R :=
l114_18 (fun y0 y1 y2 y3 y4 y5 y6 y7 y8 y9 y10 => k0 y0 y1 y2 y4 y5 y6 y7) N x0 x1 x2 x3 x4 x5 x6 x7 x8 x9 x10
theorem t114_18 (x0 x1 x2 x3 x4 x5 x6 x7 x8 x9 x10) : exec cl N c114_18 (e140 x0 x1 x2 x3 x4 x5 x6 x7 x8 x9 x10) K = (g114_18 N (fun y0 y1 y2 y3 y4 y5 y6 => K (.exit 2) (e142 y0 y1 y2 y3 y4 y5 y6)) x0 x1 x2 x3 x4 x5 x6 x7 x8 x9 x10) := by
 simp only [c114_18, exec_out, exec_loop, kp114_2, lt114_18, kp114_4]
 rfl
theorem kp114_5 (x0 x1 x2 x3 x4 x5 x6) : keep [1, 5, 6, 8, 17, 18, 19] (e142 x0 x1 x2 x3 x4 x5 x6) = (e142 x0 x1 x2 x3 x4 x5 x6) := by kernel_rfl
def g114_20 (k0 : V0 → V0 → V0 → Int → Int → Option R) (x0 x1 : V0) (x2 x3 : Int) (x4 : V0) (x5 x6 : Int) : Option R :=
let v666 : Int := (IntKind.i64.wrap (x2 + (x0.length : Int)))
if 0 ≤ v666 ∧ v666 < (x1.length : Int) then
if v666.toNat < x1.length then
if 0 ≤ v666 ∧ v666 < (x1.length : Int) then
if v666.toNat < x1.length then
k0 x0 (x1.set v666.toNat (IntKind.i64.wrap ((x1.getD v666.toNat (0 : Int)) + x3))) x4 x5 x6
else none
else none
else none
else none
theorem t114_20 (x0 x1 x2 x3 x4 x5 x6) : exec cl N c114_20 (e142 x0 x1 x2 x3 x4 x5 x6) K = (g114_20 (fun y0 y1 y2 y3 y4 => K .normal (e137 y0 y1 y2 y3 y4)) x0 x1 x2 x3 x4 x5 x6) := by
 kernel_rfl
def g114_23 (k0 : V0 → V0 → V0 → Int → Int → Option R) (x0 x1 x2 : V0) (x3 x4 : Int) : Option R :=
k0 x0 x1 x2 x3 (IntKind.i64.wrap (x4 + (1 : Int)))
theorem t114_23 (x0 x1 x2 x3 x4) : exec cl N c114_23 (e137 x0 x1 x2 x3 x4) K = (g114_23 (fun y0 y1 y2 y3 y4 => K .normal (e137 y0 y1 y2 y3 y4)) x0 x1 x2 x3 x4) := by
 kernel_rfl
def g114_24 (N : Nat) (k0 : V0 → V0 → V0 → Int → Int → Option R) (k1 : V0 → V0 → V0 → Int → Int → Option R) (x0 x1 x2 : V0) (x3 x4 : Int) : Option R :=
(g114_3 (fun y0 y1 y2 y3 y4 y5 => brB y5 ((g114_21 (g114_7 (g114_18 N ((g114_20 ((g114_23 k0))))))) y0 y1 y2 y3 y4) (k1 y0 y1 y2 y3 y4)) x0 x1 x2 x3 x4)
theorem t114_24 (x0 x1 x2 x3 x4) : exec cl N c114_24 (e137 x0 x1 x2 x3 x4) K = (g114_24 N (fun y0 y1 y2 y3 y4 => K .normal (e137 y0 y1 y2 y3 y4)) (fun y0 y1 y2 y3 y4 => K (.exit 0) (e137 y0 y1 y2 y3 y4)) x0 x1 x2 x3 x4) := by
 simp only [c114_24, exec_seq, seqK_normal, seqK_exit, seqK_ret, t114_3, c114_4, exec_out, exec_cond', hb114_0, Option.bind_some, brB_true, brB_false, exec_skip, exec_exit, kp114_1, c114_22, exec_block, t114_21, t114_7, c114_19, t114_18, blockK_normal, blockK_ret, blockK_eq, kp114_5, t114_20, kp114_0, t114_23]
 rfl
def l114_25 {R : Type} (N : Nat) (k0 : V0 → V0 → V0 → Int → Int → Option R) : Nat → V0 → V0 → V0 → Int → Int → Option R
 | 0, _, _, _, _, _ => none
 | m + 1, x0, x1, x2, x3, x4 => (g114_24 N (l114_25 N k0 m) k0 x0 x1 x2 x3 x4)
theorem lt114_25 : ∀ (m) (x0 x1 x2 x3 x4), iter [1, 5, 17, 18, 19] (fun env K => exec cl N c114_24 env K) K m (e137 x0 x1 x2 x3 x4) = l114_25 N (fun y0 y1 y2 y3 y4 => K (.exit 0) (e137 y0 y1 y2 y3 y4)) m x0 x1 x2 x3 x4 := by
 intro m
 induction m with
 | zero => intros; rfl
 | succ m ih =>
   intro x0 x1 x2 x3 x4
   simp only [iter_succ, t114_24, loopK_normal, loopK_exit, loopK_ret, kp114_0, ih]
   rfl
theorem kp114_6 (x0 x1 x2 x3 x4) : keep [5] (e137 x0 x1 x2 x3 x4) = (e38 x1) := by kernel_rfl
def g114_25 (N : Nat) (k0 : V0 → Option R) (x0 x1 x2 : V0) (x3 x4 : Int) : Option R :=
l114_25 N (fun y0 y1 y2 y3 y4 => k0 y1) N x0 x1 x2 x3 x4
theorem t114_25 (x0 x1 x2 x3 x4) : exec cl N c114_25 (e137 x0 x1 x2 x3 x4) K = (g114_25 N (fun y0 => K (.exit 0) (e38 y0)) x0 x1 x2 x3 x4) := by
 simp only [c114_25, exec_out, exec_loop, kp114_0, lt114_25, kp114_6]
 rfl
theorem kp114_7 (x0) : keep [5] (e38 x0) = (e38 x0) := by kernel_rfl
def g114_27 (S118 : V0 → Option V1) (k0 : V0 → Option R) (x0 : V0) : Option R :=
(S118 x0).bind fun r670 =>
k0 r670
theorem t114_27 (S118) (h118 : (ctr118 S118).holds cl) (x0) : exec cl N c114_27 (e38 x0) K = (g114_27 S118 (fun y0 => K .normal [(4, .v U2 y0)]) x0) := by
 rw [← put_eq h118]
 kernel_rfl
def g114_28b (N : Nat) (S118 : V0 → Option V1) (k0 : V0 → Option R) (x0 x1 : V0) : Option R :=
(g114_28 (g114_2 (g114_25 N ((g114_27 S118 k0)))) x0 x1)
theorem t114_28b (S118) (h118 : (ctr118 S118).holds cl) (x0 x1) : exec cl N c114_28 (e20 x0 x1) K = (g114_28b N S118 (fun y0 => K .ret [(4, .v U2 y0)]) x0 x1) := by
 simp only [exec_seq, seqK_normal, seqK_exit, seqK_ret, t114_28, t114_2, c114_26, exec_out, exec_block, t114_25, blockK_normal, blockK_ret, blockK_eq, kp114_7, t114_27 S118 h118, exec_ret]
 rfl
theorem rk114_0 (y0) : retK d114 .ret [(4, .v U2 y0)] = some [.v U2 y0] := by kernel_rfl
def g114 (N : Nat) (S118 : V0 → Option V1) (x0 x1 : V0) (k : V0 → Option R) : Option R :=
(g114_28b N S118 k x0 x1)
theorem gen114 (S118) (h118 : (ctr118 S118).holds cl) (x0 x1) (k : List E → Option R) : exec cl N c114 (e20 x0 x1) (fun e env => (retK d114 e env).bind k) = g114 N S118 x0 x1 (fun r0 => k [.v U2 r0]) := by
 simp only [c114, t114_28b S118 h118, rk114_0, Option.bind_some]
 rfl
def ctr114 (S : V0 → V0 → Option V1) : Ctr := cv2 114 U2 U2 S fun b => [.v U2 b]
def S114 (N : Nat) (x0 : V0) (x1 : V0) : Option V1 := g114 N (S118 N) x0 x1 (fun (r0 : V0) => some (r0))
def g96_0 (k0 : V0 → V0 → Option R) (x0 x1 : V0) : Option R :=
k0 x0 x1
theorem t96_0 (x0 x1) : exec cl N c96_0 (e20 x0 x1) K = (g96_0 (fun y0 y1 => K .normal (e20 y0 y1)) x0 x1) := by
 kernel_rfl
def g96_1 (k0 : V0 → V0 → Bool → Option R) (x0 x1 : V0) : Option R :=
k0 x0 x1 ((x0.length : Int) != (x1.length : Int))
theorem t96_1 (x0 x1) : exec cl N c96_1 (e20 x0 x1) K = (g96_1 (fun y0 y1 y2 => K .normal (e21 y0 y1 y2)) x0 x1) := by
 kernel_rfl
def g96_2 (k0 : Bool → Option R) (x0 x1 : V0) (x2 : Bool) : Option R :=
k0 (decide ((x0.length : Int) < (x1.length : Int)))
theorem t96_2 (x0 x1 x2) : exec cl N c96_2 (e21 x0 x1 x2) K = (g96_2 (fun y0 => K .normal [(15, .v .bool y0)]) x0 x1 x2) := by
 kernel_rfl
def g96_3 (k0 : Int → Option R) (x0 : Bool) : Option R :=
k0 (-1 : Int)
theorem t96_3 (x0) : exec cl N c96_3 [(15, .v .bool x0)] K = (g96_3 (fun y0 => K .normal [(4, .v U1 y0)]) x0) := by
 kernel_rfl
theorem kp96_0 (x0) : keep [4] [(4, .v U1 x0)] = [(4, .v U1 x0)] := by kernel_rfl
theorem kp96_1 (x0) : keep [4] [(15, .v .bool x0)] = [(4, .dead)] := by kernel_rfl
theorem hb96_0 (x0) : boolOf? (ent [(15, .v .bool x0)] (.t 15)) = some x0 := by kernel_rfl
def g96_5 (k0 : Int → Option R) : Option R :=
k0 (1 : Int)
theorem t96_5 : exec cl N c96_5 [(4, .dead)] K = (g96_5 (fun y0 => K .normal [(4, .v U1 y0)])) := by
 kernel_rfl
theorem kp96_2 (x0) : keep [0, 1, 4] [(4, .v U1 x0)] = (e22 x0) := by kernel_rfl
theorem kp96_3 (x0 x1 x2) : keep [0, 1, 4] (e21 x0 x1 x2) = (e23 x0 x1) := by kernel_rfl
theorem hb96_1 (x0 x1 x2) : boolOf? (ent (e21 x0 x1 x2) (.t 10)) = some x2 := by kernel_rfl
def g96_7 (k0 : V0 → V0 → Int → Option R) (x0 x1 : V0) : Option R :=
k0 x0 x1 (IntKind.i64.wrap ((x0.length : Int) - (1 : Int)))
theorem t96_7 (x0 x1) : exec cl N c96_7 (e23 x0 x1) K = (g96_7 (fun y0 y1 y2 => K .normal (e25 y0 y1 y2)) x0 x1) := by
 kernel_rfl
theorem kp96_4 (x0 x1 x2) : keep [0, 1, 5] (e25 x0 x1 x2) = (e25 x0 x1 x2) := by kernel_rfl
def g96_8 (k0 : V0 → V0 → Int → Bool → Option R) (x0 x1 : V0) (x2 : Int) : Option R :=
k0 x0 x1 x2 (decide (x2 ≥ (0 : Int)))
theorem t96_8 (x0 x1 x2) : exec cl N c96_8 (e25 x0 x1 x2) K = (g96_8 (fun y0 y1 y2 y3 => K .normal (e26 y0 y1 y2 y3)) x0 x1 x2) := by
 kernel_rfl
theorem kp96_5 (x0 x1 x2 x3) : keep [0, 1, 5] (e26 x0 x1 x2 x3) = (e25 x0 x1 x2) := by kernel_rfl
theorem hb96_2 (x0 x1 x2 x3) : boolOf? (ent (e26 x0 x1 x2 x3) (.t 20)) = some x3 := by kernel_rfl
def g96_10 (k0 : V0 → V0 → Int → Bool → Option R) (x0 x1 : V0) (x2 : Int) : Option R :=
if 0 ≤ x2 ∧ x2 < (x0.length : Int) then
if 0 ≤ x2 ∧ x2 < (x1.length : Int) then
k0 x0 x1 x2 ((x0.getD x2.toNat (0 : Int)) != (x1.getD x2.toNat (0 : Int)))
else none
else none
theorem t96_10 (x0 x1 x2) : exec cl N c96_10 (e25 x0 x1 x2) K = (g96_10 (fun y0 y1 y2 y3 => K .normal (e27 y0 y1 y2 y3)) x0 x1 x2) := by
 kernel_rfl
def g96_11 (k0 : Bool → Option R) (x0 x1 : V0) (x2 : Int) (x3 : Bool) : Option R :=
if 0 ≤ x2 ∧ x2 < (x0.length : Int) then
if 0 ≤ x2 ∧ x2 < (x1.length : Int) then
k0 (decide ((x0.getD x2.toNat (0 : Int)) < (x1.getD x2.toNat (0 : Int))))
else none
else none
theorem t96_11 (x0 x1 x2 x3) : exec cl N c96_11 (e27 x0 x1 x2 x3) K = (g96_11 (fun y0 => K .normal [(40, .v .bool y0)]) x0 x1 x2 x3) := by
 kernel_rfl
def g96_12 (k0 : Int → Option R) (x0 : Bool) : Option R :=
k0 (-1 : Int)
theorem t96_12 (x0) : exec cl N c96_12 [(40, .v .bool x0)] K = (g96_12 (fun y0 => K .normal [(4, .v U1 y0)]) x0) := by
 kernel_rfl
theorem kp96_6 (x0) : keep [4] [(40, .v .bool x0)] = [(4, .dead)] := by kernel_rfl
theorem hb96_3 (x0) : boolOf? (ent [(40, .v .bool x0)] (.t 40)) = some x0 := by kernel_rfl
def g96_14 (k0 : Int → Option R) : Option R :=
k0 (1 : Int)
theorem t96_14 : exec cl N c96_14 [(4, .dead)] K = (g96_14 (fun y0 => K .normal [(4, .v U1 y0)])) := by
 kernel_rfl
theorem kp96_7 (x0) : keep [0, 1, 4, 5] [(4, .v U1 x0)] = (e28 x0) := by kernel_rfl
theorem kp96_8 (x0 x1 x2 x3) : keep [0, 1, 4, 5] (e27 x0 x1 x2 x3) = (e29 x0 x1 x2) := by kernel_rfl
theorem hb96_4 (x0 x1 x2 x3) : boolOf? (ent (e27 x0 x1 x2 x3) (.t 31)) = some x3 := by kernel_rfl
theorem kp96_9 (x0) : keep [0, 1, 4, 5] (e28 x0) = (e28 x0) := by kernel_rfl
theorem kp96_10 (x0 x1 x2) : keep [0, 1, 4, 5] (e29 x0 x1 x2) = (e29 x0 x1 x2) := by kernel_rfl
def g96_17 (k0 : V0 → V0 → Int → Option R) (x0 x1 : V0) (x2 : Int) : Option R :=
k0 x0 x1 (IntKind.i64.wrap (x2 - (1 : Int)))
theorem t96_17 (x0 x1 x2) : exec cl N c96_17 (e29 x0 x1 x2) K = (g96_17 (fun y0 y1 y2 => K .normal (e25 y0 y1 y2)) x0 x1 x2) := by
 kernel_rfl
def g96_18 (k0 : Int → Option R) (k1 : V0 → V0 → Int → Option R) (k2 : V0 → V0 → Int → Option R) (x0 x1 : V0) (x2 : Int) : Option R :=
(g96_8 (fun y0 y1 y2 y3 => brB y3 ((g96_10 (fun y0 y1 y2 y3 => brB y3 (g96_11 (fun y0 => brB y0 (g96_12 k0 y0) (g96_14 k0)) y0 y1 y2 y3) (((g96_17 k1)) y0 y1 y2))) y0 y1 y2) (k2 y0 y1 y2)) x0 x1 x2)
theorem t96_18 (x0 x1 x2) : exec cl N c96_18 (e25 x0 x1 x2) K = (g96_18 (fun y0 => K .ret (e28 y0)) (fun y0 y1 y2 => K .normal (e25 y0 y1 y2)) (fun y0 y1 y2 => K (.exit 0) (e25 y0 y1 y2)) x0 x1 x2) := by
 simp only [c96_18, exec_seq, seqK_normal, seqK_exit, seqK_ret, t96_8, c96_9, exec_out, exec_cond', hb96_2, Option.bind_some, brB_true, brB_false, exec_skip, exec_exit, kp96_5, c96_16, exec_block, t96_10, c96_15, hb96_4, t96_11, c96_13, hb96_3, t96_12, exec_ret, kp96_0, kp96_6, t96_14, kp96_7, kp96_8, blockK_normal, blockK_ret, blockK_eq, kp96_10, kp96_9, t96_17]
 rfl
def l96_19 {R : Type} (k0 : Int → Option R) (k1 : V0 → V0 → Int → Option R) : Nat → V0 → V0 → Int → Option R
 | 0, _, _, _ => none
 | m + 1, x0, x1, x2 => (g96_18 k0 (l96_19 k0 k1 m) k1 x0 x1 x2)
theorem lt96_19 : ∀ (m) (x0 x1 x2), iter [0, 1, 5] (fun env K => exec cl N c96_18 env K) K m (e25 x0 x1 x2) = l96_19 (fun y0 => K .ret (e28 y0)) (fun y0 y1 y2 => K (.exit 0) (e25 y0 y1 y2)) m x0 x1 x2 := by
 intro m
 induction m with
 | zero => intros; rfl
 | succ m ih =>
   intro x0 x1 x2
   simp only [iter_succ, t96_18, loopK_normal, loopK_exit, loopK_ret, kp96_4, ih]
   rfl
theorem kp96_11 (x0) : keep [4] (e28 x0) = [(4, .v U1 x0)] := by kernel_rfl
theorem kp96_12 (x0 x1 x2) : keep [4] (e25 x0 x1 x2) = [(4, .dead)] := by kernel_rfl
def g96_19 (N : Nat) (k0 : Int → Option R) (k1 : Option R) (x0 x1 : V0) (x2 : Int) : Option R :=
l96_19 k0 (fun y0 y1 y2 => k1) N x0 x1 x2
theorem t96_19 (x0 x1 x2) : exec cl N c96_19 (e25 x0 x1 x2) K = (g96_19 N (fun y0 => K .ret [(4, .v U1 y0)]) (K (.exit 0) [(4, .dead)]) x0 x1 x2) := by
 simp only [c96_19, exec_out, exec_loop, kp96_4, lt96_19, kp96_11, kp96_12]
 rfl
theorem kp96_13 : keep [4] [(4, .dead)] = [(4, .dead)] := by kernel_rfl
def g96_21 (k0 : Int → Option R) : Option R :=
k0 (0 : Int)
theorem t96_21 : exec cl N c96_21 [(4, .dead)] K = (g96_21 (fun y0 => K .normal [(4, .v U1 y0)])) := by
 kernel_rfl
def g96_22 (N : Nat) (k0 : Int → Option R) (k1 : Int → Option R) (x0 x1 : V0) : Option R :=
(g96_0 (g96_1 (fun y0 y1 y2 => brB y2 (g96_2 (fun y0 => brB y0 (g96_3 k0 y0) (g96_5 k0)) y0 y1 y2) ((g96_7 (g96_19 N k1 (g96_21 k1))) y0 y1))) x0 x1)
theorem t96_22 (x0 x1) : exec cl N c96_22 (e20 x0 x1) K = (g96_22 N (fun y0 => K .ret (e22 y0)) (fun y0 => K .ret [(4, .v U1 y0)]) x0 x1) := by
 simp only [c96_22, exec_seq, seqK_normal, seqK_exit, seqK_ret, t96_0, t96_1, c96_6, exec_out, exec_cond', hb96_1, Option.bind_some, brB_true, brB_false, t96_2, c96_4, hb96_0, t96_3, exec_ret, exec_skip, kp96_0, kp96_1, t96_5, kp96_2, kp96_3, t96_7, c96_20, exec_block, t96_19, blockK_normal, blockK_ret, blockK_eq, kp96_13, t96_21]
 rfl
theorem rk96_0 (y0) : retK d96 .ret (e22 y0) = some [.v U1 y0] := by kernel_rfl
theorem rk96_1 (y0) : retK d96 .ret [(4, .v U1 y0)] = some [.v U1 y0] := by kernel_rfl
def g96 (N : Nat) (x0 x1 : V0) (k : Int → Option R) : Option R :=
(g96_22 N k k x0 x1)
theorem gen96 (x0 x1) (k : List E → Option R) : exec cl N c96 (e20 x0 x1) (fun e env => (retK d96 e env).bind k) = g96 N x0 x1 (fun r0 => k [.v U1 r0]) := by
 simp only [c96, t96_22, rk96_0, rk96_1, Option.bind_some]
 rfl
def ctr96 (S : V0 → V0 → Option (Int)) : Ctr := cv2 96 U2 U2 S fun b => [.v U1 b]
def S96 (N : Nat) (x0 : V0) (x1 : V0) : Option (Int) := g96 N x0 x1 (fun (r0 : Int) => some (r0))
def g119_26 (S117 : V0 → Option V1) (k0 : V0 → V0 → Int → Option R) (x0 x1 : V0) : Option R :=
(S117 x0).bind fun r708 =>
k0 x1 r708 (0 : Int)
theorem t119_26 (S117) (h117 : (ctr117 S117).holds cl) (x0 x1) : exec cl N c119_26 (e20 x0 x1) K = (g119_26 S117 (fun y0 y1 y2 => exec cl N (.seq (.seq c119_3 c119_24) (.seq c119_25 .ret)) [(1, .v U2 y0), (5, .own true 3 U1 .no y1), (6, .v U1 y2)] K) x0 x1) := by
 rw [← put_eq h117]
 kernel_rfl
def g119_3 (k0 : V0 → V0 → Int → Int → Int → Option R) (x0 x1 : V0) (x2 : Int) : Option R :=
k0 x0 x1 x2 (x1.length : Int) (0 : Int)
theorem t119_3 (x0 x1 x2) : exec cl N c119_3 [(1, .v U2 x0), (5, .own true 3 U1 .no x1), (6, .v U1 x2)] K = (g119_3 (fun y0 y1 y2 y3 y4 => K .normal (e143 y0 y1 y2 y3 y4)) x0 x1 x2) := by
 kernel_rfl
theorem kp119_0 (x0 x1 x2 x3 x4) : keep [1, 5, 6, 11, 12] (e143 x0 x1 x2 x3 x4) = (e143 x0 x1 x2 x3 x4) := by kernel_rfl
def g119_4 (k0 : V0 → V0 → Int → Int → Int → Bool → Option R) (x0 x1 : V0) (x2 x3 x4 : Int) : Option R :=
k0 x0 x1 x2 x3 x4 (decide (x4 < x3))
theorem t119_4 (x0 x1 x2 x3 x4) : exec cl N c119_4 (e143 x0 x1 x2 x3 x4) K = (g119_4 (fun y0 y1 y2 y3 y4 y5 => K .normal (e144 y0 y1 y2 y3 y4 y5)) x0 x1 x2 x3 x4) := by
 kernel_rfl
theorem kp119_1 (x0 x1 x2 x3 x4 x5) : keep [1, 5, 6, 11, 12] (e144 x0 x1 x2 x3 x4 x5) = (e143 x0 x1 x2 x3 x4) := by kernel_rfl
theorem hb119_0 (x0 x1 x2 x3 x4 x5) : boolOf? (ent (e144 x0 x1 x2 x3 x4 x5) (.t 13)) = some x5 := by kernel_rfl
def g119_19 (k0 : V0 → V0 → Int → Int → Int → Option R) (x0 x1 : V0) (x2 x3 x4 : Int) : Option R :=
if 0 ≤ x4 ∧ x4 < (x1.length : Int) then
if x4.toNat < x1.length then
if 0 ≤ x4 ∧ x4 < (x1.length : Int) then
if x4.toNat < x1.length then
k0 x0 (x1.set x4.toNat (IntKind.i64.wrap ((x1.getD x4.toNat (0 : Int)) - x2))) x4 x3 x4
else none
else none
else none
else none
theorem t119_19 (x0 x1 x2 x3 x4) : exec cl N c119_19 (e143 x0 x1 x2 x3 x4) K = (g119_19 (fun y0 y1 y2 y3 y4 => exec cl N (.seq c119_11 c119_18) (e145 y0 y1 y2 y3 y4) K) x0 x1 x2 x3 x4) := by
 kernel_rfl
def g119_8 (k0 : V0 → V0 → Int → Int → Int → Bool → Option R) (x0 x1 : V0) (x2 x3 x4 : Int) : Option R :=
k0 x0 x1 x2 x3 x4 (decide (x2 < (x0.length : Int)))
theorem t119_8 (x0 x1 x2 x3 x4) : exec cl N c119_8 (e145 x0 x1 x2 x3 x4) K = (g119_8 (fun y0 y1 y2 y3 y4 y5 => K .normal (e146 y0 y1 y2 y3 y4 y5)) x0 x1 x2 x3 x4) := by
 kernel_rfl
def g119_9 (k0 : V0 → V0 → Int → Int → Int → Option R) (x0 x1 : V0) (x2 x3 x4 : Int) (x5 : Bool) : Option R :=
if 0 ≤ x2 ∧ x2 < (x1.length : Int) then
if x2.toNat < x1.length then
if 0 ≤ x2 ∧ x2 < (x0.length : Int) then
if 0 ≤ x2 ∧ x2 < (x1.length : Int) then
if x2.toNat < x1.length then
k0 x0 (x1.set x2.toNat (IntKind.i64.wrap ((x1.getD x2.toNat (0 : Int)) - (x0.getD x2.toNat (0 : Int))))) x2 x3 x4
else none
else none
else none
else none
else none
theorem t119_9 (x0 x1 x2 x3 x4 x5) : exec cl N c119_9 (e146 x0 x1 x2 x3 x4 x5) K = (g119_9 (fun y0 y1 y2 y3 y4 => K .normal (e145 y0 y1 y2 y3 y4)) x0 x1 x2 x3 x4 x5) := by
 kernel_rfl
theorem kp119_2 (x0 x1 x2 x3 x4) : keep [1, 5, 7, 11, 12] (e145 x0 x1 x2 x3 x4) = (e145 x0 x1 x2 x3 x4) := by kernel_rfl
theorem kp119_3 (x0 x1 x2 x3 x4 x5) : keep [1, 5, 7, 11, 12] (e146 x0 x1 x2 x3 x4 x5) = (e145 x0 x1 x2 x3 x4) := by kernel_rfl
theorem hb119_1 (x0 x1 x2 x3 x4 x5) : boolOf? (ent (e146 x0 x1 x2 x3 x4 x5) (.t 25)) = some x5 := by kernel_rfl
def g119_11 (k0 : V0 → V0 → Int → Int → Int → Option R) (x0 x1 : V0) (x2 x3 x4 : Int) : Option R :=
(g119_8 (fun y0 y1 y2 y3 y4 y5 => brB y5 (g119_9 k0 y0 y1 y2 y3 y4 y5) (k0 y0 y1 y2 y3 y4)) x0 x1 x2 x3 x4)
theorem t119_11 (x0 x1 x2 x3 x4) : exec cl N c119_11 (e145 x0 x1 x2 x3 x4) K = (g119_11 (fun y0 y1 y2 y3 y4 => K .normal (e145 y0 y1 y2 y3 y4)) x0 x1 x2 x3 x4) := by
 simp only [c119_11, exec_seq, seqK_normal, seqK_exit, seqK_ret, t119_8, c119_10, exec_out, exec_cond', hb119_1, Option.bind_some, brB_true, brB_false, t119_9, exec_skip, kp119_2, kp119_3]
 rfl
def g119_18 (k0 : V0 → V0 → Int → Int → Int → Int → Bool → Option R) (x0 x1 : V0) (x2 x3 x4 : Int) : Option R :=
if 0 ≤ x2 ∧ x2 < (x1.length : Int) then
if x2.toNat < x1.length then
k0 x0 x1 (0 : Int) x2 x3 x4 (decide ((x1.getD x2.toNat (0 : Int)) < (0 : Int)))
else none
else none
theorem t119_18 (x0 x1 x2 x3 x4) : exec cl N c119_18 (e145 x0 x1 x2 x3 x4) K = (g119_18 (fun y0 y1 y2 y3 y4 y5 y6 => exec cl N c119_17 (e147 y0 y1 y2 y3 y4 y5 y6) K) x0 x1 x2 x3 x4) := by
 kernel_rfl
def g119_16 (k0 : V0 → V0 → Int → Int → Int → Option R) (x0 x1 : V0) (x2 x3 x4 x5 : Int) (x6 : Bool) : Option R :=
if 0 ≤ x3 ∧ x3 < (x1.length : Int) then
if x3.toNat < x1.length then
if 0 ≤ x3 ∧ x3 < (x1.length : Int) then
if x3.toNat < x1.length then
k0 x0 (x1.set x3.toNat (IntKind.i64.wrap ((x1.getD x3.toNat (0 : Int)) + (10000 : Int)))) (1 : Int) x4 x5
else none
else none
else none
else none
theorem t119_16 (x0 x1 x2 x3 x4 x5 x6) : exec cl N c119_16 (e147 x0 x1 x2 x3 x4 x5 x6) K = (g119_16 (fun y0 y1 y2 y3 y4 => K .normal (e143 y0 y1 y2 y3 y4)) x0 x1 x2 x3 x4 x5 x6) := by
 kernel_rfl
theorem kp119_4 (x0 x1 x2 x3 x4 x5 x6) : keep [1, 5, 6, 11, 12] (e147 x0 x1 x2 x3 x4 x5 x6) = (e143 x0 x1 x2 x4 x5) := by kernel_rfl
theorem hb119_2 (x0 x1 x2 x3 x4 x5 x6) : boolOf? (ent (e147 x0 x1 x2 x3 x4 x5 x6) (.t 40)) = some x6 := by kernel_rfl
def g119_20 (k0 : V0 → V0 → Int → Int → Int → Option R) (x0 x1 : V0) (x2 x3 x4 : Int) : Option R :=
(g119_19 (g119_11 (g119_18 (fun y0 y1 y2 y3 y4 y5 y6 => brB y6 (g119_16 k0 y0 y1 y2 y3 y4 y5 y6) (k0 y0 y1 y2 y4 y5)))) x0 x1 x2 x3 x4)
theorem t119_20 (x0 x1 x2 x3 x4) : exec cl N c119_20 (e143 x0 x1 x2 x3 x4) K = (g119_20 (fun y0 y1 y2 y3 y4 => K .normal (e143 y0 y1 y2 y3 y4)) x0 x1 x2 x3 x4) := by
 simp only [c119_20, exec_out, exec_block, exec_seq, seqK_normal, seqK_exit, seqK_ret, t119_19, t119_11, t119_18, c119_17, exec_cond', hb119_2, Option.bind_some, brB_true, brB_false, t119_16, exec_skip, kp119_0, kp119_4, blockK_normal, blockK_ret, blockK_eq]
 rfl
def g119_21 (k0 : V0 → V0 → Int → Int → Int → Option R) (x0 x1 : V0) (x2 x3 x4 : Int) : Option R :=
k0 x0 x1 x2 x3 (IntKind.i64.wrap (x4 + (1 : Int)))
theorem t119_21 (x0 x1 x2 x3 x4) : exec cl N c119_21 (e143 x0 x1 x2 x3 x4) K = (g119_21 (fun y0 y1 y2 y3 y4 => K .normal (e143 y0 y1 y2 y3 y4)) x0 x1 x2 x3 x4) := by
 kernel_rfl
def g119_22 (k0 : V0 → V0 → Int → Int → Int → Option R) (k1 : V0 → V0 → Int → Int → Int → Option R) (x0 x1 : V0) (x2 x3 x4 : Int) : Option R :=
(g119_4 (fun y0 y1 y2 y3 y4 y5 => brB y5 ((g119_20 (g119_21 k0)) y0 y1 y2 y3 y4) (k1 y0 y1 y2 y3 y4)) x0 x1 x2 x3 x4)
theorem t119_22 (x0 x1 x2 x3 x4) : exec cl N c119_22 (e143 x0 x1 x2 x3 x4) K = (g119_22 (fun y0 y1 y2 y3 y4 => K .normal (e143 y0 y1 y2 y3 y4)) (fun y0 y1 y2 y3 y4 => K (.exit 0) (e143 y0 y1 y2 y3 y4)) x0 x1 x2 x3 x4) := by
 simp only [c119_22, exec_seq, seqK_normal, seqK_exit, seqK_ret, t119_4, c119_5, exec_out, exec_cond', hb119_0, Option.bind_some, brB_true, brB_false, exec_skip, exec_exit, kp119_1, t119_20, t119_21]
 rfl
def l119_23 {R : Type} (k0 : V0 → V0 → Int → Int → Int → Option R) : Nat → V0 → V0 → Int → Int → Int → Option R
 | 0, _, _, _, _, _ => none
 | m + 1, x0, x1, x2, x3, x4 => (g119_22 (l119_23 k0 m) k0 x0 x1 x2 x3 x4)
theorem lt119_23 : ∀ (m) (x0 x1 x2 x3 x4), iter [1, 5, 6, 11, 12] (fun env K => exec cl N c119_22 env K) K m (e143 x0 x1 x2 x3 x4) = l119_23 (fun y0 y1 y2 y3 y4 => K (.exit 0) (e143 y0 y1 y2 y3 y4)) m x0 x1 x2 x3 x4 := by
 intro m
 induction m with
 | zero => intros; rfl
 | succ m ih =>
   intro x0 x1 x2 x3 x4
   simp only [iter_succ, t119_22, loopK_normal, loopK_exit, loopK_ret, kp119_0, ih]
   rfl
theorem kp119_5 (x0 x1 x2 x3 x4) : keep [5] (e143 x0 x1 x2 x3 x4) = (e38 x1) := by kernel_rfl
def g119_23 (N : Nat) (k0 : V0 → Option R) (x0 x1 : V0) (x2 x3 x4 : Int) : Option R :=
l119_23 (fun y0 y1 y2 y3 y4 => k0 y1) N x0 x1 x2 x3 x4
theorem t119_23 (x0 x1 x2 x3 x4) : exec cl N c119_23 (e143 x0 x1 x2 x3 x4) K = (g119_23 N (fun y0 => K (.exit 0) (e38 y0)) x0 x1 x2 x3 x4) := by
 simp only [c119_23, exec_out, exec_loop, kp119_0, lt119_23, kp119_5]
 rfl
theorem kp119_6 (x0) : keep [5] (e38 x0) = (e38 x0) := by kernel_rfl
def g119_25 (S118 : V0 → Option V1) (k0 : V0 → Option R) (x0 : V0) : Option R :=
(S118 x0).bind fun r722 =>
k0 r722
theorem t119_25 (S118) (h118 : (ctr118 S118).holds cl) (x0) : exec cl N c119_25 (e38 x0) K = (g119_25 S118 (fun y0 => K .normal [(4, .v U2 y0)]) x0) := by
 rw [← put_eq h118]
 kernel_rfl
def g119_26b (N : Nat) (S117 : V0 → Option V1) (S118 : V0 → Option V1) (k0 : V0 → Option R) (x0 x1 : V0) : Option R :=
(g119_26 S117 (g119_3 (g119_23 N ((g119_25 S118 k0)))) x0 x1)
theorem t119_26b (S117) (S118) (h117 : (ctr117 S117).holds cl) (h118 : (ctr118 S118).holds cl) (x0 x1) : exec cl N c119_26 (e20 x0 x1) K = (g119_26b N S117 S118 (fun y0 => K .ret [(4, .v U2 y0)]) x0 x1) := by
 simp only [exec_seq, seqK_normal, seqK_exit, seqK_ret, t119_26 S117 h117, t119_3, c119_24, exec_out, exec_block, t119_23, blockK_normal, blockK_ret, blockK_eq, kp119_6, t119_25 S118 h118, exec_ret]
 rfl
theorem rk119_0 (y0) : retK d119 .ret [(4, .v U2 y0)] = some [.v U2 y0] := by kernel_rfl
def g119 (N : Nat) (S117 : V0 → Option V1) (S118 : V0 → Option V1) (x0 x1 : V0) (k : V0 → Option R) : Option R :=
(g119_26b N S117 S118 k x0 x1)
theorem gen119 (S117) (S118) (h117 : (ctr117 S117).holds cl) (h118 : (ctr118 S118).holds cl) (x0 x1) (k : List E → Option R) : exec cl N c119 (e20 x0 x1) (fun e env => (retK d119 e env).bind k) = g119 N S117 S118 x0 x1 (fun r0 => k [.v U2 r0]) := by
 simp only [c119, t119_26b S117 S118 h117 h118, rk119_0, Option.bind_some]
 rfl
def ctr119 (S : V0 → V0 → Option V1) : Ctr := cv2 119 U2 U2 S fun b => [.v U2 b]
def S119 (N : Nat) (x0 : V0) (x1 : V0) : Option V1 := g119 N (S117 N) (S118 N) x0 x1 (fun (r0 : V0) => some (r0))
def g115_33 (k0 : V0 → V0 → V0 → V0 → Option R) (x0 x1 : V0) : Option R :=
k0 x0 x1 [] []
theorem t115_33 (x0 x1) : exec cl N c115_33 (e20 x0 x1) K = (g115_33 (fun y0 y1 y2 y3 => exec cl N (.seq (.seq c115_2 c115_29) c115_32) (e66 y0 y1 y2 y3) K) x0 x1) := by
 kernel_rfl
def g115_2 (k0 : V0 → V0 → V0 → V0 → Int → Option R) (x0 x1 x2 x3 : V0) : Option R :=
k0 x0 x1 x2 x3 (IntKind.i64.wrap ((x0.length : Int) - (1 : Int)))
theorem t115_2 (x0 x1 x2 x3) : exec cl N c115_2 (e66 x0 x1 x2 x3) K = (g115_2 (fun y0 y1 y2 y3 y4 => K .normal (e67 y0 y1 y2 y3 y4)) x0 x1 x2 x3) := by
 kernel_rfl
theorem kp115_0 (x0 x1 x2 x3 x4) : keep [0, 1, 6, 7, 8] (e67 x0 x1 x2 x3 x4) = (e67 x0 x1 x2 x3 x4) := by kernel_rfl
def g115_3 (k0 : V0 → V0 → V0 → V0 → Int → Bool → Option R) (x0 x1 x2 x3 : V0) (x4 : Int) : Option R :=
k0 x0 x1 x2 x3 x4 (decide (x4 ≥ (0 : Int)))
theorem t115_3 (x0 x1 x2 x3 x4) : exec cl N c115_3 (e67 x0 x1 x2 x3 x4) K = (g115_3 (fun y0 y1 y2 y3 y4 y5 => K .normal (e148 y0 y1 y2 y3 y4 y5)) x0 x1 x2 x3 x4) := by
 kernel_rfl
theorem kp115_1 (x0 x1 x2 x3 x4 x5) : keep [0, 1, 6, 7, 8] (e148 x0 x1 x2 x3 x4 x5) = (e67 x0 x1 x2 x3 x4) := by kernel_rfl
theorem hb115_0 (x0 x1 x2 x3 x4 x5) : boolOf? (ent (e148 x0 x1 x2 x3 x4 x5) (.t 16)) = some x5 := by kernel_rfl
def g115_24 (S118 : V0 → Option V1) (k0 : V0 → V0 → V0 → V0 → Int → Int → Int → Option R) (x0 x1 x2 x3 : V0) (x4 : Int) : Option R :=
if 0 ≤ x4 ∧ x4 < (x0.length : Int) then
if [(x0.getD x4.toNat (0 : Int))].length + x3.length ≤ 17592186044416 then
(S118 ([(x0.getD x4.toNat (0 : Int))] ++ x3)).bind fun r731 =>
k0 x0 x1 x2 r731 x4 (0 : Int) (9999 : Int)
else none
else none
theorem t115_24 (S118) (h118 : (ctr118 S118).holds cl) (x0 x1 x2 x3 x4) : exec cl N c115_24 (e67 x0 x1 x2 x3 x4) K = (g115_24 S118 (fun y0 y1 y2 y3 y4 y5 y6 => exec cl N (.seq c115_18 (.seq c115_22 c115_23)) (e69 y0 y1 y2 y3 y4 y5 y6) K) x0 x1 x2 x3 x4) := by
 rw [← put_eq h118]
 kernel_rfl
theorem kp115_2 (x0 x1 x2 x3 x4 x5 x6) : keep [0, 1, 6, 7, 8, 9, 10] (e69 x0 x1 x2 x3 x4 x5 x6) = (e69 x0 x1 x2 x3 x4 x5 x6) := by kernel_rfl
def g115_7 (k0 : V0 → V0 → V0 → V0 → Int → Int → Int → Bool → Option R) (x0 x1 x2 x3 : V0) (x4 x5 x6 : Int) : Option R :=
k0 x0 x1 x2 x3 x4 x5 x6 (decide (x5 < x6))
theorem t115_7 (x0 x1 x2 x3 x4 x5 x6) : exec cl N c115_7 (e69 x0 x1 x2 x3 x4 x5 x6) K = (g115_7 (fun y0 y1 y2 y3 y4 y5 y6 y7 => K .normal (e149 y0 y1 y2 y3 y4 y5 y6 y7)) x0 x1 x2 x3 x4 x5 x6) := by
 kernel_rfl
theorem kp115_3 (x0 x1 x2 x3 x4 x5 x6 x7) : keep [0, 1, 6, 7, 8, 9, 10] (e149 x0 x1 x2 x3 x4 x5 x6 x7) = (e69 x0 x1 x2 x3 x4 x5 x6) := by kernel_rfl
theorem hb115_1 (x0 x1 x2 x3 x4 x5 x6 x7) : boolOf? (ent (e149 x0 x1 x2 x3 x4 x5 x6 x7) (.t 29)) = some x7 := by kernel_rfl
def g115_14 (S96 : V0 → V0 → Option (Int)) (S114 : V0 → V0 → Option V1) (k0 : V0 → V0 → V0 → V0 → Int → Int → Int → Int → Bool → Option R) (x0 x1 x2 x3 : V0) (x4 x5 x6 : Int) : Option R :=
let v738 : Int := (IntKind.i64.wrap (Int.tdiv (IntKind.i64.wrap ((IntKind.i64.wrap (x5 + x6)) + (1 : Int))) (2 : Int)))
(S114 x1 [v738]).bind fun r739 =>
(S96 r739 x3).bind fun r740 =>
k0 x0 x1 x2 x3 x4 x5 x6 v738 (decide (r740 ≤ (0 : Int)))
theorem t115_14 (S96) (S114) (h96 : (ctr96 S96).holds cl) (h114 : (ctr114 S114).holds cl) (x0 x1 x2 x3 x4 x5 x6) : exec cl N c115_14 (e69 x0 x1 x2 x3 x4 x5 x6) K = (g115_14 S96 S114 (fun y0 y1 y2 y3 y4 y5 y6 y7 y8 => exec cl N c115_13 (e150 y0 y1 y2 y3 y4 y5 y6 y7 y8) K) x0 x1 x2 x3 x4 x5 x6) := by
 rw [← put_eq h96]
 rw [← put_eq h114]
 kernel_rfl
def g115_11 (k0 : V0 → V0 → V0 → V0 → Int → Int → Int → Option R) (x0 x1 x2 x3 : V0) (x4 x5 x6 x7 : Int) (x8 : Bool) : Option R :=
k0 x0 x1 x2 x3 x4 x7 x6
theorem t115_11 (x0 x1 x2 x3 x4 x5 x6 x7 x8) : exec cl N c115_11 (e150 x0 x1 x2 x3 x4 x5 x6 x7 x8) K = (g115_11 (fun y0 y1 y2 y3 y4 y5 y6 => K .normal (e69 y0 y1 y2 y3 y4 y5 y6)) x0 x1 x2 x3 x4 x5 x6 x7 x8) := by
 kernel_rfl
def g115_12 (k0 : V0 → V0 → V0 → V0 → Int → Int → Int → Option R) (x0 x1 x2 x3 : V0) (x4 x5 x6 x7 : Int) (x8 : Bool) : Option R :=
k0 x0 x1 x2 x3 x4 x5 (IntKind.i64.wrap (x7 - (1 : Int)))
theorem t115_12 (x0 x1 x2 x3 x4 x5 x6 x7 x8) : exec cl N c115_12 (e150 x0 x1 x2 x3 x4 x5 x6 x7 x8) K = (g115_12 (fun y0 y1 y2 y3 y4 y5 y6 => K .normal (e69 y0 y1 y2 y3 y4 y5 y6)) x0 x1 x2 x3 x4 x5 x6 x7 x8) := by
 kernel_rfl
theorem hb115_2 (x0 x1 x2 x3 x4 x5 x6 x7 x8) : boolOf? (ent (e150 x0 x1 x2 x3 x4 x5 x6 x7 x8) (.t 41)) = some x8 := by kernel_rfl
def g115_16 (S96 : V0 → V0 → Option (Int)) (S114 : V0 → V0 → Option V1) (k0 : V0 → V0 → V0 → V0 → Int → Int → Int → Option R) (k1 : V0 → V0 → V0 → V0 → Int → Int → Int → Option R) (x0 x1 x2 x3 : V0) (x4 x5 x6 : Int) : Option R :=
(g115_7 (fun y0 y1 y2 y3 y4 y5 y6 y7 => brB y7 ((g115_14 S96 S114 (fun y0 y1 y2 y3 y4 y5 y6 y7 y8 => brB y8 (g115_11 k0 y0 y1 y2 y3 y4 y5 y6 y7 y8) (g115_12 k0 y0 y1 y2 y3 y4 y5 y6 y7 y8))) y0 y1 y2 y3 y4 y5 y6) (k1 y0 y1 y2 y3 y4 y5 y6)) x0 x1 x2 x3 x4 x5 x6)
theorem t115_16 (S96) (S114) (h96 : (ctr96 S96).holds cl) (h114 : (ctr114 S114).holds cl) (x0 x1 x2 x3 x4 x5 x6) : exec cl N c115_16 (e69 x0 x1 x2 x3 x4 x5 x6) K = (g115_16 S96 S114 (fun y0 y1 y2 y3 y4 y5 y6 => K .normal (e69 y0 y1 y2 y3 y4 y5 y6)) (fun y0 y1 y2 y3 y4 y5 y6 => K (.exit 2) (e69 y0 y1 y2 y3 y4 y5 y6)) x0 x1 x2 x3 x4 x5 x6) := by
 simp only [c115_16, exec_seq, seqK_normal, seqK_exit, seqK_ret, t115_7, c115_8, exec_out, exec_cond', hb115_1, Option.bind_some, brB_true, brB_false, exec_skip, exec_exit, kp115_3, c115_15, exec_block, t115_14 S96 S114 h96 h114, c115_13, hb115_2, t115_11, t115_12, kp115_2, blockK_normal, blockK_ret, blockK_eq]
 rfl
def l115_17 {R : Type} (S96 : V0 → V0 → Option (Int)) (S114 : V0 → V0 → Option V1) (k0 : V0 → V0 → V0 → V0 → Int → Int → Int → Option R) : Nat → V0 → V0 → V0 → V0 → Int → Int → Int → Option R
 | 0, _, _, _, _, _, _, _ => none
 | m + 1, x0, x1, x2, x3, x4, x5, x6 => (g115_16 S96 S114 (l115_17 S96 S114 k0 m) k0 x0 x1 x2 x3 x4 x5 x6)
theorem lt115_17 (S96) (S114) (h96 : (ctr96 S96).holds cl) (h114 : (ctr114 S114).holds cl) : ∀ (m) (x0 x1 x2 x3 x4 x5 x6), iter [0, 1, 6, 7, 8, 9, 10] (fun env K => exec cl N c115_16 env K) K m (e69 x0 x1 x2 x3 x4 x5 x6) = l115_17 S96 S114 (fun y0 y1 y2 y3 y4 y5 y6 => K (.exit 2) (e69 y0 y1 y2 y3 y4 y5 y6)) m x0 x1 x2 x3 x4 x5 x6 := by
 intro m
 induction m with
 | zero => intros; rfl
 | succ m ih =>
   intro x0 x1 x2 x3 x4 x5 x6
   simp only [iter_succ, t115_16 S96 S114 h96 h114, loopK_normal, loopK_exit, loopK_ret, kp115_2, ih]
   rfl
theorem kp115_4 (x0 x1 x2 x3 x4 x5 x6) : keep [0, 1, 6, 7, 8, 9] (e69 x0 x1 x2 x3 x4 x5 x6) = (e72 x0 x1 x2 x3 x4 x5) := by kernel_rfl
def g115_17 (N : Nat) (S96 : V0 → V0 → Option (Int)) (S114 : V0 → V0 → Option V1) (k0 : V0 → V0 → V0 → V0 → Int → Int → Option R) (x0 x1 x2 x3 : V0) (x4 x5 x6 : Int) : Option R :=
l115_17 S96 S114 (fun y0 y1 y2 y3 y4 y5 y6 => k0 y0 y1 y2 y3 y4 y5) N x0 x1 x2 x3 x4 x5 x6
theorem t115_17 (S96) (S114) (h96 : (ctr96 S96).holds cl) (h114 : (ctr114 S114).holds cl) (x0 x1 x2 x3 x4 x5 x6) : exec cl N c115_17 (e69 x0 x1 x2 x3 x4 x5 x6) K = (g115_17 N S96 S114 (fun y0 y1 y2 y3 y4 y5 => K (.exit 2) (e72 y0 y1 y2 y3 y4 y5)) x0 x1 x2 x3 x4 x5 x6) := by
 simp only [c115_17, exec_out, exec_loop, kp115_2, lt115_17 S96 S114 h96 h114, kp115_4]
 rfl
theorem kp115_5 (x0 x1 x2 x3 x4 x5) : keep [0, 1, 6, 7, 8, 9] (e72 x0 x1 x2 x3 x4 x5) = (e72 x0 x1 x2 x3 x4 x5) := by kernel_rfl
def g115_19 (k0 : V0 → V0 → V0 → V0 → Int → Int → Bool → Option R) (x0 x1 x2 x3 : V0) (x4 x5 : Int) : Option R :=
k0 x0 x1 x2 x3 x4 x5 (decide (x5 > (0 : Int)))
theorem t115_19 (x0 x1 x2 x3 x4 x5) : exec cl N c115_19 (e72 x0 x1 x2 x3 x4 x5) K = (g115_19 (fun y0 y1 y2 y3 y4 y5 y6 => K .normal (e151 y0 y1 y2 y3 y4 y5 y6)) x0 x1 x2 x3 x4 x5) := by
 kernel_rfl
def g115_20 (S114 : V0 → V0 → Option V1) (S119 : V0 → V0 → Option V1) (k0 : V0 → V0 → V0 → V0 → Int → Int → Option R) (x0 x1 x2 x3 : V0) (x4 x5 : Int) (x6 : Bool) : Option R :=
(S114 x1 [x5]).bind fun r744 =>
(S119 x3 r744).bind fun r745 =>
k0 x0 x1 x2 r745 x4 x5
theorem t115_20 (S114) (S119) (h114 : (ctr114 S114).holds cl) (h119 : (ctr119 S119).holds cl) (x0 x1 x2 x3 x4 x5 x6) : exec cl N c115_20 (e151 x0 x1 x2 x3 x4 x5 x6) K = (g115_20 S114 S119 (fun y0 y1 y2 y3 y4 y5 => K .normal (e72 y0 y1 y2 y3 y4 y5)) x0 x1 x2 x3 x4 x5 x6) := by
 rw [← put_eq h114]
 rw [← put_eq h119]
 kernel_rfl
theorem kp115_6 (x0 x1 x2 x3 x4 x5 x6) : keep [0, 1, 6, 7, 8, 9] (e151 x0 x1 x2 x3 x4 x5 x6) = (e72 x0 x1 x2 x3 x4 x5) := by kernel_rfl
theorem hb115_3 (x0 x1 x2 x3 x4 x5 x6) : boolOf? (ent (e151 x0 x1 x2 x3 x4 x5 x6) (.t 46)) = some x6 := by kernel_rfl
def g115_22 (S114 : V0 → V0 → Option V1) (S119 : V0 → V0 → Option V1) (k0 : V0 → V0 → V0 → V0 → Int → Int → Option R) (x0 x1 x2 x3 : V0) (x4 x5 : Int) : Option R :=
(g115_19 (fun y0 y1 y2 y3 y4 y5 y6 => brB y6 (g115_20 S114 S119 k0 y0 y1 y2 y3 y4 y5 y6) (k0 y0 y1 y2 y3 y4 y5)) x0 x1 x2 x3 x4 x5)
theorem t115_22 (S114) (S119) (h114 : (ctr114 S114).holds cl) (h119 : (ctr119 S119).holds cl) (x0 x1 x2 x3 x4 x5) : exec cl N c115_22 (e72 x0 x1 x2 x3 x4 x5) K = (g115_22 S114 S119 (fun y0 y1 y2 y3 y4 y5 => K .normal (e72 y0 y1 y2 y3 y4 y5)) x0 x1 x2 x3 x4 x5) := by
 simp only [c115_22, exec_seq, seqK_normal, seqK_exit, seqK_ret, t115_19, c115_21, exec_out, exec_cond', hb115_3, Option.bind_some, brB_true, brB_false, t115_20 S114 S119 h114 h119, exec_skip, kp115_5, kp115_6]
 rfl
def g115_23 (k0 : V0 → V0 → V0 → V0 → Int → Option R) (x0 x1 x2 x3 : V0) (x4 x5 : Int) : Option R :=
if x2.length + [x5].length ≤ 17592186044416 then
k0 x0 x1 (x2 ++ [x5]) x3 x4
else none
theorem t115_23 (x0 x1 x2 x3 x4 x5) : exec cl N c115_23 (e72 x0 x1 x2 x3 x4 x5) K = (g115_23 (fun y0 y1 y2 y3 y4 => K .normal (e67 y0 y1 y2 y3 y4)) x0 x1 x2 x3 x4 x5) := by
 kernel_rfl
def g115_26 (k0 : V0 → V0 → V0 → V0 → Int → Option R) (x0 x1 x2 x3 : V0) (x4 : Int) : Option R :=
k0 x0 x1 x2 x3 (IntKind.i64.wrap (x4 - (1 : Int)))
theorem t115_26 (x0 x1 x2 x3 x4) : exec cl N c115_26 (e67 x0 x1 x2 x3 x4) K = (g115_26 (fun y0 y1 y2 y3 y4 => K .normal (e67 y0 y1 y2 y3 y4)) x0 x1 x2 x3 x4) := by
 kernel_rfl
def g115_27 (N : Nat) (S96 : V0 → V0 → Option (Int)) (S114 : V0 → V0 → Option V1) (S118 : V0 → Option V1) (S119 : V0 → V0 → Option V1) (k0 : V0 → V0 → V0 → V0 → Int → Option R) (k1 : V0 → V0 → V0 → V0 → Int → Option R) (x0 x1 x2 x3 : V0) (x4 : Int) : Option R :=
(g115_3 (fun y0 y1 y2 y3 y4 y5 => brB y5 ((g115_24 S118 (g115_17 N S96 S114 ((g115_22 S114 S119 (g115_23 ((g115_26 k0))))))) y0 y1 y2 y3 y4) (k1 y0 y1 y2 y3 y4)) x0 x1 x2 x3 x4)
theorem t115_27 (S96) (S114) (S118) (S119) (h96 : (ctr96 S96).holds cl) (h114 : (ctr114 S114).holds cl) (h118 : (ctr118 S118).holds cl) (h119 : (ctr119 S119).holds cl) (x0 x1 x2 x3 x4) : exec cl N c115_27 (e67 x0 x1 x2 x3 x4) K = (g115_27 N S96 S114 S118 S119 (fun y0 y1 y2 y3 y4 => K .normal (e67 y0 y1 y2 y3 y4)) (fun y0 y1 y2 y3 y4 => K (.exit 0) (e67 y0 y1 y2 y3 y4)) x0 x1 x2 x3 x4) := by
 simp only [c115_27, exec_seq, seqK_normal, seqK_exit, seqK_ret, t115_3, c115_4, exec_out, exec_cond', hb115_0, Option.bind_some, brB_true, brB_false, exec_skip, exec_exit, kp115_1, c115_25, exec_block, t115_24 S118 h118, c115_18, t115_17 S96 S114 h96 h114, blockK_normal, blockK_ret, blockK_eq, kp115_5, t115_22 S114 S119 h114 h119, t115_23, kp115_0, t115_26]
 rfl
def l115_28 {R : Type} (N : Nat) (S96 : V0 → V0 → Option (Int)) (S114 : V0 → V0 → Option V1) (S118 : V0 → Option V1) (S119 : V0 → V0 → Option V1) (k0 : V0 → V0 → V0 → V0 → Int → Option R) : Nat → V0 → V0 → V0 → V0 → Int → Option R
 | 0, _, _, _, _, _ => none
 | m + 1, x0, x1, x2, x3, x4 => (g115_27 N S96 S114 S118 S119 (l115_28 N S96 S114 S118 S119 k0 m) k0 x0 x1 x2 x3 x4)
theorem lt115_28 (S96) (S114) (S118) (S119) (h96 : (ctr96 S96).holds cl) (h114 : (ctr114 S114).holds cl) (h118 : (ctr118 S118).holds cl) (h119 : (ctr119 S119).holds cl) : ∀ (m) (x0 x1 x2 x3 x4), iter [0, 1, 6, 7, 8] (fun env K => exec cl N c115_27 env K) K m (e67 x0 x1 x2 x3 x4) = l115_28 N S96 S114 S118 S119 (fun y0 y1 y2 y3 y4 => K (.exit 0) (e67 y0 y1 y2 y3 y4)) m x0 x1 x2 x3 x4 := by
 intro m
 induction m with
 | zero => intros; rfl
 | succ m ih =>
   intro x0 x1 x2 x3 x4
   simp only [iter_succ, t115_27 S96 S114 S118 S119 h96 h114 h118 h119, loopK_normal, loopK_exit, loopK_ret, kp115_0, ih]
   rfl
theorem kp115_7 (x0 x1 x2 x3 x4) : keep [6, 7] (e67 x0 x1 x2 x3 x4) = (e73 x2 x3) := by kernel_rfl
def g115_28 (N : Nat) (S96 : V0 → V0 → Option (Int)) (S114 : V0 → V0 → Option V1) (S118 : V0 → Option V1) (S119 : V0 → V0 → Option V1) (k0 : V0 → V0 → Option R) (x0 x1 x2 x3 : V0) (x4 : Int) : Option R :=
l115_28 N S96 S114 S118 S119 (fun y0 y1 y2 y3 y4 => k0 y2 y3) N x0 x1 x2 x3 x4
theorem t115_28 (S96) (S114) (S118) (S119) (h96 : (ctr96 S96).holds cl) (h114 : (ctr114 S114).holds cl) (h118 : (ctr118 S118).holds cl) (h119 : (ctr119 S119).holds cl) (x0 x1 x2 x3 x4) : exec cl N c115_28 (e67 x0 x1 x2 x3 x4) K = (g115_28 N S96 S114 S118 S119 (fun y0 y1 => K (.exit 0) (e73 y0 y1)) x0 x1 x2 x3 x4) := by
 simp only [c115_28, exec_out, exec_loop, kp115_0, lt115_28 S96 S114 S118 S119 h96 h114 h118 h119, kp115_7]
 rfl
theorem kp115_8 (x0 x1) : keep [6, 7] (e73 x0 x1) = (e73 x0 x1) := by kernel_rfl
def g115_32 (S118 : V0 → Option V1) (S120 : V0 → Option V1) (k0 : V0 → V0 → Option R) (x0 x1 : V0) : Option R :=
(S120 x0).bind fun r748 =>
(S118 r748).bind fun r749 =>
k0 r749 x1
theorem t115_32 (S118) (S120) (h118 : (ctr118 S118).holds cl) (h120 : (ctr120 S120).holds cl) (x0 x1) : exec cl N c115_32 (e73 x0 x1) K = (g115_32 S118 S120 (fun y0 y1 => exec cl N .ret (e74 y0 y1) K) x0 x1) := by
 rw [← put_eq h118]
 rw [← put_eq h120]
 kernel_rfl
def g115_33b (N : Nat) (S96 : V0 → V0 → Option (Int)) (S114 : V0 → V0 → Option V1) (S118 : V0 → Option V1) (S119 : V0 → V0 → Option V1) (S120 : V0 → Option V1) (k0 : V0 → V0 → Option R) (x0 x1 : V0) : Option R :=
(g115_33 (g115_2 (g115_28 N S96 S114 S118 S119 ((g115_32 S118 S120 k0)))) x0 x1)
theorem t115_33b (S96) (S114) (S118) (S119) (S120) (h96 : (ctr96 S96).holds cl) (h114 : (ctr114 S114).holds cl) (h118 : (ctr118 S118).holds cl) (h119 : (ctr119 S119).holds cl) (h120 : (ctr120 S120).holds cl) (x0 x1) : exec cl N c115_33 (e20 x0 x1) K = (g115_33b N S96 S114 S118 S119 S120 (fun y0 y1 => K .ret (e74 y0 y1)) x0 x1) := by
 simp only [exec_seq, seqK_normal, seqK_exit, seqK_ret, t115_33, t115_2, c115_29, exec_out, exec_block, t115_28 S96 S114 S118 S119 h96 h114 h118 h119, blockK_normal, blockK_ret, blockK_eq, kp115_8, t115_32 S118 S120 h118 h120, exec_ret]
 rfl
theorem rk115_0 (y0 y1) : retK d115 .ret (e74 y0 y1) = some [.v U2 y0, .v U2 y1] := by kernel_rfl
def g115 (N : Nat) (S96 : V0 → V0 → Option (Int)) (S114 : V0 → V0 → Option V1) (S118 : V0 → Option V1) (S119 : V0 → V0 → Option V1) (S120 : V0 → Option V1) (x0 x1 : V0) (k : V0 → V0 → Option R) : Option R :=
(g115_33b N S96 S114 S118 S119 S120 k x0 x1)
theorem gen115 (S96) (S114) (S118) (S119) (S120) (h96 : (ctr96 S96).holds cl) (h114 : (ctr114 S114).holds cl) (h118 : (ctr118 S118).holds cl) (h119 : (ctr119 S119).holds cl) (h120 : (ctr120 S120).holds cl) (x0 x1) (k : List E → Option R) : exec cl N c115 (e20 x0 x1) (fun e env => (retK d115 e env).bind k) = g115 N S96 S114 S118 S119 S120 x0 x1 (fun r0 r1 => k [.v U2 r0, .v U2 r1]) := by
 simp only [c115, t115_33b S96 S114 S118 S119 S120 h96 h114 h118 h119 h120, rk115_0, Option.bind_some]
 rfl
def ctr115 (S : V0 → V0 → Option V7) : Ctr := cv2 115 U2 U2 S fun b => [.v U2 b.1, .v U2 b.2]
def S115 (N : Nat) (x0 : V0) (x1 : V0) : Option V7 := g115 N (S96 N) (S114 N) (S118 N) (S119 N) (S120 N) x0 x1 (fun (r0 : V0) (r1 : V0) => some (r0, r1))
def g105_6 (S118 : V0 → Option V1) (k0 : V0 → V4 → Option R) (x0 : V0) : Option R :=
(S118 x0).bind fun r754 =>
k0 r754 ([], ())
theorem t105_6 (S118) (h118 : (ctr118 S118).holds cl) (x0) : exec cl N c105_6 [(0, .v U2 x0)] K = (g105_6 S118 (fun y0 y1 => exec cl N (.seq (.seq c105_2 c105_4) (.seq c105_5 .ret)) (e97 y0 y1) K) x0) := by
 rw [← put_eq h118]
 kernel_rfl
def g105_2 (k0 : V0 → V4 → Bool → Option R) (x0 : V0) (x1 : V4) : Option R :=
k0 x0 x1 ((x0.length : Int) == (0 : Int))
theorem t105_2 (x0 x1) : exec cl N c105_2 (e97 x0 x1) K = (g105_2 (fun y0 y1 y2 => K .normal (e152 y0 y1 y2)) x0 x1) := by
 kernel_rfl
def g105_3 (k0 : V4 → Option R) (x0 : V0) (x1 : V4) (x2 : Bool) : Option R :=
k0 ([], ())
theorem t105_3 (x0 x1 x2) : exec cl N c105_3 (e152 x0 x1 x2) K = (g105_3 (fun y0 => K .normal [(2, .loc U5 (.pair (.own true 3 .no) .no) y0)]) x0 x1 x2) := by
 kernel_rfl
theorem kp105_0 (x0) : keep [0, 2] [(2, .loc U5 (.pair (.own true 3 .no) .no) x0)] = (e153 x0) := by kernel_rfl
theorem kp105_1 (x0 x1 x2) : keep [0, 2] (e152 x0 x1 x2) = (e97 x0 x1) := by kernel_rfl
theorem hb105_0 (x0 x1 x2) : boolOf? (ent (e152 x0 x1 x2) (.t 7)) = some x2 := by kernel_rfl
def g105_5 (k0 : V4 → Option R) (x0 : V0) (x1 : V4) : Option R :=
k0 (x0, ())
theorem t105_5 (x0 x1) : exec cl N c105_5 (e97 x0 x1) K = (g105_5 (fun y0 => K .normal [(2, .loc U5 .no y0)]) x0 x1) := by
 kernel_rfl
def g105_6b (S118 : V0 → Option V1) (k0 : V4 → Option R) (k1 : V4 → Option R) (x0 : V0) : Option R :=
(g105_6 S118 (g105_2 (fun y0 y1 y2 => brB y2 (g105_3 k0 y0 y1 y2) ((g105_5 k1) y0 y1))) x0)
theorem t105_6b (S118) (h118 : (ctr118 S118).holds cl) (x0) : exec cl N c105_6 [(0, .v U2 x0)] K = (g105_6b S118 (fun y0 => K .ret (e153 y0)) (fun y0 => K .ret [(2, .loc U5 .no y0)]) x0) := by
 simp only [exec_seq, seqK_normal, seqK_exit, seqK_ret, t105_6 S118 h118, t105_2, c105_4, exec_out, exec_cond', hb105_0, Option.bind_some, brB_true, brB_false, t105_3, exec_ret, exec_skip, kp105_0, kp105_1, t105_5]
 rfl
theorem rk105_0 (y0) : retK d105 .ret (e153 y0) = some [.v U5 y0] := by kernel_rfl
theorem rk105_1 (y0) : retK d105 .ret [(2, .loc U5 .no y0)] = some [.v U5 y0] := by kernel_rfl
def g105 (S118 : V0 → Option V1) (x0 : V0) (k : V4 → Option R) : Option R :=
(g105_6b S118 k k x0)
theorem gen105 (S118) (h118 : (ctr118 S118).holds cl) (x0) (k : List E → Option R) : exec cl N c105 [(0, .v U2 x0)] (fun e env => (retK d105 e env).bind k) = g105 S118 x0 (fun r0 => k [.v U5 r0]) := by
 simp only [c105, t105_6b S118 h118, rk105_0, rk105_1, Option.bind_some]
 rfl
def ctr105 (S : V0 → Option V6) : Ctr := cv1 105 U2 S fun b => [.v U5 b]
def S105 (N : Nat) (x0 : V0) : Option V6 := g105 (S118 N) x0 (fun (r0 : V4) => some (r0))
def g101_0 (k0 : V4 → V4 → V4 → Option R) (x0 x1 : V4) : Option R :=
k0 x0 x1 ([], ())
theorem t101_0 (x0 x1) : exec cl N c101_0 (e41 x0 x1) K = (g101_0 (fun y0 y1 y2 => K .normal (e42 y0 y1 y2)) x0 x1) := by
 kernel_rfl
def g101_1 (S75 : V4 → Option (Bool)) (k0 : V4 → V4 → V4 → Bool → Option R) (x0 x1 x2 : V4) : Option R :=
(S75 x0).bind fun r757 =>
brB (!r757) (k0 x0 x1 x2 true) ((S75 x1).bind fun r758 =>
k0 x0 x1 x2 (!r758))
theorem t101_1 (S75) (h75 : (ctr75 S75).holds cl) (x0 x1 x2) : exec cl N c101_1 (e42 x0 x1 x2) K = (g101_1 S75 (fun y0 y1 y2 y3 => K .normal (e154 y0 y1 y2 y3)) x0 x1 x2) := by
 rw [← put_eq h75]
 kernel_rfl
def g101_2 (k0 : V4 → Int → Option R) (x0 x1 x2 : V4) (x3 : Bool) : Option R :=
k0 ([], ()) (1 : Int)
theorem t101_2 (x0 x1 x2 x3) : exec cl N c101_2 (e154 x0 x1 x2 x3) K = (g101_2 (fun y0 y1 => K .normal (e44 y0 y1)) x0 x1 x2 x3) := by
 kernel_rfl
theorem kp101_0 (x0 x1) : keep [2, 3, 4, 5] (e44 x0 x1) = (e45 x0 x1) := by kernel_rfl
theorem kp101_1 (x0 x1 x2 x3) : keep [2, 3, 4, 5] (e154 x0 x1 x2 x3) = (e46 x0 x1 x2) := by kernel_rfl
theorem hb101_0 (x0 x1 x2 x3) : boolOf? (ent (e154 x0 x1 x2 x3) (.t 17)) = some x3 := by kernel_rfl
def g101_4 (S117 : V0 → Option V1) (k0 : V4 → V0 → V0 → Option R) (x0 x1 x2 : V4) : Option R :=
(S117 x0.1).bind fun r759 =>
(S117 x1.1).bind fun r760 =>
k0 x2 r759 r760
theorem t101_4 (S117) (h117 : (ctr117 S117).holds cl) (x0 x1 x2) : exec cl N c101_4 (e46 x0 x1 x2) K = (g101_4 S117 (fun y0 y1 y2 => K .normal (e47 y0 y1 y2)) x0 x1 x2) := by
 rw [← put_eq h117]
 kernel_rfl
theorem kp101_2 (x0 x1 x2) : keep [4, 6, 7] (e47 x0 x1 x2) = (e47 x0 x1 x2) := by kernel_rfl
def g101_5 (k0 : V4 → V0 → V0 → Bool → Option R) (x0 : V4) (x1 x2 : V0) : Option R :=
k0 x0 x1 x2 (decide ((x2.length : Int) > (0 : Int)))
theorem t101_5 (x0 x1 x2) : exec cl N c101_5 (e47 x0 x1 x2) K = (g101_5 (fun y0 y1 y2 y3 => K .normal (e155 y0 y1 y2 y3)) x0 x1 x2) := by
 kernel_rfl
theorem kp101_3 (x0 x1 x2 x3) : keep [4, 6, 7] (e155 x0 x1 x2 x3) = (e47 x0 x1 x2) := by kernel_rfl
theorem hb101_1 (x0 x1 x2 x3) : boolOf? (ent (e155 x0 x1 x2 x3) (.t 27)) = some x3 := by kernel_rfl
def g101_9 (S115 : V0 → V0 → Option V7) (k0 : V4 → V0 → V0 → Option R) (x0 : V4) (x1 x2 : V0) : Option R :=
(S115 x1 x2).bind fun r763 =>
k0 x0 x2 r763.2
theorem t101_9 (S115) (h115 : (ctr115 S115).holds cl) (x0 x1 x2) : exec cl N c101_9 (e47 x0 x1 x2) K = (g101_9 S115 (fun y0 y1 y2 => K .normal (e47 y0 y1 y2)) x0 x1 x2) := by
 rw [← put_eq h115]
 kernel_rfl
def g101_11 (S115 : V0 → V0 → Option V7) (k0 : V4 → V0 → V0 → Option R) (k1 : V4 → V0 → V0 → Option R) (x0 : V4) (x1 x2 : V0) : Option R :=
(g101_5 (fun y0 y1 y2 y3 => brB y3 ((g101_9 S115 k0) y0 y1 y2) (k1 y0 y1 y2)) x0 x1 x2)
theorem t101_11 (S115) (h115 : (ctr115 S115).holds cl) (x0 x1 x2) : exec cl N c101_11 (e47 x0 x1 x2) K = (g101_11 S115 (fun y0 y1 y2 => K .normal (e47 y0 y1 y2)) (fun y0 y1 y2 => K (.exit 0) (e47 y0 y1 y2)) x0 x1 x2) := by
 simp only [c101_11, exec_seq, seqK_normal, seqK_exit, seqK_ret, t101_5, c101_6, exec_out, exec_cond', hb101_1, Option.bind_some, brB_true, brB_false, exec_skip, exec_exit, kp101_3, c101_10, exec_block, t101_9 S115 h115, blockK_normal, blockK_ret, blockK_eq, kp101_2]
 rfl
def l101_12 {R : Type} (S115 : V0 → V0 → Option V7) (k0 : V4 → V0 → V0 → Option R) : Nat → V4 → V0 → V0 → Option R
 | 0, _, _, _ => none
 | m + 1, x0, x1, x2 => (g101_11 S115 (l101_12 S115 k0 m) k0 x0 x1 x2)
theorem lt101_12 (S115) (h115 : (ctr115 S115).holds cl) : ∀ (m) (x0 x1 x2), iter [4, 6, 7] (fun env K => exec cl N c101_11 env K) K m (e47 x0 x1 x2) = l101_12 S115 (fun y0 y1 y2 => K (.exit 0) (e47 y0 y1 y2)) m x0 x1 x2 := by
 intro m
 induction m with
 | zero => intros; rfl
 | succ m ih =>
   intro x0 x1 x2
   simp only [iter_succ, t101_11 S115 h115, loopK_normal, loopK_exit, loopK_ret, kp101_2, ih]
   rfl
theorem kp101_4 (x0 x1 x2) : keep [4, 6] (e47 x0 x1 x2) = (e156 x0 x1) := by kernel_rfl
def g101_12 (N : Nat) (S115 : V0 → V0 → Option V7) (k0 : V4 → V0 → Option R) (x0 : V4) (x1 x2 : V0) : Option R :=
l101_12 S115 (fun y0 y1 y2 => k0 y0 y1) N x0 x1 x2
theorem t101_12 (S115) (h115 : (ctr115 S115).holds cl) (x0 x1 x2) : exec cl N c101_12 (e47 x0 x1 x2) K = (g101_12 N S115 (fun y0 y1 => K (.exit 0) (e156 y0 y1)) x0 x1 x2) := by
 simp only [c101_12, exec_out, exec_loop, kp101_2, lt101_12 S115 h115, kp101_4]
 rfl
theorem kp101_5 (x0 x1) : keep [4, 6] (e156 x0 x1) = (e156 x0 x1) := by kernel_rfl
def g101_14 (S105 : V0 → Option V6) (k0 : V4 → Int → Option R) (x0 : V4) (x1 : V0) : Option R :=
(S105 x1).bind fun r764 =>
k0 r764 (0 : Int)
theorem t101_14 (S105) (h105 : (ctr105 S105).holds cl) (x0 x1) : exec cl N c101_14 (e156 x0 x1) K = (g101_14 S105 (fun y0 y1 => K .normal (e49 y0 y1)) x0 x1) := by
 rw [← put_eq h105]
 kernel_rfl
def g101_15 (N : Nat) (S75 : V4 → Option (Bool)) (S105 : V0 → Option V6) (S115 : V0 → V0 → Option V7) (S117 : V0 → Option V1) (k0 : V4 → Int → Option R) (k1 : V4 → Int → Option R) (x0 x1 : V4) : Option R :=
(g101_0 (g101_1 S75 (fun y0 y1 y2 y3 => brB y3 (g101_2 k0 y0 y1 y2 y3) ((g101_4 S117 (g101_12 N S115 ((g101_14 S105 k1)))) y0 y1 y2))) x0 x1)
theorem t101_15 (S75) (S105) (S115) (S117) (h75 : (ctr75 S75).holds cl) (h105 : (ctr105 S105).holds cl) (h115 : (ctr115 S115).holds cl) (h117 : (ctr117 S117).holds cl) (x0 x1) : exec cl N c101_15 (e41 x0 x1) K = (g101_15 N S75 S105 S115 S117 (fun y0 y1 => K .ret (e45 y0 y1)) (fun y0 y1 => K .ret (e49 y0 y1)) x0 x1) := by
 simp only [c101_15, exec_seq, seqK_normal, seqK_exit, seqK_ret, t101_0, t101_1 S75 h75, c101_3, exec_out, exec_cond', hb101_0, Option.bind_some, brB_true, brB_false, t101_2, exec_ret, exec_skip, kp101_0, kp101_1, t101_4 S117 h117, c101_13, exec_block, t101_12 S115 h115, blockK_normal, blockK_ret, blockK_eq, kp101_5, t101_14 S105 h105]
 rfl
theorem rk101_0 (y0 y1) : retK d101 .ret (e45 y0 y1) = some [.v U5 y0, .v U1 y1] := by kernel_rfl
theorem rk101_1 (y0 y1) : retK d101 .ret (e49 y0 y1) = some [.v U5 y0, .v U1 y1] := by kernel_rfl
def g101 (N : Nat) (S75 : V4 → Option (Bool)) (S105 : V0 → Option V6) (S115 : V0 → V0 → Option V7) (S117 : V0 → Option V1) (x0 x1 : V4) (k : V4 → Int → Option R) : Option R :=
(g101_15 N S75 S105 S115 S117 k k x0 x1)
theorem gen101 (S75) (S105) (S115) (S117) (h75 : (ctr75 S75).holds cl) (h105 : (ctr105 S105).holds cl) (h115 : (ctr115 S115).holds cl) (h117 : (ctr117 S117).holds cl) (x0 x1) (k : List E → Option R) : exec cl N c101 (e41 x0 x1) (fun e env => (retK d101 e env).bind k) = g101 N S75 S105 S115 S117 x0 x1 (fun r0 r1 => k [.v U5 r0, .v U1 r1]) := by
 simp only [c101, t101_15 S75 S105 S115 S117 h75 h105 h115 h117, rk101_0, rk101_1, Option.bind_some]
 rfl
def ctr101 (S : V4 → V4 → Option V8) : Ctr := cv2 101 U5 U5 S fun b => [.v U5 b.1, .v U1 b.2]
def S101 (N : Nat) (x0 : V4) (x1 : V4) : Option V8 := g101 N (S75 N) (S105 N) (S115 N) (S117 N) x0 x1 (fun (r0 : V4) (r1 : Int) => some (r0, r1))
def g81_0 (k0 : Int → V4 → Option R) (x0 : Int) : Option R :=
k0 x0 ([], ())
theorem t81_0 (x0) : exec cl N c81_0 [(0, .v U1 x0)] K = (g81_0 (fun y0 y1 => K .normal (e0 y0 y1)) x0) := by
 kernel_rfl
def g81_1 (k0 : Int → V4 → Bool → Option R) (x0 : Int) (x1 : V4) : Option R :=
k0 x0 x1 (decide (x0 < (0 : Int)))
theorem t81_1 (x0 x1) : exec cl N c81_1 (e0 x0 x1) K = (g81_1 (fun y0 y1 y2 => K .normal (e1 y0 y1 y2)) x0 x1) := by
 kernel_rfl
def g81_2 (k0 : V4 → Int → Option R) (x0 : Int) (x1 : V4) (x2 : Bool) : Option R :=
k0 ([], ()) (6 : Int)
theorem t81_2 (x0 x1 x2) : exec cl N c81_2 (e1 x0 x1 x2) K = (g81_2 (fun y0 y1 => K .normal (e2 y0 y1)) x0 x1 x2) := by
 kernel_rfl
theorem kp81_0 (x0 x1) : keep [0, 2, 3] (e2 x0 x1) = (e3 x0 x1) := by kernel_rfl
theorem kp81_1 (x0 x1 x2) : keep [0, 2, 3] (e1 x0 x1 x2) = (e4 x0 x1) := by kernel_rfl
theorem hb81_0 (x0 x1 x2) : boolOf? (ent (e1 x0 x1 x2) (.t 6)) = some x2 := by kernel_rfl
def g81_4 (k0 : Int → V4 → V0 → Option R) (x0 : Int) (x1 : V4) : Option R :=
k0 x0 x1 []
theorem t81_4 (x0 x1) : exec cl N c81_4 (e4 x0 x1) K = (g81_4 (fun y0 y1 y2 => K .normal (e5 y0 y1 y2)) x0 x1) := by
 kernel_rfl
theorem kp81_2 (x0 x1 x2) : keep [0, 2, 4] (e5 x0 x1 x2) = (e5 x0 x1 x2) := by kernel_rfl
def g81_5 (k0 : Int → V4 → V0 → Bool → Option R) (x0 : Int) (x1 : V4) (x2 : V0) : Option R :=
k0 x0 x1 x2 (decide (x0 > (0 : Int)))
theorem t81_5 (x0 x1 x2) : exec cl N c81_5 (e5 x0 x1 x2) K = (g81_5 (fun y0 y1 y2 y3 => K .normal (e6 y0 y1 y2 y3)) x0 x1 x2) := by
 kernel_rfl
theorem kp81_3 (x0 x1 x2 x3) : keep [0, 2, 4] (e6 x0 x1 x2 x3) = (e5 x0 x1 x2) := by kernel_rfl
theorem hb81_1 (x0 x1 x2 x3) : boolOf? (ent (e6 x0 x1 x2 x3) (.t 9)) = some x3 := by kernel_rfl
def g81_7 (k0 : Int → V4 → V0 → Option R) (x0 : Int) (x1 : V4) (x2 : V0) : Option R :=
let v775 : Int := (Int.tmod x0 (10000 : Int))
if x2.length + [v775].length ≤ 17592186044416 then
k0 x0 x1 (x2 ++ [v775])
else none
theorem t81_7 (x0 x1 x2) : exec cl N c81_7 (e5 x0 x1 x2) K = (g81_7 (fun y0 y1 y2 => K .normal (e5 y0 y1 y2)) x0 x1 x2) := by
 kernel_rfl
def g81_9 (k0 : Int → V4 → V0 → Option R) (x0 : Int) (x1 : V4) (x2 : V0) : Option R :=
k0 (IntKind.i64.wrap (Int.tdiv x0 (10000 : Int))) x1 x2
theorem t81_9 (x0 x1 x2) : exec cl N c81_9 (e5 x0 x1 x2) K = (g81_9 (fun y0 y1 y2 => K .normal (e5 y0 y1 y2)) x0 x1 x2) := by
 kernel_rfl
def g81_10 (k0 : Int → V4 → V0 → Option R) (k1 : Int → V4 → V0 → Option R) (x0 : Int) (x1 : V4) (x2 : V0) : Option R :=
(g81_5 (fun y0 y1 y2 y3 => brB y3 ((g81_7 ((g81_9 k0))) y0 y1 y2) (k1 y0 y1 y2)) x0 x1 x2)
theorem t81_10 (x0 x1 x2) : exec cl N c81_10 (e5 x0 x1 x2) K = (g81_10 (fun y0 y1 y2 => K .normal (e5 y0 y1 y2)) (fun y0 y1 y2 => K (.exit 0) (e5 y0 y1 y2)) x0 x1 x2) := by
 simp only [c81_10, exec_seq, seqK_normal, seqK_exit, seqK_ret, t81_5, c81_6, exec_out, exec_cond', hb81_1, Option.bind_some, brB_true, brB_false, exec_skip, exec_exit, kp81_3, c81_8, exec_block, t81_7, blockK_normal, blockK_ret, blockK_eq, kp81_2, t81_9]
 rfl
def l81_11 {R : Type} (k0 : Int → V4 → V0 → Option R) : Nat → Int → V4 → V0 → Option R
 | 0, _, _, _ => none
 | m + 1, x0, x1, x2 => (g81_10 (l81_11 k0 m) k0 x0 x1 x2)
theorem lt81_11 : ∀ (m) (x0 x1 x2), iter [0, 2, 4] (fun env K => exec cl N c81_10 env K) K m (e5 x0 x1 x2) = l81_11 (fun y0 y1 y2 => K (.exit 0) (e5 y0 y1 y2)) m x0 x1 x2 := by
 intro m
 induction m with
 | zero => intros; rfl
 | succ m ih =>
   intro x0 x1 x2
   simp only [iter_succ, t81_10, loopK_normal, loopK_exit, loopK_ret, kp81_2, ih]
   rfl
theorem kp81_4 (x0 x1 x2) : keep [2, 4] (e5 x0 x1 x2) = (e7 x1 x2) := by kernel_rfl
def g81_11 (N : Nat) (k0 : V4 → V0 → Option R) (x0 : Int) (x1 : V4) (x2 : V0) : Option R :=
l81_11 (fun y0 y1 y2 => k0 y1 y2) N x0 x1 x2
theorem t81_11 (x0 x1 x2) : exec cl N c81_11 (e5 x0 x1 x2) K = (g81_11 N (fun y0 y1 => K (.exit 0) (e7 y0 y1)) x0 x1 x2) := by
 simp only [c81_11, exec_out, exec_loop, kp81_2, lt81_11, kp81_4]
 rfl
theorem kp81_5 (x0 x1) : keep [2, 4] (e7 x0 x1) = (e7 x0 x1) := by kernel_rfl
def g81_13 (S105 : V0 → Option V6) (k0 : V4 → Int → Option R) (x0 : V4) (x1 : V0) : Option R :=
(S105 x1).bind fun r777 =>
k0 r777 (0 : Int)
theorem t81_13 (S105) (h105 : (ctr105 S105).holds cl) (x0 x1) : exec cl N c81_13 (e7 x0 x1) K = (g81_13 S105 (fun y0 y1 => K .normal (e8 y0 y1)) x0 x1) := by
 rw [← put_eq h105]
 kernel_rfl
def g81_14 (N : Nat) (S105 : V0 → Option V6) (k0 : V4 → Int → Option R) (k1 : V4 → Int → Option R) (x0 : Int) : Option R :=
(g81_0 (g81_1 (fun y0 y1 y2 => brB y2 (g81_2 k0 y0 y1 y2) ((g81_4 (g81_11 N ((g81_13 S105 k1)))) y0 y1))) x0)
theorem t81_14 (S105) (h105 : (ctr105 S105).holds cl) (x0) : exec cl N c81_14 [(0, .v U1 x0)] K = (g81_14 N S105 (fun y0 y1 => K .ret (e3 y0 y1)) (fun y0 y1 => K .ret (e8 y0 y1)) x0) := by
 simp only [c81_14, exec_seq, seqK_normal, seqK_exit, seqK_ret, t81_0, t81_1, c81_3, exec_out, exec_cond', hb81_0, Option.bind_some, brB_true, brB_false, t81_2, exec_ret, exec_skip, kp81_0, kp81_1, t81_4, c81_12, exec_block, t81_11, blockK_normal, blockK_ret, blockK_eq, kp81_5, t81_13 S105 h105]
 rfl
theorem rk81_0 (y0 y1) : retK d81 .ret (e3 y0 y1) = some [.v U5 y0, .v U1 y1] := by kernel_rfl
theorem rk81_1 (y0 y1) : retK d81 .ret (e8 y0 y1) = some [.v U5 y0, .v U1 y1] := by kernel_rfl
def g81 (N : Nat) (S105 : V0 → Option V6) (x0 : Int) (k : V4 → Int → Option R) : Option R :=
(g81_14 N S105 k k x0)
theorem gen81 (S105) (h105 : (ctr105 S105).holds cl) (x0) (k : List E → Option R) : exec cl N c81 [(0, .v U1 x0)] (fun e env => (retK d81 e env).bind k) = g81 N S105 x0 (fun r0 r1 => k [.v U5 r0, .v U1 r1]) := by
 simp only [c81, t81_14 S105 h105, rk81_0, rk81_1, Option.bind_some]
 rfl
def ctr81 (S : Int → Option V8) : Ctr := cv1 81 U1 S fun b => [.v U5 b.1, .v U1 b.2]
def S81 (N : Nat) (x0 : Int) : Option V8 := g81 N (S105 N) x0 (fun (r0 : V4) (r1 : Int) => some (r0, r1))
def g95_3 (S81 : Int → Option V8) (k0 : V4 → Option R) (x0 : Int) : Option R :=
(S81 x0).bind fun r781 =>
k0 r781.1
theorem t95_3 (S81) (h81 : (ctr81 S81).holds cl) (x0) : exec cl N c95_3 [(0, .v U1 x0)] K = (g95_3 S81 (fun y0 => exec cl N .ret [(2, .loc U5 .no y0)] K) x0) := by
 rw [← put_eq h81]
 kernel_rfl
def g95_3b (S81 : Int → Option V8) (k0 : V4 → Option R) (x0 : Int) : Option R :=
(g95_3 S81 k0 x0)
theorem t95_3b (S81) (h81 : (ctr81 S81).holds cl) (x0) : exec cl N c95_3 [(0, .v U1 x0)] K = (g95_3b S81 (fun y0 => K .ret [(2, .loc U5 .no y0)]) x0) := by
 simp only [exec_seq, seqK_normal, seqK_exit, seqK_ret, t95_3 S81 h81, exec_ret]
 rfl
theorem rk95_0 (y0) : retK d95 .ret [(2, .loc U5 .no y0)] = some [.v U5 y0] := by kernel_rfl
def g95 (S81 : Int → Option V8) (x0 : Int) (k : V4 → Option R) : Option R :=
(g95_3b S81 k x0)
theorem gen95 (S81) (h81 : (ctr81 S81).holds cl) (x0) (k : List E → Option R) : exec cl N c95 [(0, .v U1 x0)] (fun e env => (retK d95 e env).bind k) = g95 S81 x0 (fun r0 => k [.v U5 r0]) := by
 simp only [c95, t95_3b S81 h81, rk95_0, Option.bind_some]
 rfl
def ctr95 (S : Int → Option V6) : Ctr := cv1 95 U1 S fun b => [.v U5 b]
def S95 (N : Nat) (x0 : Int) : Option V6 := g95 (S81 N) x0 (fun (r0 : V4) => some (r0))
def g69_2 (S96 : V0 → V0 → Option (Int)) (k0 : Int → Option R) (x0 x1 : V4) : Option R :=
(S96 x0.1 x1.1).bind fun r784 =>
k0 r784
theorem t69_2 (S96) (h96 : (ctr96 S96).holds cl) (x0 x1) : exec cl N c69_2 (e41 x0 x1) K = (g69_2 S96 (fun y0 => exec cl N .ret [(4, .v U1 y0)] K) x0 x1) := by
 rw [← put_eq h96]
 kernel_rfl
def g69_2b (S96 : V0 → V0 → Option (Int)) (k0 : Int → Option R) (x0 x1 : V4) : Option R :=
(g69_2 S96 k0 x0 x1)
theorem t69_2b (S96) (h96 : (ctr96 S96).holds cl) (x0 x1) : exec cl N c69_2 (e41 x0 x1) K = (g69_2b S96 (fun y0 => K .ret [(4, .v U1 y0)]) x0 x1) := by
 simp only [exec_seq, seqK_normal, seqK_exit, seqK_ret, t69_2 S96 h96, exec_ret]
 rfl
theorem rk69_0 (y0) : retK d69 .ret [(4, .v U1 y0)] = some [.v U1 y0] := by kernel_rfl
def g69 (S96 : V0 → V0 → Option (Int)) (x0 x1 : V4) (k : Int → Option R) : Option R :=
(g69_2b S96 k x0 x1)
theorem gen69 (S96) (h96 : (ctr96 S96).holds cl) (x0 x1) (k : List E → Option R) : exec cl N c69 (e41 x0 x1) (fun e env => (retK d69 e env).bind k) = g69 S96 x0 x1 (fun r0 => k [.v U1 r0]) := by
 simp only [c69, t69_2b S96 h96, rk69_0, Option.bind_some]
 rfl
def ctr69 (S : V4 → V4 → Option (Int)) : Ctr := cv2 69 U5 U5 S fun b => [.v U1 b]
def S69 (N : Nat) (x0 : V4) (x1 : V4) : Option (Int) := g69 (S96 N) x0 x1 (fun (r0 : Int) => some (r0))
def g97_0 (k0 : V15 → Option R) (x0 : V15) : Option R :=
k0 x0
theorem t97_0 (x0) : exec cl N c97_0 [(0, .v U12 x0)] K = (g97_0 (fun y0 => K .normal [(1, .loc U12 .no y0)]) x0) := by
 kernel_rfl
def g97_1 (S75 : V4 → Option (Bool)) (S76 : V4 → Option (Bool)) (k0 : V15 → Bool → Option R) (x0 : V15) : Option R :=
(S75 x0.2.1).bind fun r787 =>
brB (!r787) (k0 x0 true) ((S75 x0.2.2.1).bind fun r788 =>
brB (!r788) (k0 x0 true) ((S76 x0.2.2.1).bind fun r789 =>
brB r789 (k0 x0 true) ((S76 x0.2.1).bind fun r790 =>
brB r790 (k0 x0 x0.1) (k0 x0 false))))
theorem t97_1 (S75) (S76) (h75 : (ctr75 S75).holds cl) (h76 : (ctr76 S76).holds cl) (x0) : exec cl N c97_1 [(1, .loc U12 .no x0)] K = (g97_1 S75 S76 (fun y0 y1 => K .normal (e93 y0 y1)) x0) := by
 rw [← put_eq h75]
 rw [← put_eq h76]
 kernel_rfl
def g97_2 (k0 : Bool → Option R) (x0 : V15) (x1 : Bool) : Option R :=
k0 false
theorem t97_2 (x0 x1) : exec cl N c97_2 (e93 x0 x1) K = (g97_2 (fun y0 => K .normal [(2, .v .bool y0)]) x0 x1) := by
 kernel_rfl
theorem kp97_0 (x0) : keep [1, 2] [(2, .v .bool x0)] = (e94 x0) := by kernel_rfl
theorem kp97_1 (x0 x1) : keep [1, 2] (e93 x0 x1) = (e95 x0) := by kernel_rfl
theorem hb97_0 (x0 x1) : boolOf? (ent (e93 x0 x1) (.t 28)) = some x1 := by kernel_rfl
def g97_6 (S69 : V4 → V4 → Option (Int)) (S95 : Int → Option V6) (S101 : V4 → V4 → Option V8) (k0 : Bool → Option R) (x0 : V15) : Option R :=
(S101 x0.2.1 x0.2.2.1).bind fun r792 =>
brB (r792.2 == (0 : Int)) ((S95 (1 : Int)).bind fun r794 =>
(S69 r792.1 r794).bind fun r795 =>
k0 (r795 == (0 : Int))) (k0 false)
theorem t97_6 (S69) (S95) (S101) (h69 : (ctr69 S69).holds cl) (h95 : (ctr95 S95).holds cl) (h101 : (ctr101 S101).holds cl) (x0) : exec cl N c97_6 (e95 x0) K = (g97_6 S69 S95 S101 (fun y0 => exec cl N .ret [(2, .v .bool y0)] K) x0) := by
 rw [← put_eq h69]
 rw [← put_eq h95]
 rw [← put_eq h101]
 kernel_rfl
def g97_7 (S69 : V4 → V4 → Option (Int)) (S75 : V4 → Option (Bool)) (S76 : V4 → Option (Bool)) (S95 : Int → Option V6) (S101 : V4 → V4 → Option V8) (k0 : Bool → Option R) (k1 : Bool → Option R) (x0 : V15) : Option R :=
(g97_0 (g97_1 S75 S76 (fun y0 y1 => brB y1 (g97_2 k0 y0 y1) ((g97_6 S69 S95 S101 k1) y0))) x0)
theorem t97_7 (S69) (S75) (S76) (S95) (S101) (h69 : (ctr69 S69).holds cl) (h75 : (ctr75 S75).holds cl) (h76 : (ctr76 S76).holds cl) (h95 : (ctr95 S95).holds cl) (h101 : (ctr101 S101).holds cl) (x0) : exec cl N c97_7 [(0, .v U12 x0)] K = (g97_7 S69 S75 S76 S95 S101 (fun y0 => K .ret (e94 y0)) (fun y0 => K .ret [(2, .v .bool y0)]) x0) := by
 simp only [c97_7, exec_seq, seqK_normal, seqK_exit, seqK_ret, t97_0, t97_1 S75 S76 h75 h76, c97_3, exec_out, exec_cond', hb97_0, Option.bind_some, brB_true, brB_false, t97_2, exec_ret, exec_skip, kp97_0, kp97_1, t97_6 S69 S95 S101 h69 h95 h101]
 rfl
theorem rk97_0 (y0) : retK d97 .ret (e94 y0) = some [.v .bool y0] := by kernel_rfl
theorem rk97_1 (y0) : retK d97 .ret [(2, .v .bool y0)] = some [.v .bool y0] := by kernel_rfl
def g97 (S69 : V4 → V4 → Option (Int)) (S75 : V4 → Option (Bool)) (S76 : V4 → Option (Bool)) (S95 : Int → Option V6) (S101 : V4 → V4 → Option V8) (x0 : V15) (k : Bool → Option R) : Option R :=
(g97_7 S69 S75 S76 S95 S101 k k x0)
theorem gen97 (S69) (S75) (S76) (S95) (S101) (h69 : (ctr69 S69).holds cl) (h75 : (ctr75 S75).holds cl) (h76 : (ctr76 S76).holds cl) (h95 : (ctr95 S95).holds cl) (h101 : (ctr101 S101).holds cl) (x0) (k : List E → Option R) : exec cl N c97 [(0, .v U12 x0)] (fun e env => (retK d97 e env).bind k) = g97 S69 S75 S76 S95 S101 x0 (fun r0 => k [.v .bool r0]) := by
 simp only [c97, t97_7 S69 S75 S76 S95 S101 h69 h75 h76 h95 h101, rk97_0, rk97_1, Option.bind_some]
 rfl
def ctr97 (S : V15 → Option (Bool)) : Ctr := cv1 97 U12 S fun b => [.v .bool b]
def S97 (N : Nat) (x0 : V15) : Option (Bool) := g97 (S69 N) (S75 N) (S76 N) (S95 N) (S101 N) x0 (fun (r0 : Bool) => some (r0))
def g49_3 (S81 : Int → Option V8) (k0 : V4 → Option R) (x0 : Int) : Option R :=
(S81 x0).bind fun r803 =>
k0 r803.1
theorem t49_3 (S81) (h81 : (ctr81 S81).holds cl) (x0) : exec cl N c49_3 [(0, .v U1 x0)] K = (g49_3 S81 (fun y0 => exec cl N .ret [(2, .loc U5 .no y0)] K) x0) := by
 rw [← put_eq h81]
 kernel_rfl
def g49_3b (S81 : Int → Option V8) (k0 : V4 → Option R) (x0 : Int) : Option R :=
(g49_3 S81 k0 x0)
theorem t49_3b (S81) (h81 : (ctr81 S81).holds cl) (x0) : exec cl N c49_3 [(0, .v U1 x0)] K = (g49_3b S81 (fun y0 => K .ret [(2, .loc U5 .no y0)]) x0) := by
 simp only [exec_seq, seqK_normal, seqK_exit, seqK_ret, t49_3 S81 h81, exec_ret]
 rfl
theorem rk49_0 (y0) : retK d49 .ret [(2, .loc U5 .no y0)] = some [.v U5 y0] := by kernel_rfl
def g49 (S81 : Int → Option V8) (x0 : Int) (k : V4 → Option R) : Option R :=
(g49_3b S81 k x0)
theorem gen49 (S81) (h81 : (ctr81 S81).holds cl) (x0) (k : List E → Option R) : exec cl N c49 [(0, .v U1 x0)] (fun e env => (retK d49 e env).bind k) = g49 S81 x0 (fun r0 => k [.v U5 r0]) := by
 simp only [c49, t49_3b S81 h81, rk49_0, Option.bind_some]
 rfl
def ctr49 (S : Int → Option V6) : Ctr := cv1 49 U1 S fun b => [.v U5 b]
def S49 (N : Nat) (x0 : Int) : Option V6 := g49 (S81 N) x0 (fun (r0 : V4) => some (r0))
def g98_0 (k0 : V4 → Option R) (x0 : V4) : Option R :=
k0 x0
theorem t98_0 (x0) : exec cl N c98_0 [(0, .v U5 x0)] K = (g98_0 (fun y0 => K .normal [(1, .loc U5 .no y0)]) x0) := by
 kernel_rfl
def g98_1 (k0 : V4 → Bool → Option R) (x0 : V4) : Option R :=
k0 x0 ((x0.1.length : Int) == (0 : Int))
theorem t98_1 (x0) : exec cl N c98_1 [(1, .loc U5 .no x0)] K = (g98_1 (fun y0 y1 => K .normal (e157 y0 y1)) x0) := by
 kernel_rfl
def g98_2 (k0 : Int → Option R) (x0 : V4) (x1 : Bool) : Option R :=
k0 (0 : Int)
theorem t98_2 (x0 x1) : exec cl N c98_2 (e157 x0 x1) K = (g98_2 (fun y0 => K .normal [(2, .v U1 y0)]) x0 x1) := by
 kernel_rfl
theorem kp98_0 (x0) : keep [1, 2] [(2, .v U1 x0)] = [(1, .dead), (2, .v U1 x0)] := by kernel_rfl
theorem kp98_1 (x0 x1) : keep [1, 2] (e157 x0 x1) = [(1, .loc U5 .no x0), (2, .dead)] := by kernel_rfl
theorem hb98_0 (x0 x1) : boolOf? (ent (e157 x0 x1) (.t 6)) = some x1 := by kernel_rfl
def g98_4 (k0 : Int → Option R) (x0 : V4) : Option R :=
if 0 ≤ (0 : Int) ∧ (0 : Int) < (x0.1.length : Int) then
k0 (x0.1.getD (0 : Int).toNat (0 : Int))
else none
theorem t98_4 (x0) : exec cl N c98_4 [(1, .loc U5 .no x0), (2, .dead)] K = (g98_4 (fun y0 => K .normal [(2, .v U1 y0)]) x0) := by
 kernel_rfl
def g98_5 (k0 : Int → Option R) (k1 : Int → Option R) (x0 : V4) : Option R :=
(g98_0 (g98_1 (fun y0 y1 => brB y1 (g98_2 k0 y0 y1) ((g98_4 k1) y0))) x0)
theorem t98_5 (x0) : exec cl N c98_5 [(0, .v U5 x0)] K = (g98_5 (fun y0 => K .ret [(1, .dead), (2, .v U1 y0)]) (fun y0 => K .ret [(2, .v U1 y0)]) x0) := by
 simp only [c98_5, exec_seq, seqK_normal, seqK_exit, seqK_ret, t98_0, t98_1, c98_3, exec_out, exec_cond', hb98_0, Option.bind_some, brB_true, brB_false, t98_2, exec_ret, exec_skip, kp98_0, kp98_1, t98_4]
 rfl
theorem rk98_0 (y0) : retK d98 .ret [(1, .dead), (2, .v U1 y0)] = some [.v U1 y0] := by kernel_rfl
theorem rk98_1 (y0) : retK d98 .ret [(2, .v U1 y0)] = some [.v U1 y0] := by kernel_rfl
def g98 (x0 : V4) (k : Int → Option R) : Option R :=
(g98_5 k k x0)
theorem gen98 (x0) (k : List E → Option R) : exec cl N c98 [(0, .v U5 x0)] (fun e env => (retK d98 e env).bind k) = g98 x0 (fun r0 => k [.v U1 r0]) := by
 simp only [c98, t98_5, rk98_0, rk98_1, Option.bind_some]
 rfl
def ctr98 (S : V4 → Option (Int)) : Ctr := cv1 98 U5 S fun b => [.v U1 b]
def S98 (N : Nat) (x0 : V4) : Option (Int) := g98 x0 (fun (r0 : Int) => some (r0))
def g74_0 (k0 : V15 → Option R) (x0 : V15) : Option R :=
k0 x0
theorem t74_0 (x0) : exec cl N c74_0 [(0, .v U12 x0)] K = (g74_0 (fun y0 => K .normal [(1, .loc U12 .no y0)]) x0) := by
 kernel_rfl
def g74_1 (S97 : V15 → Option (Bool)) (k0 : V15 → Bool → Option R) (x0 : V15) : Option R :=
(S97 x0).bind fun r811 =>
k0 x0 (!r811)
theorem t74_1 (S97) (h97 : (ctr97 S97).holds cl) (x0) : exec cl N c74_1 [(1, .loc U12 .no x0)] K = (g74_1 S97 (fun y0 y1 => K .normal (e158 y0 y1)) x0) := by
 rw [← put_eq h97]
 kernel_rfl
def g74_2 (k0 : Int → Int → Int → Option R) (x0 : V15) (x1 : Bool) : Option R :=
k0 (0 : Int) (0 : Int) (1 : Int)
theorem t74_2 (x0 x1) : exec cl N c74_2 (e158 x0 x1) K = (g74_2 (fun y0 y1 y2 => K .normal (e159 y0 y1 y2)) x0 x1) := by
 kernel_rfl
theorem kp74_0 (x0 x1 x2) : keep [1, 2, 3, 4] (e159 x0 x1 x2) = (e160 x0 x1 x2) := by kernel_rfl
theorem kp74_1 (x0 x1) : keep [1, 2, 3, 4] (e158 x0 x1) = (e161 x0) := by kernel_rfl
theorem hb74_0 (x0 x1) : boolOf? (ent (e158 x0 x1) (.t 7)) = some x1 := by kernel_rfl
def g74_4 (S49 : Int → Option V6) (S69 : V4 → V4 → Option (Int)) (k0 : V15 → Bool → Option R) (x0 : V15) : Option R :=
brB x0.1 (k0 x0 true) ((S69 x0.2.1 x0.2.2.1).bind fun r812 =>
brB (decide (r812 > (0 : Int))) (k0 x0 true) ((S49 (1000 : Int)).bind fun r814 =>
(S69 x0.2.2.1 r814).bind fun r815 =>
k0 x0 (decide (r815 > (0 : Int)))))
theorem t74_4 (S49) (S69) (h49 : (ctr49 S49).holds cl) (h69 : (ctr69 S69).holds cl) (x0) : exec cl N c74_4 (e161 x0) K = (g74_4 S49 S69 (fun y0 y1 => K .normal (e162 y0 y1)) x0) := by
 rw [← put_eq h49]
 rw [← put_eq h69]
 kernel_rfl
def g74_5 (k0 : Int → Int → Int → Option R) (x0 : V15) (x1 : Bool) : Option R :=
k0 (0 : Int) (0 : Int) (6 : Int)
theorem t74_5 (x0 x1) : exec cl N c74_5 (e162 x0 x1) K = (g74_5 (fun y0 y1 y2 => K .normal (e159 y0 y1 y2)) x0 x1) := by
 kernel_rfl
theorem kp74_2 (x0 x1) : keep [1, 2, 3, 4] (e162 x0 x1) = (e161 x0) := by kernel_rfl
theorem hb74_1 (x0 x1) : boolOf? (ent (e162 x0 x1) (.t 24)) = some x1 := by kernel_rfl
def g74_7 (S98 : V4 → Option (Int)) (k0 : Int → Int → Int → Option R) (x0 : V15) : Option R :=
(S98 x0.2.1).bind fun r817 =>
(S98 x0.2.2.1).bind fun r818 =>
k0 r817 r818 (0 : Int)
theorem t74_7 (S98) (h98 : (ctr98 S98).holds cl) (x0) : exec cl N c74_7 (e161 x0) K = (g74_7 S98 (fun y0 y1 y2 => K .normal (e159 y0 y1 y2)) x0) := by
 rw [← put_eq h98]
 kernel_rfl
def g74_8 (S49 : Int → Option V6) (S69 : V4 → V4 → Option (Int)) (S97 : V15 → Option (Bool)) (S98 : V4 → Option (Int)) (k0 : Int → Int → Int → Option R) (k1 : Int → Int → Int → Option R) (x0 : V15) : Option R :=
(g74_0 (g74_1 S97 (fun y0 y1 => brB y1 (g74_2 k0 y0 y1) ((g74_4 S49 S69 (fun y0 y1 => brB y1 (g74_5 k0 y0 y1) ((g74_7 S98 k1) y0))) y0))) x0)
theorem t74_8 (S49) (S69) (S97) (S98) (h49 : (ctr49 S49).holds cl) (h69 : (ctr69 S69).holds cl) (h97 : (ctr97 S97).holds cl) (h98 : (ctr98 S98).holds cl) (x0) : exec cl N c74_8 [(0, .v U12 x0)] K = (g74_8 S49 S69 S97 S98 (fun y0 y1 y2 => K .ret (e160 y0 y1 y2)) (fun y0 y1 y2 => K .ret (e159 y0 y1 y2)) x0) := by
 simp only [c74_8, exec_seq, seqK_normal, seqK_exit, seqK_ret, t74_0, t74_1 S97 h97, c74_3, exec_out, exec_cond', hb74_0, Option.bind_some, brB_true, brB_false, t74_2, exec_ret, exec_skip, kp74_0, kp74_1, t74_4 S49 S69 h49 h69, c74_6, hb74_1, t74_5, kp74_2, t74_7 S98 h98]
 rfl
theorem rk74_0 (y0 y1 y2) : retK d74 .ret (e160 y0 y1 y2) = some [.v U1 y0, .v U1 y1, .v U1 y2] := by kernel_rfl
theorem rk74_1 (y0 y1 y2) : retK d74 .ret (e159 y0 y1 y2) = some [.v U1 y0, .v U1 y1, .v U1 y2] := by kernel_rfl
def g74 (S49 : Int → Option V6) (S69 : V4 → V4 → Option (Int)) (S97 : V15 → Option (Bool)) (S98 : V4 → Option (Int)) (x0 : V15) (k : Int → Int → Int → Option R) : Option R :=
(g74_8 S49 S69 S97 S98 k k x0)
theorem gen74 (S49) (S69) (S97) (S98) (h49 : (ctr49 S49).holds cl) (h69 : (ctr69 S69).holds cl) (h97 : (ctr97 S97).holds cl) (h98 : (ctr98 S98).holds cl) (x0) (k : List E → Option R) : exec cl N c74 [(0, .v U12 x0)] (fun e env => (retK d74 e env).bind k) = g74 S49 S69 S97 S98 x0 (fun r0 r1 r2 => k [.v U1 r0, .v U1 r1, .v U1 r2]) := by
 simp only [c74, t74_8 S49 S69 S97 S98 h49 h69 h97 h98, rk74_0, rk74_1, Option.bind_some]
 rfl
def ctr74 (S : V15 → Option V3) : Ctr := cv1 74 U12 S fun b => [.v U1 b.1, .v U1 b.2.1, .v U1 b.2.2]
def S74 (N : Nat) (x0 : V15) : Option V3 := g74 (S49 N) (S69 N) (S97 N) (S98 N) x0 (fun (r0 : Int) (r1 : Int) (r2 : Int) => some (r0, r1, r2))
def g43_9 (S74 : V15 → Option V3) (k0 : Int → Int → Int → Int → Int → Int → Int → Option R) (x0 x1 x2 x3 : Int) (x4 : V15) : Option R :=
(S74 x4).bind fun r825 =>
k0 x0 x1 x2 x3 r825.1 r825.2.1 r825.2.2
theorem t43_9 (S74) (h74 : (ctr74 S74).holds cl) (x0 x1 x2 x3 x4) : exec cl N c43_9 (e163 x0 x1 x2 x3 x4) K = (g43_9 S74 (fun y0 y1 y2 y3 y4 y5 y6 => exec cl N (.seq (.seq c43_2 c43_4) (.seq (.seq c43_5 c43_7) (.seq c43_8 .ret))) (e164 y0 y1 y2 y3 y4 y5 y6) K) x0 x1 x2 x3 x4) := by
 rw [← put_eq h74]
 kernel_rfl
def g43_2 (k0 : Int → Int → Int → Int → Int → Int → Int → Bool → Option R) (x0 x1 x2 x3 x4 x5 x6 : Int) : Option R :=
k0 x0 x1 x2 x3 x4 x5 x6 (x6 != (0 : Int))
theorem t43_2 (x0 x1 x2 x3 x4 x5 x6) : exec cl N c43_2 (e164 x0 x1 x2 x3 x4 x5 x6) K = (g43_2 (fun y0 y1 y2 y3 y4 y5 y6 y7 => K .normal (e165 y0 y1 y2 y3 y4 y5 y6 y7)) x0 x1 x2 x3 x4 x5 x6) := by
 kernel_rfl
def g43_3 (k0 : Int → Int → Int → Option R) (x0 x1 x2 x3 x4 x5 x6 : Int) (x7 : Bool) : Option R :=
k0 (0 : Int) (0 : Int) x6
theorem t43_3 (x0 x1 x2 x3 x4 x5 x6 x7) : exec cl N c43_3 (e165 x0 x1 x2 x3 x4 x5 x6 x7) K = (g43_3 (fun y0 y1 y2 => K .normal (e166 y0 y1 y2)) x0 x1 x2 x3 x4 x5 x6 x7) := by
 kernel_rfl
theorem kp43_0 (x0 x1 x2) : keep [0, 1, 2, 3, 10, 11, 12, 13, 14] (e166 x0 x1 x2) = (e167 x0 x1 x2) := by kernel_rfl
theorem kp43_1 (x0 x1 x2 x3 x4 x5 x6 x7) : keep [0, 1, 2, 3, 10, 11, 12, 13, 14] (e165 x0 x1 x2 x3 x4 x5 x6 x7) = (e168 x0 x1 x2 x3 x4 x5) := by kernel_rfl
theorem hb43_0 (x0 x1 x2 x3 x4 x5 x6 x7) : boolOf? (ent (e165 x0 x1 x2 x3 x4 x5 x6 x7) (.t 23)) = some x7 := by kernel_rfl
def g43_5 (k0 : Int → Int → Bool → Option R) (x0 x1 x2 x3 x4 x5 : Int) : Option R :=
brB (decide (x0 < (0 : Int))) (k0 x4 x5 true) (brB (decide (x0 > x2)) (k0 x4 x5 true) (brB (decide (x1 < (0 : Int))) (k0 x4 x5 true) (k0 x4 x5 (decide (x1 > x3)))))
theorem t43_5 (x0 x1 x2 x3 x4 x5) : exec cl N c43_5 (e168 x0 x1 x2 x3 x4 x5) K = (g43_5 (fun y0 y1 y2 => K .normal (e169 y0 y1 y2)) x0 x1 x2 x3 x4 x5) := by
 kernel_rfl
def g43_6 (k0 : Int → Int → Int → Option R) (x0 x1 : Int) (x2 : Bool) : Option R :=
k0 (0 : Int) (0 : Int) (6 : Int)
theorem t43_6 (x0 x1 x2) : exec cl N c43_6 (e169 x0 x1 x2) K = (g43_6 (fun y0 y1 y2 => K .normal (e166 y0 y1 y2)) x0 x1 x2) := by
 kernel_rfl
theorem kp43_2 (x0 x1 x2) : keep [10, 11, 12, 13, 14] (e166 x0 x1 x2) = (e170 x0 x1 x2) := by kernel_rfl
theorem kp43_3 (x0 x1 x2) : keep [10, 11, 12, 13, 14] (e169 x0 x1 x2) = (e171 x0 x1) := by kernel_rfl
theorem hb43_1 (x0 x1 x2) : boolOf? (ent (e169 x0 x1 x2) (.t 40)) = some x2 := by kernel_rfl
def g43_8 (k0 : Int → Int → Int → Option R) (x0 x1 : Int) : Option R :=
k0 x0 x1 (0 : Int)
theorem t43_8 (x0 x1) : exec cl N c43_8 (e171 x0 x1) K = (g43_8 (fun y0 y1 y2 => K .normal (e166 y0 y1 y2)) x0 x1) := by
 kernel_rfl
def g43_9b (S74 : V15 → Option V3) (k0 : Int → Int → Int → Option R) (k1 : Int → Int → Int → Option R) (k2 : Int → Int → Int → Option R) (x0 x1 x2 x3 : Int) (x4 : V15) : Option R :=
(g43_9 S74 (g43_2 (fun y0 y1 y2 y3 y4 y5 y6 y7 => brB y7 (g43_3 k0 y0 y1 y2 y3 y4 y5 y6 y7) ((g43_5 (fun y0 y1 y2 => brB y2 (g43_6 k1 y0 y1 y2) ((g43_8 k2) y0 y1))) y0 y1 y2 y3 y4 y5))) x0 x1 x2 x3 x4)
theorem t43_9b (S74) (h74 : (ctr74 S74).holds cl) (x0 x1 x2 x3 x4) : exec cl N c43_9 (e163 x0 x1 x2 x3 x4) K = (g43_9b S74 (fun y0 y1 y2 => K .ret (e167 y0 y1 y2)) (fun y0 y1 y2 => K .ret (e170 y0 y1 y2)) (fun y0 y1 y2 => K .ret (e166 y0 y1 y2)) x0 x1 x2 x3 x4) := by
 simp only [exec_seq, seqK_normal, seqK_exit, seqK_ret, t43_9 S74 h74, t43_2, c43_4, exec_out, exec_cond', hb43_0, Option.bind_some, brB_true, brB_false, t43_3, exec_ret, exec_skip, kp43_0, kp43_1, t43_5, c43_7, hb43_1, t43_6, kp43_2, kp43_3, t43_8]
 rfl
theorem rk43_0 (y0 y1 y2) : retK d43 .ret (e167 y0 y1 y2) = some [.v U1 y0, .v U1 y1, .v U1 y2] := by kernel_rfl
theorem rk43_1 (y0 y1 y2) : retK d43 .ret (e170 y0 y1 y2) = some [.v U1 y0, .v U1 y1, .v U1 y2] := by kernel_rfl
theorem rk43_2 (y0 y1 y2) : retK d43 .ret (e166 y0 y1 y2) = some [.v U1 y0, .v U1 y1, .v U1 y2] := by kernel_rfl
def g43 (S74 : V15 → Option V3) (x0 x1 x2 x3 : Int) (x4 : V15) (k : Int → Int → Int → Option R) : Option R :=
(g43_9b S74 k k k x0 x1 x2 x3 x4)
theorem gen43 (S74) (h74 : (ctr74 S74).holds cl) (x0 x1 x2 x3 x4) (k : List E → Option R) : exec cl N c43 (e163 x0 x1 x2 x3 x4) (fun e env => (retK d43 e env).bind k) = g43 S74 x0 x1 x2 x3 x4 (fun r0 r1 r2 => k [.v U1 r0, .v U1 r1, .v U1 r2]) := by
 simp only [c43, t43_9b S74 h74, rk43_0, rk43_1, rk43_2, Option.bind_some]
 rfl
def ctr43 (S : Int → Int → Int → Int → V15 → Option V3) : Ctr := cv5 43 U1 U1 U1 U1 U12 S fun b => [.v U1 b.1, .v U1 b.2.1, .v U1 b.2.2]
def S43 (N : Nat) (x0 : Int) (x1 : Int) (x2 : Int) (x3 : Int) (x4 : V15) : Option V3 := g43 (S74 N) x0 x1 x2 x3 x4 (fun (r0 : Int) (r1 : Int) (r2 : Int) => some (r0, r1, r2))
def g106_0 (k0 : V0 → V4 → Option R) (x0 : V0) : Option R :=
k0 x0 ([], ())
theorem t106_0 (x0) : exec cl N c106_0 [(0, .v U2 x0)] K = (g106_0 (fun y0 y1 => K .normal (e97 y0 y1)) x0) := by
 kernel_rfl
def g106_1 (k0 : V0 → V4 → Bool → Option R) (x0 : V0) (x1 : V4) : Option R :=
k0 x0 x1 (decide ((x0.length : Int) > (200 : Int)))
theorem t106_1 (x0 x1) : exec cl N c106_1 (e97 x0 x1) K = (g106_1 (fun y0 y1 y2 => K .normal (e98 y0 y1 y2)) x0 x1) := by
 kernel_rfl
def g106_2 (k0 : V4 → Int → Option R) (x0 : V0) (x1 : V4) (x2 : Bool) : Option R :=
k0 ([], ()) (3 : Int)
theorem t106_2 (x0 x1 x2) : exec cl N c106_2 (e98 x0 x1 x2) K = (g106_2 (fun y0 y1 => K .normal (e2 y0 y1)) x0 x1 x2) := by
 kernel_rfl
theorem kp106_0 (x0 x1) : keep [0, 2, 3] (e2 x0 x1) = (e3 x0 x1) := by kernel_rfl
theorem kp106_1 (x0 x1 x2) : keep [0, 2, 3] (e98 x0 x1 x2) = (e99 x0 x1) := by kernel_rfl
theorem hb106_0 (x0 x1 x2) : boolOf? (ent (e98 x0 x1 x2) (.t 6)) = some x2 := by kernel_rfl
def g106_4 (S105 : V0 → Option V6) (k0 : V4 → Int → Option R) (x0 : V0) (x1 : V4) : Option R :=
(S105 x0).bind fun r855 =>
k0 r855 (0 : Int)
theorem t106_4 (S105) (h105 : (ctr105 S105).holds cl) (x0 x1) : exec cl N c106_4 (e99 x0 x1) K = (g106_4 S105 (fun y0 y1 => K .normal (e8 y0 y1)) x0 x1) := by
 rw [← put_eq h105]
 kernel_rfl
def g106_5 (S105 : V0 → Option V6) (k0 : V4 → Int → Option R) (k1 : V4 → Int → Option R) (x0 : V0) : Option R :=
(g106_0 (g106_1 (fun y0 y1 y2 => brB y2 (g106_2 k0 y0 y1 y2) ((g106_4 S105 k1) y0 y1))) x0)
theorem t106_5 (S105) (h105 : (ctr105 S105).holds cl) (x0) : exec cl N c106_5 [(0, .v U2 x0)] K = (g106_5 S105 (fun y0 y1 => K .ret (e3 y0 y1)) (fun y0 y1 => K .ret (e8 y0 y1)) x0) := by
 simp only [c106_5, exec_seq, seqK_normal, seqK_exit, seqK_ret, t106_0, t106_1, c106_3, exec_out, exec_cond', hb106_0, Option.bind_some, brB_true, brB_false, t106_2, exec_ret, exec_skip, kp106_0, kp106_1, t106_4 S105 h105]
 rfl
theorem rk106_0 (y0 y1) : retK d106 .ret (e3 y0 y1) = some [.v U5 y0, .v U1 y1] := by kernel_rfl
theorem rk106_1 (y0 y1) : retK d106 .ret (e8 y0 y1) = some [.v U5 y0, .v U1 y1] := by kernel_rfl
def g106 (S105 : V0 → Option V6) (x0 : V0) (k : V4 → Int → Option R) : Option R :=
(g106_5 S105 k k x0)
theorem gen106 (S105) (h105 : (ctr105 S105).holds cl) (x0) (k : List E → Option R) : exec cl N c106 [(0, .v U2 x0)] (fun e env => (retK d106 e env).bind k) = g106 S105 x0 (fun r0 r1 => k [.v U5 r0, .v U1 r1]) := by
 simp only [c106, t106_5 S105 h105, rk106_0, rk106_1, Option.bind_some]
 rfl
def ctr106 (S : V0 → Option V8) : Ctr := cv1 106 U2 S fun b => [.v U5 b.1, .v U1 b.2]
def S106 (N : Nat) (x0 : V0) : Option V8 := g106 (S105 N) x0 (fun (r0 : V4) (r1 : Int) => some (r0, r1))
def g92_0 (k0 : Int → Int → V4 → Option R) (x0 x1 : Int) : Option R :=
k0 x0 x1 ([], ())
theorem t92_0 (x0 x1) : exec cl N c92_0 (e83 x0 x1) K = (g92_0 (fun y0 y1 y2 => K .normal (e172 y0 y1 y2)) x0 x1) := by
 kernel_rfl
def g92_1 (k0 : Int → Int → V4 → Bool → Option R) (x0 x1 : Int) (x2 : V4) : Option R :=
brB (decide (x0 < (0 : Int))) (k0 x0 x1 x2 true) (brB (decide (x0 > (400 : Int))) (k0 x0 x1 x2 true) (brB (decide (x1 < (0 : Int))) (k0 x0 x1 x2 true) (k0 x0 x1 x2 (decide (x1 > x0)))))
theorem t92_1 (x0 x1 x2) : exec cl N c92_1 (e172 x0 x1 x2) K = (g92_1 (fun y0 y1 y2 y3 => K .normal (e173 y0 y1 y2 y3)) x0 x1 x2) := by
 kernel_rfl
def g92_2 (k0 : V4 → Int → Option R) (x0 x1 : Int) (x2 : V4) (x3 : Bool) : Option R :=
k0 ([], ()) (6 : Int)
theorem t92_2 (x0 x1 x2 x3) : exec cl N c92_2 (e173 x0 x1 x2 x3) K = (g92_2 (fun y0 y1 => K .normal (e44 y0 y1)) x0 x1 x2 x3) := by
 kernel_rfl
theorem kp92_0 (x0 x1) : keep [0, 1, 4, 5] (e44 x0 x1) = (e174 x0 x1) := by kernel_rfl
theorem kp92_1 (x0 x1 x2 x3) : keep [0, 1, 4, 5] (e173 x0 x1 x2 x3) = (e175 x0 x1 x2) := by kernel_rfl
theorem hb92_0 (x0 x1 x2 x3) : boolOf? (ent (e173 x0 x1 x2 x3) (.t 22)) = some x3 := by kernel_rfl
def g92_4 (k0 : Int → Int → V4 → V0 → Option R) (x0 x1 : Int) (x2 : V4) : Option R :=
k0 x0 x1 x2 [(1 : Int)]
theorem t92_4 (x0 x1 x2) : exec cl N c92_4 (e175 x0 x1 x2) K = (g92_4 (fun y0 y1 y2 y3 => K .normal (e176 y0 y1 y2 y3)) x0 x1 x2) := by
 kernel_rfl
def g92_5 (k0 : Int → Int → V4 → V0 → Int → Option R) (x0 x1 : Int) (x2 : V4) (x3 : V0) : Option R :=
k0 x0 x1 x2 x3 (1 : Int)
theorem t92_5 (x0 x1 x2 x3) : exec cl N c92_5 (e176 x0 x1 x2 x3) K = (g92_5 (fun y0 y1 y2 y3 y4 => K .normal (e177 y0 y1 y2 y3 y4)) x0 x1 x2 x3) := by
 kernel_rfl
theorem kp92_2 (x0 x1 x2 x3 x4) : keep [0, 1, 4, 6, 7] (e177 x0 x1 x2 x3 x4) = (e177 x0 x1 x2 x3 x4) := by kernel_rfl
def g92_6 (k0 : Int → Int → V4 → V0 → Int → Bool → Option R) (x0 x1 : Int) (x2 : V4) (x3 : V0) (x4 : Int) : Option R :=
let v861 : Int := (IntKind.i64.wrap (x0 - x1))
k0 x0 x1 x2 x3 x4 (decide (x4 ≤ (if v861 < x1 then v861 else x1)))
theorem t92_6 (x0 x1 x2 x3 x4) : exec cl N c92_6 (e177 x0 x1 x2 x3 x4) K = (g92_6 (fun y0 y1 y2 y3 y4 y5 => K .normal (e178 y0 y1 y2 y3 y4 y5)) x0 x1 x2 x3 x4) := by
 kernel_rfl
theorem kp92_3 (x0 x1 x2 x3 x4 x5) : keep [0, 1, 4, 6, 7] (e178 x0 x1 x2 x3 x4 x5) = (e177 x0 x1 x2 x3 x4) := by kernel_rfl
theorem hb92_1 (x0 x1 x2 x3 x4 x5) : boolOf? (ent (e178 x0 x1 x2 x3 x4 x5) (.t 31)) = some x5 := by kernel_rfl
def g92_10 (S114 : V0 → V0 → Option V1) (S115 : V0 → V0 → Option V7) (k0 : Int → Int → V4 → V0 → Int → Option R) (x0 x1 : Int) (x2 : V4) (x3 : V0) (x4 : Int) : Option R :=
(S114 x3 [(IntKind.i64.wrap ((IntKind.i64.wrap (x0 + (1 : Int))) - x4))]).bind fun r869 =>
(S115 r869 [x4]).bind fun r870 =>
k0 x0 x1 x2 r870.1 x4
theorem t92_10 (S114) (S115) (h114 : (ctr114 S114).holds cl) (h115 : (ctr115 S115).holds cl) (x0 x1 x2 x3 x4) : exec cl N c92_10 (e177 x0 x1 x2 x3 x4) K = (g92_10 S114 S115 (fun y0 y1 y2 y3 y4 => K .normal (e177 y0 y1 y2 y3 y4)) x0 x1 x2 x3 x4) := by
 rw [← put_eq h114]
 rw [← put_eq h115]
 kernel_rfl
def g92_12 (k0 : Int → Int → V4 → V0 → Int → Option R) (x0 x1 : Int) (x2 : V4) (x3 : V0) (x4 : Int) : Option R :=
k0 x0 x1 x2 x3 (IntKind.i64.wrap (x4 + (1 : Int)))
theorem t92_12 (x0 x1 x2 x3 x4) : exec cl N c92_12 (e177 x0 x1 x2 x3 x4) K = (g92_12 (fun y0 y1 y2 y3 y4 => K .normal (e177 y0 y1 y2 y3 y4)) x0 x1 x2 x3 x4) := by
 kernel_rfl
def g92_13 (S114 : V0 → V0 → Option V1) (S115 : V0 → V0 → Option V7) (k0 : Int → Int → V4 → V0 → Int → Option R) (k1 : Int → Int → V4 → V0 → Int → Option R) (x0 x1 : Int) (x2 : V4) (x3 : V0) (x4 : Int) : Option R :=
(g92_6 (fun y0 y1 y2 y3 y4 y5 => brB y5 ((g92_10 S114 S115 ((g92_12 k0))) y0 y1 y2 y3 y4) (k1 y0 y1 y2 y3 y4)) x0 x1 x2 x3 x4)
theorem t92_13 (S114) (S115) (h114 : (ctr114 S114).holds cl) (h115 : (ctr115 S115).holds cl) (x0 x1 x2 x3 x4) : exec cl N c92_13 (e177 x0 x1 x2 x3 x4) K = (g92_13 S114 S115 (fun y0 y1 y2 y3 y4 => K .normal (e177 y0 y1 y2 y3 y4)) (fun y0 y1 y2 y3 y4 => K (.exit 0) (e177 y0 y1 y2 y3 y4)) x0 x1 x2 x3 x4) := by
 simp only [c92_13, exec_seq, seqK_normal, seqK_exit, seqK_ret, t92_6, c92_7, exec_out, exec_cond', hb92_1, Option.bind_some, brB_true, brB_false, exec_skip, exec_exit, kp92_3, c92_11, exec_block, t92_10 S114 S115 h114 h115, blockK_normal, blockK_ret, blockK_eq, kp92_2, t92_12]
 rfl
def l92_14 {R : Type} (S114 : V0 → V0 → Option V1) (S115 : V0 → V0 → Option V7) (k0 : Int → Int → V4 → V0 → Int → Option R) : Nat → Int → Int → V4 → V0 → Int → Option R
 | 0, _, _, _, _, _ => none
 | m + 1, x0, x1, x2, x3, x4 => (g92_13 S114 S115 (l92_14 S114 S115 k0 m) k0 x0 x1 x2 x3 x4)
theorem lt92_14 (S114) (S115) (h114 : (ctr114 S114).holds cl) (h115 : (ctr115 S115).holds cl) : ∀ (m) (x0 x1 x2 x3 x4), iter [0, 1, 4, 6, 7] (fun env K => exec cl N c92_13 env K) K m (e177 x0 x1 x2 x3 x4) = l92_14 S114 S115 (fun y0 y1 y2 y3 y4 => K (.exit 0) (e177 y0 y1 y2 y3 y4)) m x0 x1 x2 x3 x4 := by
 intro m
 induction m with
 | zero => intros; rfl
 | succ m ih =>
   intro x0 x1 x2 x3 x4
   simp only [iter_succ, t92_13 S114 S115 h114 h115, loopK_normal, loopK_exit, loopK_ret, kp92_2, ih]
   rfl
theorem kp92_4 (x0 x1 x2 x3 x4) : keep [4, 6] (e177 x0 x1 x2 x3 x4) = (e156 x2 x3) := by kernel_rfl
def g92_14 (N : Nat) (S114 : V0 → V0 → Option V1) (S115 : V0 → V0 → Option V7) (k0 : V4 → V0 → Option R) (x0 x1 : Int) (x2 : V4) (x3 : V0) (x4 : Int) : Option R :=
l92_14 S114 S115 (fun y0 y1 y2 y3 y4 => k0 y2 y3) N x0 x1 x2 x3 x4
theorem t92_14 (S114) (S115) (h114 : (ctr114 S114).holds cl) (h115 : (ctr115 S115).holds cl) (x0 x1 x2 x3 x4) : exec cl N c92_14 (e177 x0 x1 x2 x3 x4) K = (g92_14 N S114 S115 (fun y0 y1 => K (.exit 0) (e156 y0 y1)) x0 x1 x2 x3 x4) := by
 simp only [c92_14, exec_out, exec_loop, kp92_2, lt92_14 S114 S115 h114 h115, kp92_4]
 rfl
theorem kp92_5 (x0 x1) : keep [4, 6] (e156 x0 x1) = (e156 x0 x1) := by kernel_rfl
def g92_16 (S106 : V0 → Option V8) (k0 : V4 → Int → Option R) (x0 : V4) (x1 : V0) : Option R :=
(S106 x1).bind fun r872 =>
k0 r872.1 r872.2
theorem t92_16 (S106) (h106 : (ctr106 S106).holds cl) (x0 x1) : exec cl N c92_16 (e156 x0 x1) K = (g92_16 S106 (fun y0 y1 => K .normal (e49 y0 y1)) x0 x1) := by
 rw [← put_eq h106]
 kernel_rfl
def g92_17 (N : Nat) (S106 : V0 → Option V8) (S114 : V0 → V0 → Option V1) (S115 : V0 → V0 → Option V7) (k0 : V4 → Int → Option R) (k1 : V4 → Int → Option R) (x0 x1 : Int) : Option R :=
(g92_0 (g92_1 (fun y0 y1 y2 y3 => brB y3 (g92_2 k0 y0 y1 y2 y3) ((g92_4 (g92_5 (g92_14 N S114 S115 ((g92_16 S106 k1))))) y0 y1 y2))) x0 x1)
theorem t92_17 (S106) (S114) (S115) (h106 : (ctr106 S106).holds cl) (h114 : (ctr114 S114).holds cl) (h115 : (ctr115 S115).holds cl) (x0 x1) : exec cl N c92_17 (e83 x0 x1) K = (g92_17 N S106 S114 S115 (fun y0 y1 => K .ret (e174 y0 y1)) (fun y0 y1 => K .ret (e49 y0 y1)) x0 x1) := by
 simp only [c92_17, exec_seq, seqK_normal, seqK_exit, seqK_ret, t92_0, t92_1, c92_3, exec_out, exec_cond', hb92_0, Option.bind_some, brB_true, brB_false, t92_2, exec_ret, exec_skip, kp92_0, kp92_1, t92_4, t92_5, c92_15, exec_block, t92_14 S114 S115 h114 h115, blockK_normal, blockK_ret, blockK_eq, kp92_5, t92_16 S106 h106]
 rfl
theorem rk92_0 (y0 y1) : retK d92 .ret (e174 y0 y1) = some [.v U5 y0, .v U1 y1] := by kernel_rfl
theorem rk92_1 (y0 y1) : retK d92 .ret (e49 y0 y1) = some [.v U5 y0, .v U1 y1] := by kernel_rfl
def g92 (N : Nat) (S106 : V0 → Option V8) (S114 : V0 → V0 → Option V1) (S115 : V0 → V0 → Option V7) (x0 x1 : Int) (k : V4 → Int → Option R) : Option R :=
(g92_17 N S106 S114 S115 k k x0 x1)
theorem gen92 (S106) (S114) (S115) (h106 : (ctr106 S106).holds cl) (h114 : (ctr114 S114).holds cl) (h115 : (ctr115 S115).holds cl) (x0 x1) (k : List E → Option R) : exec cl N c92 (e83 x0 x1) (fun e env => (retK d92 e env).bind k) = g92 N S106 S114 S115 x0 x1 (fun r0 r1 => k [.v U5 r0, .v U1 r1]) := by
 simp only [c92, t92_17 S106 S114 S115 h106 h114 h115, rk92_0, rk92_1, Option.bind_some]
 rfl
def ctr92 (S : Int → Int → Option V8) : Ctr := cv2 92 U1 U1 S fun b => [.v U5 b.1, .v U1 b.2]
def S92 (N : Nat) (x0 : Int) (x1 : Int) : Option V8 := g92 N (S106 N) (S114 N) (S115 N) x0 x1 (fun (r0 : V4) (r1 : Int) => some (r0, r1))
def g64_0 (k0 : Int → Int → V4 → Option R) (x0 x1 : Int) : Option R :=
k0 x0 x1 ([], ())
theorem t64_0 (x0 x1) : exec cl N c64_0 (e83 x0 x1) K = (g64_0 (fun y0 y1 y2 => K .normal (e172 y0 y1 y2)) x0 x1) := by
 kernel_rfl
def g64_1 (k0 : Int → Int → V4 → Bool → Option R) (x0 x1 : Int) (x2 : V4) : Option R :=
brB (decide (x1 < (0 : Int))) (k0 x0 x1 x2 true) (k0 x0 x1 x2 (decide (x1 > x0)))
theorem t64_1 (x0 x1 x2) : exec cl N c64_1 (e172 x0 x1 x2) K = (g64_1 (fun y0 y1 y2 y3 => K .normal (e179 y0 y1 y2 y3)) x0 x1 x2) := by
 kernel_rfl
def g64_2 (S49 : Int → Option V6) (k0 : V4 → Option R) (x0 x1 : Int) (x2 : V4) (x3 : Bool) : Option R :=
(S49 (0 : Int)).bind fun r877 =>
k0 r877
theorem t64_2 (S49) (h49 : (ctr49 S49).holds cl) (x0 x1 x2 x3) : exec cl N c64_2 (e179 x0 x1 x2 x3) K = (g64_2 S49 (fun y0 => K .normal [(4, .loc U5 .no y0)]) x0 x1 x2 x3) := by
 rw [← put_eq h49]
 kernel_rfl
theorem kp64_0 (x0) : keep [0, 1, 4] [(4, .loc U5 .no x0)] = (e180 x0) := by kernel_rfl
theorem kp64_1 (x0 x1 x2 x3) : keep [0, 1, 4] (e179 x0 x1 x2 x3) = (e172 x0 x1 x2) := by kernel_rfl
theorem hb64_0 (x0 x1 x2 x3) : boolOf? (ent (e179 x0 x1 x2 x3) (.t 13)) = some x3 := by kernel_rfl
def g64_6 (S92 : Int → Int → Option V8) (k0 : V4 → Option R) (x0 x1 : Int) (x2 : V4) : Option R :=
(S92 x0 x1).bind fun r879 =>
k0 r879.1
theorem t64_6 (S92) (h92 : (ctr92 S92).holds cl) (x0 x1 x2) : exec cl N c64_6 (e172 x0 x1 x2) K = (g64_6 S92 (fun y0 => exec cl N .ret [(4, .loc U5 .no y0)] K) x0 x1 x2) := by
 rw [← put_eq h92]
 kernel_rfl
def g64_7 (S49 : Int → Option V6) (S92 : Int → Int → Option V8) (k0 : V4 → Option R) (k1 : V4 → Option R) (x0 x1 : Int) : Option R :=
(g64_0 (g64_1 (fun y0 y1 y2 y3 => brB y3 (g64_2 S49 k0 y0 y1 y2 y3) ((g64_6 S92 k1) y0 y1 y2))) x0 x1)
theorem t64_7 (S49) (S92) (h49 : (ctr49 S49).holds cl) (h92 : (ctr92 S92).holds cl) (x0 x1) : exec cl N c64_7 (e83 x0 x1) K = (g64_7 S49 S92 (fun y0 => K .ret (e180 y0)) (fun y0 => K .ret [(4, .loc U5 .no y0)]) x0 x1) := by
 simp only [c64_7, exec_seq, seqK_normal, seqK_exit, seqK_ret, t64_0, t64_1, c64_3, exec_out, exec_cond', hb64_0, Option.bind_some, brB_true, brB_false, t64_2 S49 h49, exec_ret, exec_skip, kp64_0, kp64_1, t64_6 S92 h92]
 rfl
theorem rk64_0 (y0) : retK d64 .ret (e180 y0) = some [.v U5 y0] := by kernel_rfl
theorem rk64_1 (y0) : retK d64 .ret [(4, .loc U5 .no y0)] = some [.v U5 y0] := by kernel_rfl
def g64 (S49 : Int → Option V6) (S92 : Int → Int → Option V8) (x0 x1 : Int) (k : V4 → Option R) : Option R :=
(g64_7 S49 S92 k k x0 x1)
theorem gen64 (S49) (S92) (h49 : (ctr49 S49).holds cl) (h92 : (ctr92 S92).holds cl) (x0 x1) (k : List E → Option R) : exec cl N c64 (e83 x0 x1) (fun e env => (retK d64 e env).bind k) = g64 S49 S92 x0 x1 (fun r0 => k [.v U5 r0]) := by
 simp only [c64, t64_7 S49 S92 h49 h92, rk64_0, rk64_1, Option.bind_some]
 rfl
def ctr64 (S : Int → Int → Option V6) : Ctr := cv2 64 U1 U1 S fun b => [.v U5 b]
def S64 (N : Nat) (x0 : Int) (x1 : Int) : Option V6 := g64 (S49 N) (S92 N) x0 x1 (fun (r0 : V4) => some (r0))
def g103_0 (k0 : V4 → V4 → V4 → Option R) (x0 x1 : V4) : Option R :=
k0 x0 x1 ([], ())
theorem t103_0 (x0 x1) : exec cl N c103_0 (e41 x0 x1) K = (g103_0 (fun y0 y1 y2 => K .normal (e42 y0 y1 y2)) x0 x1) := by
 kernel_rfl
def g103_1 (S75 : V4 → Option (Bool)) (k0 : V4 → V4 → V4 → Bool → Option R) (x0 x1 x2 : V4) : Option R :=
(S75 x0).bind fun r888 =>
brB (!r888) (k0 x0 x1 x2 true) ((S75 x1).bind fun r889 =>
k0 x0 x1 x2 (!r889))
theorem t103_1 (S75) (h75 : (ctr75 S75).holds cl) (x0 x1 x2) : exec cl N c103_1 (e42 x0 x1 x2) K = (g103_1 S75 (fun y0 y1 y2 y3 => K .normal (e100 y0 y1 y2 y3)) x0 x1 x2) := by
 rw [← put_eq h75]
 kernel_rfl
def g103_2 (k0 : V4 → Int → Option R) (x0 x1 x2 : V4) (x3 : Bool) : Option R :=
k0 ([], ()) (1 : Int)
theorem t103_2 (x0 x1 x2 x3) : exec cl N c103_2 (e100 x0 x1 x2 x3) K = (g103_2 (fun y0 y1 => K .normal (e44 y0 y1)) x0 x1 x2 x3) := by
 kernel_rfl
theorem kp103_0 (x0 x1) : keep [2, 3, 4, 5] (e44 x0 x1) = (e45 x0 x1) := by kernel_rfl
theorem kp103_1 (x0 x1 x2 x3) : keep [2, 3, 4, 5] (e100 x0 x1 x2 x3) = (e46 x0 x1 x2) := by kernel_rfl
theorem hb103_0 (x0 x1 x2 x3) : boolOf? (ent (e100 x0 x1 x2 x3) (.t 13)) = some x3 := by kernel_rfl
def g103_4 (S106 : V0 → Option V8) (S114 : V0 → V0 → Option V1) (k0 : V4 → Int → Option R) (x0 x1 x2 : V4) : Option R :=
(S114 x0.1 x1.1).bind fun r890 =>
(S106 r890).bind fun r891 =>
k0 r891.1 r891.2
theorem t103_4 (S106) (S114) (h106 : (ctr106 S106).holds cl) (h114 : (ctr114 S114).holds cl) (x0 x1 x2) : exec cl N c103_4 (e46 x0 x1 x2) K = (g103_4 S106 S114 (fun y0 y1 => K .normal (e49 y0 y1)) x0 x1 x2) := by
 rw [← put_eq h106]
 rw [← put_eq h114]
 kernel_rfl
def g103_5 (S75 : V4 → Option (Bool)) (S106 : V0 → Option V8) (S114 : V0 → V0 → Option V1) (k0 : V4 → Int → Option R) (k1 : V4 → Int → Option R) (x0 x1 : V4) : Option R :=
(g103_0 (g103_1 S75 (fun y0 y1 y2 y3 => brB y3 (g103_2 k0 y0 y1 y2 y3) ((g103_4 S106 S114 k1) y0 y1 y2))) x0 x1)
theorem t103_5 (S75) (S106) (S114) (h75 : (ctr75 S75).holds cl) (h106 : (ctr106 S106).holds cl) (h114 : (ctr114 S114).holds cl) (x0 x1) : exec cl N c103_5 (e41 x0 x1) K = (g103_5 S75 S106 S114 (fun y0 y1 => K .ret (e45 y0 y1)) (fun y0 y1 => K .ret (e49 y0 y1)) x0 x1) := by
 simp only [c103_5, exec_seq, seqK_normal, seqK_exit, seqK_ret, t103_0, t103_1 S75 h75, c103_3, exec_out, exec_cond', hb103_0, Option.bind_some, brB_true, brB_false, t103_2, exec_ret, exec_skip, kp103_0, kp103_1, t103_4 S106 S114 h106 h114]
 rfl
theorem rk103_0 (y0 y1) : retK d103 .ret (e45 y0 y1) = some [.v U5 y0, .v U1 y1] := by kernel_rfl
theorem rk103_1 (y0 y1) : retK d103 .ret (e49 y0 y1) = some [.v U5 y0, .v U1 y1] := by kernel_rfl
def g103 (S75 : V4 → Option (Bool)) (S106 : V0 → Option V8) (S114 : V0 → V0 → Option V1) (x0 x1 : V4) (k : V4 → Int → Option R) : Option R :=
(g103_5 S75 S106 S114 k k x0 x1)
theorem gen103 (S75) (S106) (S114) (h75 : (ctr75 S75).holds cl) (h106 : (ctr106 S106).holds cl) (h114 : (ctr114 S114).holds cl) (x0 x1) (k : List E → Option R) : exec cl N c103 (e41 x0 x1) (fun e env => (retK d103 e env).bind k) = g103 S75 S106 S114 x0 x1 (fun r0 r1 => k [.v U5 r0, .v U1 r1]) := by
 simp only [c103, t103_5 S75 S106 S114 h75 h106 h114, rk103_0, rk103_1, Option.bind_some]
 rfl
def ctr103 (S : V4 → V4 → Option V8) : Ctr := cv2 103 U5 U5 S fun b => [.v U5 b.1, .v U1 b.2]
def S103 (N : Nat) (x0 : V4) (x1 : V4) : Option V8 := g103 (S75 N) (S106 N) (S114 N) x0 x1 (fun (r0 : V4) (r1 : Int) => some (r0, r1))
def g78_3 (S103 : V4 → V4 → Option V8) (k0 : V4 → Option R) (x0 x1 : V4) : Option R :=
(S103 x0 x1).bind fun r895 =>
k0 r895.1
theorem t78_3 (S103) (h103 : (ctr103 S103).holds cl) (x0 x1) : exec cl N c78_3 (e41 x0 x1) K = (g78_3 S103 (fun y0 => exec cl N .ret [(4, .loc U5 .no y0)] K) x0 x1) := by
 rw [← put_eq h103]
 kernel_rfl
def g78_3b (S103 : V4 → V4 → Option V8) (k0 : V4 → Option R) (x0 x1 : V4) : Option R :=
(g78_3 S103 k0 x0 x1)
theorem t78_3b (S103) (h103 : (ctr103 S103).holds cl) (x0 x1) : exec cl N c78_3 (e41 x0 x1) K = (g78_3b S103 (fun y0 => K .ret [(4, .loc U5 .no y0)]) x0 x1) := by
 simp only [exec_seq, seqK_normal, seqK_exit, seqK_ret, t78_3 S103 h103, exec_ret]
 rfl
theorem rk78_0 (y0) : retK d78 .ret [(4, .loc U5 .no y0)] = some [.v U5 y0] := by kernel_rfl
def g78 (S103 : V4 → V4 → Option V8) (x0 x1 : V4) (k : V4 → Option R) : Option R :=
(g78_3b S103 k x0 x1)
theorem gen78 (S103) (h103 : (ctr103 S103).holds cl) (x0 x1) (k : List E → Option R) : exec cl N c78 (e41 x0 x1) (fun e env => (retK d78 e env).bind k) = g78 S103 x0 x1 (fun r0 => k [.v U5 r0]) := by
 simp only [c78, t78_3b S103 h103, rk78_0, Option.bind_some]
 rfl
def ctr78 (S : V4 → V4 → Option V6) : Ctr := cv2 78 U5 U5 S fun b => [.v U5 b]
def S78 (N : Nat) (x0 : V4) (x1 : V4) : Option V6 := g78 (S103 N) x0 x1 (fun (r0 : V4) => some (r0))
def g46_12 (S49 : Int → Option V6) (k0 : Int → V4 → V4 → V4 → Option R) (x0 x1 : Int) : Option R :=
(S49 (1 : Int)).bind fun r898 =>
(S49 x0).bind fun r899 =>
k0 x1 ([], ()) r898 r899
theorem t46_12 (S49) (h49 : (ctr49 S49).holds cl) (x0 x1) : exec cl N c46_12 (e83 x0 x1) K = (g46_12 S49 (fun y0 y1 y2 y3 => exec cl N (.seq (.seq c46_2 c46_10) (.seq c46_11 .ret)) (e181 y0 y1 y2 y3) K) x0 x1) := by
 rw [← put_eq h49]
 kernel_rfl
def g46_2 (k0 : V4 → V4 → V4 → Int → Int → Option R) (x0 : Int) (x1 x2 x3 : V4) : Option R :=
k0 x1 x2 x3 x0 (0 : Int)
theorem t46_2 (x0 x1 x2 x3) : exec cl N c46_2 (e181 x0 x1 x2 x3) K = (g46_2 (fun y0 y1 y2 y3 y4 => K .normal (e182 y0 y1 y2 y3 y4)) x0 x1 x2 x3) := by
 kernel_rfl
theorem kp46_0 (x0 x1 x2 x3 x4) : keep [4, 5, 6, 10, 11] (e182 x0 x1 x2 x3 x4) = (e182 x0 x1 x2 x3 x4) := by kernel_rfl
def g46_3 (k0 : V4 → V4 → V4 → Int → Int → Bool → Option R) (x0 x1 x2 : V4) (x3 x4 : Int) : Option R :=
k0 x0 x1 x2 x3 x4 (decide (x4 < x3))
theorem t46_3 (x0 x1 x2 x3 x4) : exec cl N c46_3 (e182 x0 x1 x2 x3 x4) K = (g46_3 (fun y0 y1 y2 y3 y4 y5 => K .normal (e183 y0 y1 y2 y3 y4 y5)) x0 x1 x2 x3 x4) := by
 kernel_rfl
theorem kp46_1 (x0 x1 x2 x3 x4 x5) : keep [4, 5, 6, 10, 11] (e183 x0 x1 x2 x3 x4 x5) = (e182 x0 x1 x2 x3 x4) := by kernel_rfl
theorem hb46_0 (x0 x1 x2 x3 x4 x5) : boolOf? (ent (e183 x0 x1 x2 x3 x4 x5) (.t 12)) = some x5 := by kernel_rfl
def g46_5 (S78 : V4 → V4 → Option V6) (k0 : V4 → V4 → V4 → Int → Int → Option R) (x0 x1 x2 : V4) (x3 x4 : Int) : Option R :=
(S78 x1 x2).bind fun r901 =>
k0 x0 r901 x2 x3 x4
theorem t46_5 (S78) (h78 : (ctr78 S78).holds cl) (x0 x1 x2 x3 x4) : exec cl N c46_5 (e182 x0 x1 x2 x3 x4) K = (g46_5 S78 (fun y0 y1 y2 y3 y4 => K .normal (e182 y0 y1 y2 y3 y4)) x0 x1 x2 x3 x4) := by
 rw [← put_eq h78]
 kernel_rfl
def g46_7 (k0 : V4 → V4 → V4 → Int → Int → Option R) (x0 x1 x2 : V4) (x3 x4 : Int) : Option R :=
k0 x0 x1 x2 x3 (IntKind.i64.wrap (x4 + (1 : Int)))
theorem t46_7 (x0 x1 x2 x3 x4) : exec cl N c46_7 (e182 x0 x1 x2 x3 x4) K = (g46_7 (fun y0 y1 y2 y3 y4 => K .normal (e182 y0 y1 y2 y3 y4)) x0 x1 x2 x3 x4) := by
 kernel_rfl
def g46_8 (S78 : V4 → V4 → Option V6) (k0 : V4 → V4 → V4 → Int → Int → Option R) (k1 : V4 → V4 → V4 → Int → Int → Option R) (x0 x1 x2 : V4) (x3 x4 : Int) : Option R :=
(g46_3 (fun y0 y1 y2 y3 y4 y5 => brB y5 ((g46_5 S78 ((g46_7 k0))) y0 y1 y2 y3 y4) (k1 y0 y1 y2 y3 y4)) x0 x1 x2 x3 x4)
theorem t46_8 (S78) (h78 : (ctr78 S78).holds cl) (x0 x1 x2 x3 x4) : exec cl N c46_8 (e182 x0 x1 x2 x3 x4) K = (g46_8 S78 (fun y0 y1 y2 y3 y4 => K .normal (e182 y0 y1 y2 y3 y4)) (fun y0 y1 y2 y3 y4 => K (.exit 0) (e182 y0 y1 y2 y3 y4)) x0 x1 x2 x3 x4) := by
 simp only [c46_8, exec_seq, seqK_normal, seqK_exit, seqK_ret, t46_3, c46_4, exec_out, exec_cond', hb46_0, Option.bind_some, brB_true, brB_false, exec_skip, exec_exit, kp46_1, c46_6, exec_block, t46_5 S78 h78, blockK_normal, blockK_ret, blockK_eq, kp46_0, t46_7]
 rfl
def l46_9 {R : Type} (S78 : V4 → V4 → Option V6) (k0 : V4 → V4 → V4 → Int → Int → Option R) : Nat → V4 → V4 → V4 → Int → Int → Option R
 | 0, _, _, _, _, _ => none
 | m + 1, x0, x1, x2, x3, x4 => (g46_8 S78 (l46_9 S78 k0 m) k0 x0 x1 x2 x3 x4)
theorem lt46_9 (S78) (h78 : (ctr78 S78).holds cl) : ∀ (m) (x0 x1 x2 x3 x4), iter [4, 5, 6, 10, 11] (fun env K => exec cl N c46_8 env K) K m (e182 x0 x1 x2 x3 x4) = l46_9 S78 (fun y0 y1 y2 y3 y4 => K (.exit 0) (e182 y0 y1 y2 y3 y4)) m x0 x1 x2 x3 x4 := by
 intro m
 induction m with
 | zero => intros; rfl
 | succ m ih =>
   intro x0 x1 x2 x3 x4
   simp only [iter_succ, t46_8 S78 h78, loopK_normal, loopK_exit, loopK_ret, kp46_0, ih]
   rfl
theorem kp46_2 (x0 x1 x2 x3 x4) : keep [4, 5] (e182 x0 x1 x2 x3 x4) = (e184 x0 x1) := by kernel_rfl
def g46_9 (N : Nat) (S78 : V4 → V4 → Option V6) (k0 : V4 → V4 → Option R) (x0 x1 x2 : V4) (x3 x4 : Int) : Option R :=
l46_9 S78 (fun y0 y1 y2 y3 y4 => k0 y0 y1) N x0 x1 x2 x3 x4
theorem t46_9 (S78) (h78 : (ctr78 S78).holds cl) (x0 x1 x2 x3 x4) : exec cl N c46_9 (e182 x0 x1 x2 x3 x4) K = (g46_9 N S78 (fun y0 y1 => K (.exit 0) (e184 y0 y1)) x0 x1 x2 x3 x4) := by
 simp only [c46_9, exec_out, exec_loop, kp46_0, lt46_9 S78 h78, kp46_2]
 rfl
theorem kp46_3 (x0 x1) : keep [4, 5] (e184 x0 x1) = (e184 x0 x1) := by kernel_rfl
def g46_11 (k0 : V4 → Option R) (x0 x1 : V4) : Option R :=
k0 x1
theorem t46_11 (x0 x1) : exec cl N c46_11 (e184 x0 x1) K = (g46_11 (fun y0 => K .normal [(4, .loc U5 .no y0)]) x0 x1) := by
 kernel_rfl
def g46_12b (N : Nat) (S49 : Int → Option V6) (S78 : V4 → V4 → Option V6) (k0 : V4 → Option R) (x0 x1 : Int) : Option R :=
(g46_12 S49 (g46_2 (g46_9 N S78 ((g46_11 k0)))) x0 x1)
theorem t46_12b (S49) (S78) (h49 : (ctr49 S49).holds cl) (h78 : (ctr78 S78).holds cl) (x0 x1) : exec cl N c46_12 (e83 x0 x1) K = (g46_12b N S49 S78 (fun y0 => K .ret [(4, .loc U5 .no y0)]) x0 x1) := by
 simp only [exec_seq, seqK_normal, seqK_exit, seqK_ret, t46_12 S49 h49, t46_2, c46_10, exec_out, exec_block, t46_9 S78 h78, blockK_normal, blockK_ret, blockK_eq, kp46_3, t46_11, exec_ret]
 rfl
theorem rk46_0 (y0) : retK d46 .ret [(4, .loc U5 .no y0)] = some [.v U5 y0] := by kernel_rfl
def g46 (N : Nat) (S49 : Int → Option V6) (S78 : V4 → V4 → Option V6) (x0 x1 : Int) (k : V4 → Option R) : Option R :=
(g46_12b N S49 S78 k x0 x1)
theorem gen46 (S49) (S78) (h49 : (ctr49 S49).holds cl) (h78 : (ctr78 S78).holds cl) (x0 x1) (k : List E → Option R) : exec cl N c46 (e83 x0 x1) (fun e env => (retK d46 e env).bind k) = g46 N S49 S78 x0 x1 (fun r0 => k [.v U5 r0]) := by
 simp only [c46, t46_12b S49 S78 h49 h78, rk46_0, Option.bind_some]
 rfl
def ctr46 (S : Int → Int → Option V6) : Ctr := cv2 46 U1 U1 S fun b => [.v U5 b]
def S46 (N : Nat) (x0 : Int) (x1 : Int) : Option V6 := g46 N (S49 N) (S78 N) x0 x1 (fun (r0 : V4) => some (r0))
def g45_2 (S46 : Int → Int → Option V6) (S64 : Int → Int → Option V6) (S78 : V4 → V4 → Option V6) (k0 : V4 → Option R) (x0 x1 x2 x3 : Int) : Option R :=
(S64 x0 x1).bind fun r909 =>
(S46 x2 x1).bind fun r910 =>
(S46 (IntKind.i64.wrap (x3 - x2)) (IntKind.i64.wrap (x0 - x1))).bind fun r913 =>
(S78 r910 r913).bind fun r914 =>
(S78 r909 r914).bind fun r915 =>
k0 r915
theorem t45_2 (S46) (S64) (S78) (h46 : (ctr46 S46).holds cl) (h64 : (ctr64 S64).holds cl) (h78 : (ctr78 S78).holds cl) (x0 x1 x2 x3) : exec cl N c45_2 (e185 x0 x1 x2 x3) K = (g45_2 S46 S64 S78 (fun y0 => exec cl N .ret [(8, .loc U5 .no y0)] K) x0 x1 x2 x3) := by
 rw [← put_eq h46]
 rw [← put_eq h64]
 rw [← put_eq h78]
 kernel_rfl
def g45_2b (S46 : Int → Int → Option V6) (S64 : Int → Int → Option V6) (S78 : V4 → V4 → Option V6) (k0 : V4 → Option R) (x0 x1 x2 x3 : Int) : Option R :=
(g45_2 S46 S64 S78 k0 x0 x1 x2 x3)
theorem t45_2b (S46) (S64) (S78) (h46 : (ctr46 S46).holds cl) (h64 : (ctr64 S64).holds cl) (h78 : (ctr78 S78).holds cl) (x0 x1 x2 x3) : exec cl N c45_2 (e185 x0 x1 x2 x3) K = (g45_2b S46 S64 S78 (fun y0 => K .ret [(8, .loc U5 .no y0)]) x0 x1 x2 x3) := by
 simp only [exec_seq, seqK_normal, seqK_exit, seqK_ret, t45_2 S46 S64 S78 h46 h64 h78, exec_ret]
 rfl
theorem rk45_0 (y0) : retK d45 .ret [(8, .loc U5 .no y0)] = some [.v U5 y0] := by kernel_rfl
def g45 (S46 : Int → Int → Option V6) (S64 : Int → Int → Option V6) (S78 : V4 → V4 → Option V6) (x0 x1 x2 x3 : Int) (k : V4 → Option R) : Option R :=
(g45_2b S46 S64 S78 k x0 x1 x2 x3)
theorem gen45 (S46) (S64) (S78) (h46 : (ctr46 S46).holds cl) (h64 : (ctr64 S64).holds cl) (h78 : (ctr78 S78).holds cl) (x0 x1 x2 x3) (k : List E → Option R) : exec cl N c45 (e185 x0 x1 x2 x3) (fun e env => (retK d45 e env).bind k) = g45 S46 S64 S78 x0 x1 x2 x3 (fun r0 => k [.v U5 r0]) := by
 simp only [c45, t45_2b S46 S64 S78 h46 h64 h78, rk45_0, Option.bind_some]
 rfl
def ctr45 (S : Int → Int → Int → Int → Option V6) : Ctr := cv4 45 U1 U1 U1 U1 S fun b => [.v U5 b]
def S45 (N : Nat) (x0 : Int) (x1 : Int) (x2 : Int) (x3 : Int) : Option V6 := g45 (S46 N) (S64 N) (S78 N) x0 x1 x2 x3 (fun (r0 : V4) => some (r0))
def g102_0 (k0 : V4 → V4 → V4 → V4 → Option R) (x0 x1 : V4) : Option R :=
k0 x0 x1 ([], ()) ([], ())
theorem t102_0 (x0 x1) : exec cl N c102_0 (e41 x0 x1) K = (g102_0 (fun y0 y1 y2 y3 => K .normal (e75 y0 y1 y2 y3)) x0 x1) := by
 kernel_rfl
def g102_1 (S75 : V4 → Option (Bool)) (k0 : V4 → V4 → V4 → V4 → Bool → Option R) (x0 x1 x2 x3 : V4) : Option R :=
(S75 x0).bind fun r932 =>
brB (!r932) (k0 x0 x1 x2 x3 true) ((S75 x1).bind fun r933 =>
k0 x0 x1 x2 x3 (!r933))
theorem t102_1 (S75) (h75 : (ctr75 S75).holds cl) (x0 x1 x2 x3) : exec cl N c102_1 (e75 x0 x1 x2 x3) K = (g102_1 S75 (fun y0 y1 y2 y3 y4 => K .normal (e186 y0 y1 y2 y3 y4)) x0 x1 x2 x3) := by
 rw [← put_eq h75]
 kernel_rfl
def g102_2 (k0 : V4 → V4 → Int → Option R) (x0 x1 x2 x3 : V4) (x4 : Bool) : Option R :=
k0 ([], ()) ([], ()) (1 : Int)
theorem t102_2 (x0 x1 x2 x3 x4) : exec cl N c102_2 (e186 x0 x1 x2 x3 x4) K = (g102_2 (fun y0 y1 y2 => K .normal (e77 y0 y1 y2)) x0 x1 x2 x3 x4) := by
 kernel_rfl
theorem kp102_0 (x0 x1 x2) : keep [2, 3, 4, 5, 6] (e77 x0 x1 x2) = (e78 x0 x1 x2) := by kernel_rfl
def g102_3 (k0 : V4 → V4 → V4 → V4 → Bool → Option R) (x0 x1 x2 x3 : V4) (x4 : Bool) : Option R :=
k0 x0 x1 x2 x3 ((x1.1.length : Int) == (0 : Int))
theorem t102_3 (x0 x1 x2 x3 x4) : exec cl N c102_3 (e186 x0 x1 x2 x3 x4) K = (g102_3 (fun y0 y1 y2 y3 y4 => K .normal (e187 y0 y1 y2 y3 y4)) x0 x1 x2 x3 x4) := by
 kernel_rfl
def g102_4 (k0 : V4 → V4 → Int → Option R) (x0 x1 x2 x3 : V4) (x4 : Bool) : Option R :=
k0 ([], ()) ([], ()) (6 : Int)
theorem t102_4 (x0 x1 x2 x3 x4) : exec cl N c102_4 (e187 x0 x1 x2 x3 x4) K = (g102_4 (fun y0 y1 y2 => K .normal (e77 y0 y1 y2)) x0 x1 x2 x3 x4) := by
 kernel_rfl
theorem kp102_1 (x0 x1 x2 x3 x4) : keep [2, 3, 4, 5, 6] (e187 x0 x1 x2 x3 x4) = (e79 x0 x1 x2 x3) := by kernel_rfl
theorem hb102_0 (x0 x1 x2 x3 x4) : boolOf? (ent (e187 x0 x1 x2 x3 x4) (.t 20)) = some x4 := by kernel_rfl
theorem kp102_2 (x0 x1 x2) : keep [2, 3, 4, 5, 6] (e78 x0 x1 x2) = (e78 x0 x1 x2) := by kernel_rfl
theorem kp102_3 (x0 x1 x2 x3) : keep [2, 3, 4, 5, 6] (e79 x0 x1 x2 x3) = (e79 x0 x1 x2 x3) := by kernel_rfl
theorem hb102_1 (x0 x1 x2 x3 x4) : boolOf? (ent (e186 x0 x1 x2 x3 x4) (.t 9)) = some x4 := by kernel_rfl
def g102_10 (S105 : V0 → Option V6) (S115 : V0 → V0 → Option V7) (k0 : V4 → V4 → Int → Option R) (x0 x1 x2 x3 : V4) : Option R :=
(S115 x0.1 x1.1).bind fun r936 =>
(S105 r936.1).bind fun r937 =>
(S105 r936.2).bind fun r938 =>
k0 r937 r938 (0 : Int)
theorem t102_10 (S105) (S115) (h105 : (ctr105 S105).holds cl) (h115 : (ctr115 S115).holds cl) (x0 x1 x2 x3) : exec cl N c102_10 (e79 x0 x1 x2 x3) K = (g102_10 S105 S115 (fun y0 y1 y2 => exec cl N .ret (e81 y0 y1 y2) K) x0 x1 x2 x3) := by
 rw [← put_eq h105]
 rw [← put_eq h115]
 kernel_rfl
def g102_11 (S75 : V4 → Option (Bool)) (S105 : V0 → Option V6) (S115 : V0 → V0 → Option V7) (k0 : V4 → V4 → Int → Option R) (k1 : V4 → V4 → Int → Option R) (x0 x1 : V4) : Option R :=
(g102_0 (g102_1 S75 (fun y0 y1 y2 y3 y4 => brB y4 (g102_2 k0 y0 y1 y2 y3 y4) (g102_3 (fun y0 y1 y2 y3 y4 => brB y4 (g102_4 k0 y0 y1 y2 y3 y4) ((((g102_10 S105 S115 k1))) y0 y1 y2 y3)) y0 y1 y2 y3 y4))) x0 x1)
theorem t102_11 (S75) (S105) (S115) (h75 : (ctr75 S75).holds cl) (h105 : (ctr105 S105).holds cl) (h115 : (ctr115 S115).holds cl) (x0 x1) : exec cl N c102_11 (e41 x0 x1) K = (g102_11 S75 S105 S115 (fun y0 y1 y2 => K .ret (e78 y0 y1 y2)) (fun y0 y1 y2 => K .ret (e81 y0 y1 y2)) x0 x1) := by
 simp only [c102_11, exec_seq, seqK_normal, seqK_exit, seqK_ret, t102_0, c102_7, exec_out, exec_block, t102_1 S75 h75, c102_6, exec_cond', hb102_1, Option.bind_some, brB_true, brB_false, t102_2, exec_ret, t102_3, c102_5, hb102_0, t102_4, exec_skip, kp102_0, kp102_1, kp102_2, kp102_3, blockK_normal, blockK_ret, blockK_eq, t102_10 S105 S115 h105 h115]
 rfl
theorem rk102_0 (y0 y1 y2) : retK d102 .ret (e78 y0 y1 y2) = some [.v U5 y0, .v U5 y1, .v U1 y2] := by kernel_rfl
theorem rk102_1 (y0 y1 y2) : retK d102 .ret (e81 y0 y1 y2) = some [.v U5 y0, .v U5 y1, .v U1 y2] := by kernel_rfl
def g102 (S75 : V4 → Option (Bool)) (S105 : V0 → Option V6) (S115 : V0 → V0 → Option V7) (x0 x1 : V4) (k : V4 → V4 → Int → Option R) : Option R :=
(g102_11 S75 S105 S115 k k x0 x1)
theorem gen102 (S75) (S105) (S115) (h75 : (ctr75 S75).holds cl) (h105 : (ctr105 S105).holds cl) (h115 : (ctr115 S115).holds cl) (x0 x1) (k : List E → Option R) : exec cl N c102 (e41 x0 x1) (fun e env => (retK d102 e env).bind k) = g102 S75 S105 S115 x0 x1 (fun r0 r1 r2 => k [.v U5 r0, .v U5 r1, .v U1 r2]) := by
 simp only [c102, t102_11 S75 S105 S115 h75 h105 h115, rk102_0, rk102_1, Option.bind_some]
 rfl
def ctr102 (S : V4 → V4 → Option V13) : Ctr := cv2 102 U5 U5 S fun b => [.v U5 b.1, .v U5 b.2.1, .v U1 b.2.2]
def S102 (N : Nat) (x0 : V4) (x1 : V4) : Option V13 := g102 (S75 N) (S105 N) (S115 N) x0 x1 (fun (r0 : V4) (r1 : V4) (r2 : Int) => some (r0, r1, r2))
def g77_5 (S76 : V4 → Option (Bool)) (S101 : V4 → V4 → Option V8) (S102 : V4 → V4 → Option V13) (k0 : V15 → Option R) (x0 : Bool) (x1 x2 : V4) : Option R :=
(S101 x1 x2).bind fun r955 =>
(S102 x1 r955.1).bind fun r956 =>
(S102 x2 r955.1).bind fun r957 =>
brB x0 ((S76 r956.1).bind fun r958 =>
k0 ((!r958), r956.1, r957.1, ())) (k0 (false, r956.1, r957.1, ()))
theorem t77_5 (S76) (S101) (S102) (h76 : (ctr76 S76).holds cl) (h101 : (ctr101 S101).holds cl) (h102 : (ctr102 S102).holds cl) (x0 x1 x2) : exec cl N c77_5 (e82 x0 x1 x2) K = (g77_5 S76 S101 S102 (fun y0 => exec cl N .ret [(6, .loc U12 .no y0)] K) x0 x1 x2) := by
 rw [← put_eq h76]
 rw [← put_eq h101]
 rw [← put_eq h102]
 kernel_rfl
def g77_5b (S76 : V4 → Option (Bool)) (S101 : V4 → V4 → Option V8) (S102 : V4 → V4 → Option V13) (k0 : V15 → Option R) (x0 : Bool) (x1 x2 : V4) : Option R :=
(g77_5 S76 S101 S102 k0 x0 x1 x2)
theorem t77_5b (S76) (S101) (S102) (h76 : (ctr76 S76).holds cl) (h101 : (ctr101 S101).holds cl) (h102 : (ctr102 S102).holds cl) (x0 x1 x2) : exec cl N c77_5 (e82 x0 x1 x2) K = (g77_5b S76 S101 S102 (fun y0 => K .ret [(6, .loc U12 .no y0)]) x0 x1 x2) := by
 simp only [exec_seq, seqK_normal, seqK_exit, seqK_ret, t77_5 S76 S101 S102 h76 h101 h102, exec_ret]
 rfl
theorem rk77_0 (y0) : retK d77 .ret [(6, .loc U12 .no y0)] = some [.v U12 y0] := by kernel_rfl
def g77 (S76 : V4 → Option (Bool)) (S101 : V4 → V4 → Option V8) (S102 : V4 → V4 → Option V13) (x0 : Bool) (x1 x2 : V4) (k : V15 → Option R) : Option R :=
(g77_5b S76 S101 S102 k x0 x1 x2)
theorem gen77 (S76) (S101) (S102) (h76 : (ctr76 S76).holds cl) (h101 : (ctr101 S101).holds cl) (h102 : (ctr102 S102).holds cl) (x0 x1 x2) (k : List E → Option R) : exec cl N c77 (e82 x0 x1 x2) (fun e env => (retK d77 e env).bind k) = g77 S76 S101 S102 x0 x1 x2 (fun r0 => k [.v U12 r0]) := by
 simp only [c77, t77_5b S76 S101 S102 h76 h101 h102, rk77_0, Option.bind_some]
 rfl
def ctr77 (S : Bool → V4 → V4 → Option V16) : Ctr := cv3 77 .bool U5 U5 S fun b => [.v U12 b]
def S77 (N : Nat) (x0 : Bool) (x1 : V4) (x2 : V4) : Option V16 := g77 (S76 N) (S101 N) (S102 N) x0 x1 x2 (fun (r0 : V15) => some (r0))
def g44_0 (k0 : V4 → V4 → V15 → Option R) (x0 x1 : V4) : Option R :=
k0 x0 x1 (false, (([], ()), (([], ()), ())))
theorem t44_0 (x0 x1) : exec cl N c44_0 (e41 x0 x1) K = (g44_0 (fun y0 y1 y2 => K .normal (e188 y0 y1 y2)) x0 x1) := by
 kernel_rfl
def g44_1 (S75 : V4 → Option (Bool)) (k0 : V4 → V4 → V15 → Bool → Option R) (x0 x1 : V4) (x2 : V15) : Option R :=
(S75 x0).bind fun r962 =>
brB (!r962) (k0 x0 x1 x2 true) ((S75 x1).bind fun r963 =>
k0 x0 x1 x2 (!r963))
theorem t44_1 (S75) (h75 : (ctr75 S75).holds cl) (x0 x1 x2) : exec cl N c44_1 (e188 x0 x1 x2) K = (g44_1 S75 (fun y0 y1 y2 y3 => K .normal (e189 y0 y1 y2 y3)) x0 x1 x2) := by
 rw [← put_eq h75]
 kernel_rfl
def g44_2 (k0 : V15 → Int → Option R) (x0 x1 : V4) (x2 : V15) (x3 : Bool) : Option R :=
k0 (false, ([], ()), ([], ()), ()) (1 : Int)
theorem t44_2 (x0 x1 x2 x3) : exec cl N c44_2 (e189 x0 x1 x2 x3) K = (g44_2 (fun y0 y1 => K .normal (e86 y0 y1)) x0 x1 x2 x3) := by
 kernel_rfl
theorem kp44_0 (x0 x1) : keep [2, 3, 4, 5] (e86 x0 x1) = (e110 x0 x1) := by kernel_rfl
theorem kp44_1 (x0 x1 x2 x3) : keep [2, 3, 4, 5] (e189 x0 x1 x2 x3) = (e190 x0 x1 x2) := by kernel_rfl
theorem hb44_0 (x0 x1 x2 x3) : boolOf? (ent (e189 x0 x1 x2 x3) (.t 13)) = some x3 := by kernel_rfl
def g44_4 (S76 : V4 → Option (Bool)) (k0 : V4 → V4 → V15 → Bool → Option R) (x0 x1 : V4) (x2 : V15) : Option R :=
(S76 x1).bind fun r965 =>
k0 x0 x1 x2 r965
theorem t44_4 (S76) (h76 : (ctr76 S76).holds cl) (x0 x1 x2) : exec cl N c44_4 (e190 x0 x1 x2) K = (g44_4 S76 (fun y0 y1 y2 y3 => K .normal (e191 y0 y1 y2 y3)) x0 x1 x2) := by
 rw [← put_eq h76]
 kernel_rfl
def g44_5 (k0 : V15 → Int → Option R) (x0 x1 : V4) (x2 : V15) (x3 : Bool) : Option R :=
k0 (false, ([], ()), ([], ()), ()) (6 : Int)
theorem t44_5 (x0 x1 x2 x3) : exec cl N c44_5 (e191 x0 x1 x2 x3) K = (g44_5 (fun y0 y1 => K .normal (e86 y0 y1)) x0 x1 x2 x3) := by
 kernel_rfl
theorem kp44_2 (x0 x1 x2 x3) : keep [2, 3, 4, 5] (e191 x0 x1 x2 x3) = (e190 x0 x1 x2) := by kernel_rfl
theorem hb44_1 (x0 x1 x2 x3) : boolOf? (ent (e191 x0 x1 x2 x3) (.t 16)) = some x3 := by kernel_rfl
def g44_7 (S77 : Bool → V4 → V4 → Option V16) (k0 : V15 → Int → Option R) (x0 x1 : V4) (x2 : V15) : Option R :=
(S77 false x0 x1).bind fun r967 =>
k0 r967 (0 : Int)
theorem t44_7 (S77) (h77 : (ctr77 S77).holds cl) (x0 x1 x2) : exec cl N c44_7 (e190 x0 x1 x2) K = (g44_7 S77 (fun y0 y1 => K .normal (e86 y0 y1)) x0 x1 x2) := by
 rw [← put_eq h77]
 kernel_rfl
def g44_8 (S75 : V4 → Option (Bool)) (S76 : V4 → Option (Bool)) (S77 : Bool → V4 → V4 → Option V16) (k0 : V15 → Int → Option R) (k1 : V15 → Int → Option R) (x0 x1 : V4) : Option R :=
(g44_0 (g44_1 S75 (fun y0 y1 y2 y3 => brB y3 (g44_2 k0 y0 y1 y2 y3) ((g44_4 S76 (fun y0 y1 y2 y3 => brB y3 (g44_5 k0 y0 y1 y2 y3) ((g44_7 S77 k1) y0 y1 y2))) y0 y1 y2))) x0 x1)
theorem t44_8 (S75) (S76) (S77) (h75 : (ctr75 S75).holds cl) (h76 : (ctr76 S76).holds cl) (h77 : (ctr77 S77).holds cl) (x0 x1) : exec cl N c44_8 (e41 x0 x1) K = (g44_8 S75 S76 S77 (fun y0 y1 => K .ret (e110 y0 y1)) (fun y0 y1 => K .ret (e86 y0 y1)) x0 x1) := by
 simp only [c44_8, exec_seq, seqK_normal, seqK_exit, seqK_ret, t44_0, t44_1 S75 h75, c44_3, exec_out, exec_cond', hb44_0, Option.bind_some, brB_true, brB_false, t44_2, exec_ret, exec_skip, kp44_0, kp44_1, t44_4 S76 h76, c44_6, hb44_1, t44_5, kp44_2, t44_7 S77 h77]
 rfl
theorem rk44_0 (y0 y1) : retK d44 .ret (e110 y0 y1) = some [.v U12 y0, .v U1 y1] := by kernel_rfl
theorem rk44_1 (y0 y1) : retK d44 .ret (e86 y0 y1) = some [.v U12 y0, .v U1 y1] := by kernel_rfl
def g44 (S75 : V4 → Option (Bool)) (S76 : V4 → Option (Bool)) (S77 : Bool → V4 → V4 → Option V16) (x0 x1 : V4) (k : V15 → Int → Option R) : Option R :=
(g44_8 S75 S76 S77 k k x0 x1)
theorem gen44 (S75) (S76) (S77) (h75 : (ctr75 S75).holds cl) (h76 : (ctr76 S76).holds cl) (h77 : (ctr77 S77).holds cl) (x0 x1) (k : List E → Option R) : exec cl N c44 (e41 x0 x1) (fun e env => (retK d44 e env).bind k) = g44 S75 S76 S77 x0 x1 (fun r0 r1 => k [.v U12 r0, .v U1 r1]) := by
 simp only [c44, t44_8 S75 S76 S77 h75 h76 h77, rk44_0, rk44_1, Option.bind_some]
 rfl
def ctr44 (S : V4 → V4 → Option V17) : Ctr := cv2 44 U5 U5 S fun b => [.v U12 b.1, .v U1 b.2]
def S44 (N : Nat) (x0 : V4) (x1 : V4) : Option V17 := g44 (S75 N) (S76 N) (S77 N) x0 x1 (fun (r0 : V15) (r1 : Int) => some (r0, r1))
def g17_6 (S43 : Int → Int → Int → Int → V15 → Option V3) (k0 : Int → Int → V15 → Int → Int → Int → Option R) (x0 x1 : Int) (x2 : V15) : Option R :=
(S43 x0 x1 (200 : Int) x0 x2).bind fun r969 =>
k0 x0 x1 (false, (([], ()), (([], ()), ()))) r969.1 r969.2.1 r969.2.2
theorem t17_6 (S43) (h43 : (ctr43 S43).holds cl) (x0 x1 x2) : exec cl N c17_6 (e192 x0 x1 x2) K = (g17_6 S43 (fun y0 y1 y2 y3 y4 y5 => exec cl N (.seq (.seq c17_2 c17_4) (.seq c17_5 .ret)) (e193 y0 y1 y2 y3 y4 y5) K) x0 x1 x2) := by
 rw [← put_eq h43]
 kernel_rfl
def g17_2 (k0 : Int → Int → V15 → Int → Int → Int → Bool → Option R) (x0 x1 : Int) (x2 : V15) (x3 x4 x5 : Int) : Option R :=
k0 x0 x1 x2 x3 x4 x5 (x5 != (0 : Int))
theorem t17_2 (x0 x1 x2 x3 x4 x5) : exec cl N c17_2 (e193 x0 x1 x2 x3 x4 x5) K = (g17_2 (fun y0 y1 y2 y3 y4 y5 y6 => K .normal (e194 y0 y1 y2 y3 y4 y5 y6)) x0 x1 x2 x3 x4 x5) := by
 kernel_rfl
def g17_3 (k0 : V15 → Int → Option R) (x0 x1 : Int) (x2 : V15) (x3 x4 x5 : Int) (x6 : Bool) : Option R :=
k0 (false, ([], ()), ([], ()), ()) x5
theorem t17_3 (x0 x1 x2 x3 x4 x5 x6) : exec cl N c17_3 (e194 x0 x1 x2 x3 x4 x5 x6) K = (g17_3 (fun y0 y1 => K .normal (e195 y0 y1)) x0 x1 x2 x3 x4 x5 x6) := by
 kernel_rfl
theorem kp17_0 (x0 x1) : keep [0, 1, 6, 7, 8, 9] (e195 x0 x1) = (e196 x0 x1) := by kernel_rfl
theorem kp17_1 (x0 x1 x2 x3 x4 x5 x6) : keep [0, 1, 6, 7, 8, 9] (e194 x0 x1 x2 x3 x4 x5 x6) = (e197 x0 x1 x2 x3 x4) := by kernel_rfl
theorem hb17_0 (x0 x1 x2 x3 x4 x5 x6) : boolOf? (ent (e194 x0 x1 x2 x3 x4 x5 x6) (.t 21)) = some x6 := by kernel_rfl
def g17_5 (S44 : V4 → V4 → Option V17) (S45 : Int → Int → Int → Int → Option V6) (S46 : Int → Int → Option V6) (k0 : V15 → Int → Option R) (x0 x1 : Int) (x2 : V15) (x3 x4 : Int) : Option R :=
(S45 x0 x1 x3 x4).bind fun r972 =>
(S46 x4 x0).bind fun r973 =>
(S44 r972 r973).bind fun r974 =>
k0 r974.1 r974.2
theorem t17_5 (S44) (S45) (S46) (h44 : (ctr44 S44).holds cl) (h45 : (ctr45 S45).holds cl) (h46 : (ctr46 S46).holds cl) (x0 x1 x2 x3 x4) : exec cl N c17_5 (e197 x0 x1 x2 x3 x4) K = (g17_5 S44 S45 S46 (fun y0 y1 => K .normal (e195 y0 y1)) x0 x1 x2 x3 x4) := by
 rw [← put_eq h44]
 rw [← put_eq h45]
 rw [← put_eq h46]
 kernel_rfl
def g17_6b (S43 : Int → Int → Int → Int → V15 → Option V3) (S44 : V4 → V4 → Option V17) (S45 : Int → Int → Int → Int → Option V6) (S46 : Int → Int → Option V6) (k0 : V15 → Int → Option R) (k1 : V15 → Int → Option R) (x0 x1 : Int) (x2 : V15) : Option R :=
(g17_6 S43 (g17_2 (fun y0 y1 y2 y3 y4 y5 y6 => brB y6 (g17_3 k0 y0 y1 y2 y3 y4 y5 y6) ((g17_5 S44 S45 S46 k1) y0 y1 y2 y3 y4))) x0 x1 x2)
theorem t17_6b (S43) (S44) (S45) (S46) (h43 : (ctr43 S43).holds cl) (h44 : (ctr44 S44).holds cl) (h45 : (ctr45 S45).holds cl) (h46 : (ctr46 S46).holds cl) (x0 x1 x2) : exec cl N c17_6 (e192 x0 x1 x2) K = (g17_6b S43 S44 S45 S46 (fun y0 y1 => K .ret (e196 y0 y1)) (fun y0 y1 => K .ret (e195 y0 y1)) x0 x1 x2) := by
 simp only [exec_seq, seqK_normal, seqK_exit, seqK_ret, t17_6 S43 h43, t17_2, c17_4, exec_out, exec_cond', hb17_0, Option.bind_some, brB_true, brB_false, t17_3, exec_ret, exec_skip, kp17_0, kp17_1, t17_5 S44 S45 S46 h44 h45 h46]
 rfl
theorem rk17_0 (y0 y1) : retK d17 .ret (e196 y0 y1) = some [.v U12 y0, .v U1 y1] := by kernel_rfl
theorem rk17_1 (y0 y1) : retK d17 .ret (e195 y0 y1) = some [.v U12 y0, .v U1 y1] := by kernel_rfl
def g17 (S43 : Int → Int → Int → Int → V15 → Option V3) (S44 : V4 → V4 → Option V17) (S45 : Int → Int → Int → Int → Option V6) (S46 : Int → Int → Option V6) (x0 x1 : Int) (x2 : V15) (k : V15 → Int → Option R) : Option R :=
(g17_6b S43 S44 S45 S46 k k x0 x1 x2)
theorem gen17 (S43) (S44) (S45) (S46) (h43 : (ctr43 S43).holds cl) (h44 : (ctr44 S44).holds cl) (h45 : (ctr45 S45).holds cl) (h46 : (ctr46 S46).holds cl) (x0 x1 x2) (k : List E → Option R) : exec cl N c17 (e192 x0 x1 x2) (fun e env => (retK d17 e env).bind k) = g17 S43 S44 S45 S46 x0 x1 x2 (fun r0 r1 => k [.v U12 r0, .v U1 r1]) := by
 simp only [c17, t17_6b S43 S44 S45 S46 h43 h44 h45 h46, rk17_0, rk17_1, Option.bind_some]
 rfl
def ctr17 (S : Int → Int → V15 → Option V17) : Ctr := cv3 17 U1 U1 U12 S fun b => [.v U12 b.1, .v U1 b.2]
def S17 (N : Nat) (x0 : Int) (x1 : Int) (x2 : V15) : Option V17 := g17 (S43 N) (S44 N) (S45 N) (S46 N) x0 x1 x2 (fun (r0 : V15) (r1 : Int) => some (r0, r1))
def g25_0 (k0 : V15 → V15 → V15 → Option R) (x0 x1 : V15) : Option R :=
k0 x0 x1 (false, (([], ()), (([], ()), ())))
theorem t25_0 (x0 x1) : exec cl N c25_0 (e107 x0 x1) K = (g25_0 (fun y0 y1 y2 => K .normal (e108 y0 y1 y2)) x0 x1) := by
 kernel_rfl
def g25_1 (S54 : V15 → Option (Bool)) (k0 : V15 → V15 → V15 → Bool → Option R) (x0 x1 x2 : V15) : Option R :=
(S54 x0).bind fun r1020 =>
brB (!r1020) (k0 x0 x1 x2 true) ((S54 x1).bind fun r1021 =>
k0 x0 x1 x2 (!r1021))
theorem t25_1 (S54) (h54 : (ctr54 S54).holds cl) (x0 x1 x2) : exec cl N c25_1 (e108 x0 x1 x2) K = (g25_1 S54 (fun y0 y1 y2 y3 => K .normal (e198 y0 y1 y2 y3)) x0 x1 x2) := by
 rw [← put_eq h54]
 kernel_rfl
def g25_2 (k0 : V15 → Int → Option R) (x0 x1 x2 : V15) (x3 : Bool) : Option R :=
k0 (false, ([], ()), ([], ()), ()) (1 : Int)
theorem t25_2 (x0 x1 x2 x3) : exec cl N c25_2 (e198 x0 x1 x2 x3) K = (g25_2 (fun y0 y1 => K .normal (e86 y0 y1)) x0 x1 x2 x3) := by
 kernel_rfl
theorem kp25_0 (x0 x1) : keep [2, 3, 4, 5] (e86 x0 x1) = (e110 x0 x1) := by kernel_rfl
theorem kp25_1 (x0 x1 x2 x3) : keep [2, 3, 4, 5] (e198 x0 x1 x2 x3) = (e111 x0 x1 x2) := by kernel_rfl
theorem hb25_0 (x0 x1 x2 x3) : boolOf? (ent (e198 x0 x1 x2 x3) (.t 16)) = some x3 := by kernel_rfl
def g25_4 (S57 : V4 → V4 → V4 → V4 → Option V13) (k0 : V15 → V15 → V15 → V4 → V4 → Int → Option R) (x0 x1 x2 : V15) : Option R :=
(S57 x0.2.1 x1.2.1 x0.2.2.1 x1.2.2.1).bind fun r1023 =>
k0 x0 x1 x2 r1023.1 r1023.2.1 r1023.2.2
theorem t25_4 (S57) (h57 : (ctr57 S57).holds cl) (x0 x1 x2) : exec cl N c25_4 (e111 x0 x1 x2) K = (g25_4 S57 (fun y0 y1 y2 y3 y4 y5 => K .normal (e112 y0 y1 y2 y3 y4 y5)) x0 x1 x2) := by
 rw [← put_eq h57]
 kernel_rfl
def g25_5 (k0 : V15 → V15 → V15 → V4 → V4 → Int → Bool → Option R) (x0 x1 x2 : V15) (x3 x4 : V4) (x5 : Int) : Option R :=
k0 x0 x1 x2 x3 x4 x5 (x5 != (0 : Int))
theorem t25_5 (x0 x1 x2 x3 x4 x5) : exec cl N c25_5 (e112 x0 x1 x2 x3 x4 x5) K = (g25_5 (fun y0 y1 y2 y3 y4 y5 y6 => K .normal (e199 y0 y1 y2 y3 y4 y5 y6)) x0 x1 x2 x3 x4 x5) := by
 kernel_rfl
def g25_6 (k0 : V15 → Int → Option R) (x0 x1 x2 : V15) (x3 x4 : V4) (x5 : Int) (x6 : Bool) : Option R :=
k0 (false, ([], ()), ([], ()), ()) x5
theorem t25_6 (x0 x1 x2 x3 x4 x5 x6) : exec cl N c25_6 (e199 x0 x1 x2 x3 x4 x5 x6) K = (g25_6 (fun y0 y1 => K .normal (e86 y0 y1)) x0 x1 x2 x3 x4 x5 x6) := by
 kernel_rfl
theorem kp25_2 (x0 x1) : keep [2, 3, 4, 5, 6, 7] (e86 x0 x1) = (e114 x0 x1) := by kernel_rfl
theorem kp25_3 (x0 x1 x2 x3 x4 x5 x6) : keep [2, 3, 4, 5, 6, 7] (e199 x0 x1 x2 x3 x4 x5 x6) = (e115 x0 x1 x2 x3 x4) := by kernel_rfl
theorem hb25_1 (x0 x1 x2 x3 x4 x5 x6) : boolOf? (ent (e199 x0 x1 x2 x3 x4 x5 x6) (.t 32)) = some x6 := by kernel_rfl
def g25_8 (S52 : Bool → V4 → V4 → Option V16) (k0 : V15 → Int → Option R) (x0 x1 x2 : V15) (x3 x4 : V4) : Option R :=
(S52 (!(x0.1 == x1.1)) x3 x4).bind fun r1027 =>
k0 r1027 (0 : Int)
theorem t25_8 (S52) (h52 : (ctr52 S52).holds cl) (x0 x1 x2 x3 x4) : exec cl N c25_8 (e115 x0 x1 x2 x3 x4) K = (g25_8 S52 (fun y0 y1 => K .normal (e86 y0 y1)) x0 x1 x2 x3 x4) := by
 rw [← put_eq h52]
 kernel_rfl
def g25_9 (S52 : Bool → V4 → V4 → Option V16) (S54 : V15 → Option (Bool)) (S57 : V4 → V4 → V4 → V4 → Option V13) (k0 : V15 → Int → Option R) (k1 : V15 → Int → Option R) (k2 : V15 → Int → Option R) (x0 x1 : V15) : Option R :=
(g25_0 (g25_1 S54 (fun y0 y1 y2 y3 => brB y3 (g25_2 k0 y0 y1 y2 y3) ((g25_4 S57 (g25_5 (fun y0 y1 y2 y3 y4 y5 y6 => brB y6 (g25_6 k1 y0 y1 y2 y3 y4 y5 y6) ((g25_8 S52 k2) y0 y1 y2 y3 y4)))) y0 y1 y2))) x0 x1)
theorem t25_9 (S52) (S54) (S57) (h52 : (ctr52 S52).holds cl) (h54 : (ctr54 S54).holds cl) (h57 : (ctr57 S57).holds cl) (x0 x1) : exec cl N c25_9 (e107 x0 x1) K = (g25_9 S52 S54 S57 (fun y0 y1 => K .ret (e110 y0 y1)) (fun y0 y1 => K .ret (e114 y0 y1)) (fun y0 y1 => K .ret (e86 y0 y1)) x0 x1) := by
 simp only [c25_9, exec_seq, seqK_normal, seqK_exit, seqK_ret, t25_0, t25_1 S54 h54, c25_3, exec_out, exec_cond', hb25_0, Option.bind_some, brB_true, brB_false, t25_2, exec_ret, exec_skip, kp25_0, kp25_1, t25_4 S57 h57, t25_5, c25_7, hb25_1, t25_6, kp25_2, kp25_3, t25_8 S52 h52]
 rfl
theorem rk25_0 (y0 y1) : retK d25 .ret (e110 y0 y1) = some [.v U12 y0, .v U1 y1] := by kernel_rfl
theorem rk25_1 (y0 y1) : retK d25 .ret (e114 y0 y1) = some [.v U12 y0, .v U1 y1] := by kernel_rfl
theorem rk25_2 (y0 y1) : retK d25 .ret (e86 y0 y1) = some [.v U12 y0, .v U1 y1] := by kernel_rfl
def g25 (S52 : Bool → V4 → V4 → Option V16) (S54 : V15 → Option (Bool)) (S57 : V4 → V4 → V4 → V4 → Option V13) (x0 x1 : V15) (k : V15 → Int → Option R) : Option R :=
(g25_9 S52 S54 S57 k k k x0 x1)
theorem gen25 (S52) (S54) (S57) (h52 : (ctr52 S52).holds cl) (h54 : (ctr54 S54).holds cl) (h57 : (ctr57 S57).holds cl) (x0 x1) (k : List E → Option R) : exec cl N c25 (e107 x0 x1) (fun e env => (retK d25 e env).bind k) = g25 S52 S54 S57 x0 x1 (fun r0 r1 => k [.v U12 r0, .v U1 r1]) := by
 simp only [c25, t25_9 S52 S54 S57 h52 h54 h57, rk25_0, rk25_1, rk25_2, Option.bind_some]
 rfl
def ctr25 (S : V15 → V15 → Option V17) : Ctr := cv2 25 U12 U12 S fun b => [.v U12 b.1, .v U1 b.2]
def S25 (N : Nat) (x0 : V15) (x1 : V15) : Option V17 := g25 (S52 N) (S54 N) (S57 N) x0 x1 (fun (r0 : V15) (r1 : Int) => some (r0, r1))
def g21_2 (S51 : V4 → V4 → Option (Bool)) (k0 : Bool → Option R) (x0 x1 : V15) : Option R :=
brB (x0.1 == x1.1) ((S51 x0.2.1 x1.2.1).bind fun r1086 =>
brB r1086 ((S51 x0.2.2.1 x1.2.2.1).bind fun r1087 =>
k0 r1087) (k0 false)) (k0 false)
theorem t21_2 (S51) (h51 : (ctr51 S51).holds cl) (x0 x1) : exec cl N c21_2 (e107 x0 x1) K = (g21_2 S51 (fun y0 => exec cl N .ret [(4, .v .bool y0)] K) x0 x1) := by
 rw [← put_eq h51]
 kernel_rfl
def g21_2b (S51 : V4 → V4 → Option (Bool)) (k0 : Bool → Option R) (x0 x1 : V15) : Option R :=
(g21_2 S51 k0 x0 x1)
theorem t21_2b (S51) (h51 : (ctr51 S51).holds cl) (x0 x1) : exec cl N c21_2 (e107 x0 x1) K = (g21_2b S51 (fun y0 => K .ret [(4, .v .bool y0)]) x0 x1) := by
 simp only [exec_seq, seqK_normal, seqK_exit, seqK_ret, t21_2 S51 h51, exec_ret]
 rfl
theorem rk21_0 (y0) : retK d21 .ret [(4, .v .bool y0)] = some [.v .bool y0] := by kernel_rfl
def g21 (S51 : V4 → V4 → Option (Bool)) (x0 x1 : V15) (k : Bool → Option R) : Option R :=
(g21_2b S51 k x0 x1)
theorem gen21 (S51) (h51 : (ctr51 S51).holds cl) (x0 x1) (k : List E → Option R) : exec cl N c21 (e107 x0 x1) (fun e env => (retK d21 e env).bind k) = g21 S51 x0 x1 (fun r0 => k [.v .bool r0]) := by
 simp only [c21, t21_2b S51 h51, rk21_0, Option.bind_some]
 rfl
def ctr21 (S : V15 → V15 → Option (Bool)) : Ctr := cv2 21 U12 U12 S fun b => [.v .bool b]
def S21 (N : Nat) (x0 : V15) (x1 : V15) : Option (Bool) := g21 (S51 N) x0 x1 (fun (r0 : Bool) => some (r0))
end Go.Fw.L51
