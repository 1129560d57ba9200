/- Probabilities made of two numbers; their opposites. -/
import Derived.Test.YtnobiophckdjfaaFwHs51l
set_option linter.unusedVariables false
set_option linter.unusedSimpArgs false
namespace Go.Fw.L51
open Go Go.Fw
set_option maxRecDepth 100000
set_option linter.unusedSimpArgs false
set_option linter.unusedVariables false
structure Pr (a d : Nat) : Prop where
 le : a ≤ d
 pos : 0 < d
 d3 : d ≤ 1000
 gcd : Nat.gcd a d = 1
theorem inR_u8 {n : Int} (h : InR (.int .u8) n) : 0 ≤ n ∧ n ≤ 255 := h
theorem v74 {a d : Nat} (h : Pr a d) : S74 2000 (fr a d) = some ((a : Int), (d : Int), 0) := by
 have h1 := h.le; have h2 := h.d3; have h3 := h.pos
 have la : (nd a).length ≤ 36 := (small36 (by omega)).len
 have ld : (nd d).length ≤ 36 := (small36 (by omega)).len
 have v1 := v97 false (nd a) (nd d) fun _ _ => ⟨la, ld⟩
 rw [validF_fr (small36 (by omega)) (small36 (by omega)) h3 h.gcd] at v1
 have c1 := v69 a d (by omega) (by omega)
 have t1 := v49 1000 (by omega)
 have tl : (nd 1000).length ≤ 1 := len_dig (by omega)
 have c3 := v69 d 1000 (by omega) (by omega)
 have i1 : ((1000 : Nat) : Int) = 1000 := rfl
 rw [i1] at t1
 have e : decide (cmpN a d > 0) = false := decide_eq_false fun h => by have := cmpN_gt.1 h; omega
 have e2 : decide (cmpN d 1000 > 0) = false := decide_eq_false fun h => by have := cmpN_gt.1 h; omega
 unfold S74 fr
 simp only [g74_0, g74_1, g74_2, g74_4, g74_5, g74_7, g74_8, g74, v1, c1, e, t1, c3, e2, v98 a (by omega), v98 d (by omega), Option.bind_some, Bool.not_true, brB_false]
theorem v43 {a d : Nat} (h : Pr a d) (n k M K : Nat) (hn : n ≤ M) (hk : k ≤ K) : S43 2000 (n : Int) (k : Int) (M : Int) (K : Int) (fr a d) = some ((a : Int), (d : Int), 0) := by
 have e1 : decide ((n : Int) < 0) = false := decide_eq_false (by omega)
 have e2 : decide ((n : Int) > (M : Int)) = false := decide_eq_false (by omega)
 have e3 : decide ((k : Int) < 0) = false := decide_eq_false (by omega)
 have e4 : decide ((k : Int) > (K : Int)) = false := decide_eq_false (by omega)
 unfold S43
 simp only [g43_9, g43_2, g43_3, g43_5, g43_6, g43_8, g43_9b, g43, v74 h, e1, e2, e3, e4, Option.bind_some, bne_self_eq_false, brB_false]
theorem Pr.chn {a d n : Nat} (h : Pr a d) (hn : n ≤ 40) : Chn n a d := Chn.mk40 h.le h.pos h.d3 hn
theorem lo_fr {a d : Nat} (h : Nat.gcd a d = 1) : lo a d = fr a d := by unfold lo; rw [low_self h]
theorem v22 (x y : Nat) (hx : x ≤ 255) : ∃ a d, Pr a d ∧ d ≤ 20 ∧ S22 2000 (x : Int) (y : Int) = some (fr a d) := by
 have w1 : IntKind.i64.wrap (Int.tmod (y : Int) 20) = ((y % 20 : Nat) : Int) := by rw [Int.tmod_eq_emod_of_nonneg (by omega), wrap_id (by omega)]; omega
 have w2 : IntKind.i64.wrap (1 + ((y % 20 : Nat) : Int)) = ((1 + y % 20 : Nat) : Int) := by rw [wrap_id (by omega)]; omega
 have w3 : IntKind.i64.wrap (((1 + y % 20 : Nat) : Int) + 1) = ((1 + y % 20 + 1 : Nat) : Int) := by rw [wrap_id (by omega)]; omega
 have w4 : IntKind.i64.wrap (x : Int) = (x : Int) := wrap_id (by omega)
 obtain ⟨D, hD⟩ : ∃ D, D = 1 + y % 20 := ⟨_, rfl⟩
 rw [← hD] at w2 w3
 have w5 : Int.tmod (x : Int) ((D + 1 : Nat) : Int) = ((x % (D + 1) : Nat) : Int) := by rw [Int.tmod_eq_emod_of_nonneg (by omega)]; rfl
 have nz : ¬ ((D + 1 : Nat) : Int) = 0 := by omega
 have hm : x % (D + 1) < D + 1 := Nat.mod_lt _ (by omega)
 have o := v23 (x % (D + 1)) D (by omega) (by omega) (by omega)
 have hd : 0 < D := by omega
 have cr := low_cross (n := x % (D + 1)) hd
 have p := low_pos (n := x % (D + 1)) hd
 have b := low_le2 (x % (D + 1)) D
 refine ⟨(low (x % (D + 1)) D).1, (low (x % (D + 1)) D).2, ⟨?_, p, by omega, low_cop hd⟩, by omega, ?_⟩
 ·have h1 : (low (x % (D + 1)) D).1 * D ≤ (low (x % (D + 1)) D).2 * D := by
   rw [cr, Nat.mul_comm _ D]
   exact Nat.mul_le_mul_right _ (by omega)
  exact Nat.le_of_mul_le_mul_right h1 hd
 ·unfold S22
  simp only [g22_4, g22_4b, g22, w1, w2, w3, if_neg nz, w4, w5, o, Option.bind_some]
  rfl
theorem v26 (a b c d : Nat) (ha : L36 a) (hb : L36 b) (hc : L36 c) (hd : L36 d) (h1 : 0 < b) (h2 : 0 < d) (g1 : Nat.gcd a b = 1) (g2 : Nat.gcd c d = 1) (hn : L36 (a * d + c * b)) (hm : L36 (b * d)) : S26 2000 (fr a b) (fr c d) = some (lo (a * d + c * b) (b * d), 0) := by
 have l := v52 false (a * d + c * b) (b * d) hn hm (Nat.mul_pos h1 h2)
 unfold S26
 simp only [g26_0, g26_1, g26_2, g26_4, g26_5, g26_6, g26_8, g26_9, g26_10, g26_12, g26_13, g26_14, g26_15, g26_17, g26_19, g26_22, g26_26, g26_27, g26, vF54 ha hb h1 g1, vF54 hc hd h2 g2, Option.bind_some, Bool.not_true, brB_false]
 simp only [fr, v57 a d c b ha hd hc hb, vM58 b d hb hd, vA59 _ _ hn, l, Option.bind_some, bne_self_eq_false, beq_self_eq_true, brB_true, brB_false, Bool.false_and]
 rfl
end Go.Fw.L51
