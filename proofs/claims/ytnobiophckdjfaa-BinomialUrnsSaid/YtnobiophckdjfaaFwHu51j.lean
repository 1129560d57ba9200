/- Probabilities, powers, the terms' numerators. -/
import Derived.Test.YtnobiophckdjfaaFwHu51i
set_option linter.unusedVariables false
set_option linter.unusedSimpArgs false
namespace Go.Fw.L51
open Go Go.Fw
set_option maxRecDepth 100000
set_option linter.unusedSimpArgs false
set_option linter.unusedVariables false
def sh (n a d k : Nat) : Nat := ch n k * (a ^ k * (d - a) ^ (n - k))
structure Chn (n a d : Nat) : Prop where
 le : a ≤ d
 pos : 0 < d
 d3 : d ≤ 1000
 n6 : n ≤ 60
 all : d ^ n ≤ 10000 ^ 30
theorem Chn.mk40 {n a d : Nat} (h1 : a ≤ d) (h2 : 0 < d) (h3 : d ≤ 1000) (h4 : n ≤ 40) : Chn n a d :=
 ⟨h1, h2, h3, by omega, Nat.le_trans (Nat.pow_le_pow_left h3 n) (Nat.le_trans (Nat.pow_le_pow_right (by decide) h4) (by decide +kernel))⟩
theorem Chn.l36 {n a d : Nat} (h : Chn n a d) : L36 (d ^ n) := Nat.lt_of_le_of_lt h.all (by decide +kernel)
theorem sh_all {n a d : Nat} (h : a ≤ d) : su (sh n a d) (n + 1) = d ^ n := by
 have := bin_thm a (d - a) n
 rw [show a + (d - a) = d by omega] at this
 exact this
theorem sh_part {n a d : Nat} (h : a ≤ d) (k j : Nat) (hj : k + j ≤ n + 1) : su (fun i => sh n a d (k + i)) j ≤ d ^ n := by
 rw [← sh_all h, show n + 1 = (k + j) + (n + 1 - (k + j)) by omega, su_split, su_split]
 omega
theorem sh_le {n a d k : Nat} (h : a ≤ d) (hk : k ≤ n) : sh n a d k ≤ d ^ n := by
 have := sh_part (n := n) h k 1 (by omega)
 simpa [su] using this
theorem pow_ak {n a d k : Nat} (h : a ≤ d) (hd : 0 < d) (hk : k ≤ n) : a ^ k ≤ d ^ n := Nat.le_trans (Nat.pow_le_pow_left h k) (Nat.pow_le_pow_right hd hk)
theorem pow_mid {n a d k : Nat} (h : a ≤ d) (hk : k ≤ n) : a ^ k * (d - a) ^ (n - k) ≤ d ^ n := by
 have : d ^ n = d ^ k * d ^ (n - k) := by rw [← Nat.pow_add]; congr 1; omega
 rw [this]
 exact Nat.mul_le_mul (Nat.pow_le_pow_left h k) (Nat.pow_le_pow_left (Nat.sub_le ..) _)
theorem cmp_cross {p q r s : Nat} (hq : 0 < q) (hs : 0 < s) : cmpN (p * s) (r * q) = if p / q = r / s then cmpN ((p % q) * s) ((r % s) * q) else cmpN (p / q) (r / s) := by
 have e1 : p = q * (p / q) + p % q := (Nat.div_add_mod p q).symm
 have e2 : r = s * (r / s) + r % s := (Nat.div_add_mod r s).symm
 have m1 := Nat.mod_lt p hq; have m2 := Nat.mod_lt r hs
 generalize p / q = A at *
 generalize p % q = x at *
 generalize r / s = C at *
 generalize r % s = y at *
 have t1 : p * s = q * s * A + x * s := by rw [e1, Nat.add_mul]; congr 1; simp only [Nat.mul_left_comm, Nat.mul_comm, Nat.mul_assoc]
 have t2 : r * q = q * s * C + y * q := by rw [e2, Nat.add_mul]; congr 1; simp only [Nat.mul_left_comm, Nat.mul_comm, Nat.mul_assoc]
 rw [t1, t2]
 have b1 : x * s < q * s := Nat.mul_lt_mul_of_pos_right m1 hs
 have b2 : y * q < q * s := by rw [Nat.mul_comm q s]; exact Nat.mul_lt_mul_of_pos_right m2 hq
 generalize q * s = G at *
 generalize x * s = X at *
 generalize y * q = Y at *
 by_cases h : A = C
 ·subst h
  rw [if_pos rfl]
  unfold cmpN
  by_cases c1 : X < Y
  ·rw [if_pos c1, if_pos (by omega)]
  ·by_cases c2 : Y < X
   ·rw [if_neg c1, if_pos c2, if_neg (by omega), if_pos (by omega)]
   ·rw [if_neg c1, if_neg c2, if_neg (by omega), if_neg (by omega)]
 ·rw [if_neg h]
  unfold cmpN
  rcases Nat.lt_or_gt_of_ne h with c | c
  ·have : G * A + G ≤ G * C := by rw [← Nat.mul_succ]; exact Nat.mul_le_mul_left _ c
   rw [if_pos c, if_pos (by omega)]
  ·have : G * C + G ≤ G * A := by rw [← Nat.mul_succ]; exact Nat.mul_le_mul_left _ c
   rw [if_neg (show ¬ G * A + X < G * C + Y by omega), if_pos (show G * C + Y < G * A + X by omega), if_neg (show ¬ A < C by omega), if_pos c]
theorem validF_ok {s : Bool} {N D : List Int} (h : validF s N D = true) : okN N = true ∧ okN D = true := by
 simp only [validF, Bool.and_eq_true] at h
 exact ⟨h.1.1.1.1, h.1.1.1.2⟩
end Go.Fw.L51
