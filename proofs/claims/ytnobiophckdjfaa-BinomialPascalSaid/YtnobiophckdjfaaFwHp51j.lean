/- Probabilities, powers, the terms' numerators. -/
import Derived.Test.YtnobiophckdjfaaFwHp51i
set_option linter.unusedVariables false
set_option linter.unusedSimpArgs false
namespace Go.Fw.L51
open Go Go.Fw
set_option maxRecDepth 100000
set_option linter.unusedSimpArgs false
set_option linter.unusedVariables false
theorem lpow (x0 : List Int × Unit) {a K : Nat} (hK : L36 (a ^ K)) (ha : L36 a) (hk : K ≤ 1000) : ∀ (n j : Nat), n + j = K → ∀ {R : Type} (k : List Int × Unit → List Int × Unit → List Int × Unit → Int → Int → Option R) (m : Nat), n < m →
  l46_9 (S78 2000) k m x0 (nd (a ^ j), ()) (nd a, ()) (K : Int) (j : Int) = k x0 (nd (a ^ K), ()) (nd a, ()) (K : Int) (K : Int) := by
 intro n
 induction n with
 | zero =>
   intro j hj R k m hm
   obtain ⟨m, rfl⟩ : ∃ q, m = q + 1 := ⟨m - 1, by omega⟩
   obtain rfl : j = K := by omega
   have e0 : decide ((j : Int) < (j : Int)) = false := by simp
   rw [l46_9]
   simp only [g46_12, g46_2, g46_3, g46_5, g46_7, g46_8, g46_9, g46_11, g46_12b, g46, e0, brB_false]
 | succ n ih =>
   intro j hj R k m hm
   obtain ⟨m, rfl⟩ : ∃ q, m = q + 1 := ⟨m - 1, by omega⟩
   have e0 : decide ((j : Int) < (K : Int)) = true := by simp; omega
   have w1 : IntKind.i64.wrap ((j : Int) + 1) = ((j + 1 : Nat) : Int) := by rw [wrap_id (by omega)]; omega
   have hj' : L36 (a ^ j) := by
    by_cases h0 : a = 0
    ·subst h0
     exact Nat.lt_of_le_of_lt (Nat.pow_le_pow_left (Nat.zero_le 1) j) (by rw [Nat.one_pow]; decide +kernel)
    ·exact hK.le (Nat.pow_le_pow_right (by omega) (by omega))
   rw [l46_9]
   simp only [g46_12, g46_2, g46_3, g46_5, g46_7, g46_8, g46_9, g46_11, g46_12b, g46, e0, brB_true, v78 _ _ hj' ha, Option.bind_some, w1]
   rw [← Nat.pow_succ]
   exact ih (j + 1) (by omega) k m (by omega)
theorem v46 (a K : Nat) (ha : a ≤ 9223372036854775807) (hk : K ≤ 1000) (hK : L36 (a ^ K)) : S46 2000 (a : Int) (K : Int) = some (nd (a ^ K), ()) := by
 have o := v49 1 (by omega)
 simp only [Int.natCast_one] at o
 have lp := fun {R : Type} (q : List Int × Unit → List Int × Unit → List Int × Unit → Int → Int → Option R) => lpow ([], ()) hK (small36 ha) hk K 0 (by omega) q 2000 (by omega)
 simp only [Nat.pow_zero, Int.natCast_zero] at lp
 unfold S46
 simp only [g46_12, g46_2, g46_3, g46_5, g46_7, g46_8, g46_9, g46_11, g46_12b, g46, o, v49 a ha, Option.bind_some]
 exact lp _
def sh (n a d k : Nat) : Nat := ch n k * (a ^ k * (d - a) ^ (n - k))
structure Chn (n a d : Nat) : Prop where
 le : a ≤ d
 pos : 0 < d
 d3 : d ≤ 1000
 n6 : n ≤ 60
 all : d ^ n ≤ 10000 ^ 30
theorem Chn.mk40 {n a d : Nat} (h1 : a ≤ d) (h2 : 0 < d) (h3 : d ≤ 1000) (h4 : n ≤ 40) : Chn n a d :=
 ⟨h1, h2, h3, by omega, Nat.le_trans (Nat.pow_le_pow_left h3 n) (Nat.le_trans (Nat.pow_le_pow_right (by decide) h4) (by decide +kernel))⟩
theorem Chn.l36 {n a d : Nat} (h : Chn n a d) : L36 (d ^ n) := Nat.lt_of_le_of_lt h.all (by decide +kernel)
theorem sh_all {n a d : Nat} (h : a ≤ d) : su (sh n a d) (n + 1) = d ^ n := by
 have := bin_thm a (d - a) n
 rw [show a + (d - a) = d by omega] at this
 exact this
theorem sh_part {n a d : Nat} (h : a ≤ d) (k j : Nat) (hj : k + j ≤ n + 1) : su (fun i => sh n a d (k + i)) j ≤ d ^ n := by
 rw [← sh_all h, show n + 1 = (k + j) + (n + 1 - (k + j)) by omega, su_split, su_split]
 omega
theorem sh_le {n a d k : Nat} (h : a ≤ d) (hk : k ≤ n) : sh n a d k ≤ d ^ n := by
 have := sh_part (n := n) h k 1 (by omega)
 simpa [su] using this
theorem pow_ak {n a d k : Nat} (h : a ≤ d) (hd : 0 < d) (hk : k ≤ n) : a ^ k ≤ d ^ n := Nat.le_trans (Nat.pow_le_pow_left h k) (Nat.pow_le_pow_right hd hk)
theorem pow_mid {n a d k : Nat} (h : a ≤ d) (hk : k ≤ n) : a ^ k * (d - a) ^ (n - k) ≤ d ^ n := by
 have : d ^ n = d ^ k * d ^ (n - k) := by rw [← Nat.pow_add]; congr 1; omega
 rw [this]
 exact Nat.mul_le_mul (Nat.pow_le_pow_left h k) (Nat.pow_le_pow_left (Nat.sub_le ..) _)
theorem v45 (n a d k : Nat) (h : Chn n a d) (hk : k ≤ n) : S45 2000 (n : Int) (k : Int) (a : Int) (d : Int) = some (nd (sh n a d k), ()) := by
 have h1 := h.le; have h2 := h.d3; have h3 := h.n6
 have w1 : IntKind.i64.wrap ((d : Int) - (a : Int)) = ((d - a : Nat) : Int) := by rw [wrap_id (by omega)]; omega
 have w2 : IntKind.i64.wrap ((n : Int) - (k : Int)) = ((n - k : Nat) : Int) := by rw [wrap_id (by omega)]; omega
 have p1 : L36 (a ^ k) := h.l36.le (pow_ak h.le h.pos hk)
 have p2 : L36 ((d - a) ^ (n - k)) := h.l36.le (pow_ak (Nat.sub_le ..) h.pos (Nat.sub_le ..))
 unfold S45
 simp only [g45_2, g45_2b, g45, w1, w2, vs64 n k (by omega) hk, v46 a k (by omega) (by omega) p1, v46 (d - a) (n - k) (by omega) (by omega) p2, v78 _ _ p1 p2, v78 _ _ (ch36 (n := n) (by omega) k) (h.l36.le (pow_mid h.le hk)), Option.bind_some]
 rfl
theorem cmp_cross {p q r s : Nat} (hq : 0 < q) (hs : 0 < s) : cmpN (p * s) (r * q) = if p / q = r / s then cmpN ((p % q) * s) ((r % s) * q) else cmpN (p / q) (r / s) := by
 have e1 : p = q * (p / q) + p % q := (Nat.div_add_mod p q).symm
 have e2 : r = s * (r / s) + r % s := (Nat.div_add_mod r s).symm
 have m1 := Nat.mod_lt p hq; have m2 := Nat.mod_lt r hs
 generalize p / q = A at *
 generalize p % q = x at *
 generalize r / s = C at *
 generalize r % s = y at *
 have t1 : p * s = q * s * A + x * s := by rw [e1, Nat.add_mul]; congr 1; simp only [Nat.mul_left_comm, Nat.mul_comm, Nat.mul_assoc]
 have t2 : r * q = q * s * C + y * q := by rw [e2, Nat.add_mul]; congr 1; simp only [Nat.mul_left_comm, Nat.mul_comm, Nat.mul_assoc]
 rw [t1, t2]
 have b1 : x * s < q * s := Nat.mul_lt_mul_of_pos_right m1 hs
 have b2 : y * q < q * s := by rw [Nat.mul_comm q s]; exact Nat.mul_lt_mul_of_pos_right m2 hq
 generalize q * s = G at *
 generalize x * s = X at *
 generalize y * q = Y at *
 by_cases h : A = C
 ·subst h
  rw [if_pos rfl]
  unfold cmpN
  by_cases c1 : X < Y
  ·rw [if_pos c1, if_pos (by omega)]
  ·by_cases c2 : Y < X
   ·rw [if_neg c1, if_pos c2, if_neg (by omega), if_pos (by omega)]
   ·rw [if_neg c1, if_neg c2, if_neg (by omega), if_neg (by omega)]
 ·rw [if_neg h]
  unfold cmpN
  rcases Nat.lt_or_gt_of_ne h with c | c
  ·have : G * A + G ≤ G * C := by rw [← Nat.mul_succ]; exact Nat.mul_le_mul_left _ c
   rw [if_pos c, if_pos (by omega)]
  ·have : G * C + G ≤ G * A := by rw [← Nat.mul_succ]; exact Nat.mul_le_mul_left _ c
   rw [if_neg (show ¬ G * A + X < G * C + Y by omega), if_pos (show G * C + Y < G * A + X by omega), if_neg (show ¬ A < C by omega), if_pos c]
theorem v98 (n : Nat) (h : n < 10000) : S98 2000 (nd n, ()) = some (n : Int) := by
 unfold S98
 by_cases h0 : n = 0
 ·subst h0; simp [g98_0, g98_1, g98_2, g98_4, g98_5, g98, nd_zero, brB]
 ·rw [nd_small h h0]
  simp [g98_0, g98_1, g98_2, g98_4, g98_5, g98, brB]
theorem validF_ok {s : Bool} {N D : List Int} (h : validF s N D = true) : okN N = true ∧ okN D = true := by
 simp only [validF, Bool.and_eq_true] at h
 exact ⟨h.1.1.1.1, h.1.1.1.2⟩
end Go.Fw.L51
