/- BinomialPascal. -/
import Derived.Test.YtnobiophckdjfaaFwHp51o
set_option linter.unusedVariables false
set_option linter.unusedSimpArgs false
namespace Go.Fw.L51
open Go Go.Fw
set_option maxRecDepth 100000
set_option linter.unusedSimpArgs false
set_option linter.unusedVariables false
theorem sh_pascal {n a d k : Nat} (hk : k + 1 ≤ n) : sh (n + 1) a d (k + 1) = a * sh n a d k + (d - a) * sh n a d (k + 1) := by
 unfold sh
 rw [show n + 1 - (k + 1) = n - k by omega]
 obtain ⟨r, hr⟩ : ∃ r, n - k = r + 1 := ⟨n - k - 1, by omega⟩
 rw [show n - (k + 1) = r by omega, hr, show ch (n + 1) (k + 1) = ch n k + ch n (k + 1) from rfl, Nat.add_mul, Nat.pow_succ, Nat.pow_succ]
 congr 1 <;> simp only [Nat.mul_left_comm, Nat.mul_comm, Nat.mul_assoc]
theorem main6 (c : Int × (Int × (Int × (Int × Unit)))) (i0 : InR (.pair (.int .u8) (.pair (.int .u8) (.pair (.int .u8) (.pair (.int .u8) .unit)))) c) : S6 2000 c = some true := by
 have e8 : S11 2000 = some true := rfl
 obtain ⟨N, K, x, y, _⟩ := c
 obtain ⟨b1, b2⟩ : 0 ≤ N ∧ N ≤ 255 := inR_u8 i0.1
 obtain ⟨b3, b4⟩ : 0 ≤ K ∧ K ≤ 255 := inR_u8 i0.2.1
 obtain ⟨b5, b6⟩ : 0 ≤ x ∧ x ≤ 255 := inR_u8 i0.2.2.1
 obtain ⟨b7, b8⟩ : 0 ≤ y ∧ y ≤ 255 := inR_u8 i0.2.2.2.1
 obtain ⟨N, rfl⟩ := Int.eq_ofNat_of_zero_le b1
 obtain ⟨K, rfl⟩ := Int.eq_ofNat_of_zero_le b3
 obtain ⟨x, rfl⟩ := Int.eq_ofNat_of_zero_le b5
 obtain ⟨y, rfl⟩ := Int.eq_ofNat_of_zero_le b7
 obtain ⟨a, d, hp, hd, hm⟩ := v22 x y (by omega)
 have t0 : Int.tmod (N : Int) 41 = ((N % 41 : Nat) : Int) := by rw [Int.tmod_eq_emod_of_nonneg (by omega)]; rfl
 have hn : N % 41 ≤ 40 := by omega
 generalize N % 41 = n at t0 hn
 have w1 : IntKind.i64.wrap (n : Int) = (n : Int) := wrap_id (by omega)
 unfold S6
 simp only [g6_0, g6_1, g6_2, g6_15, g6_16, g6, e8, t0, w1, hm, Option.bind_some, Bool.not_true, brB_false]
 by_cases hz : n = 0
 ·subst hz
  rfl
 ·have ez : ((n : Int) == 0) = false := by simp; omega
  have nz : ¬ (n : Int) = 0 := by omega
  have w3 : Int.tmod (IntKind.i64.wrap (K : Int)) (n : Int) = ((K % n : Nat) : Int) := by rw [wrap_id (by omega), Int.tmod_eq_emod_of_nonneg (by omega)]; rfl
  have hk : K % n < n := Nat.mod_lt _ (by omega)
  generalize K % n = k at w3 hk
  have wk : IntKind.i64.wrap ((k : Int) + 1) = ((k + 1 : Nat) : Int) := by rw [wrap_id (by omega)]; omega
  have wn : IntKind.i64.wrap ((n : Int) + 1) = ((n + 1 : Nat) : Int) := by rw [wrap_id (by omega)]; omega
  have o := v23 1 1 (by omega) (by omega) (by omega)
  rw [lo_fr (by decide)] at o
  simp only [Int.natCast_one] at o
  have c0 : Chn n a d := hp.chn hn
  have c1 : Chn (n + 1) a d := hp.chn2 (by omega) (by omega)
  have t1 := vP17 hp n k c0 (by omega)
  have t2 := vP17 hp n (k + 1) c0 (by omega)
  have t3 := vP17 hp (n + 1) (k + 1) c1 (by omega)
  have hM : Bd (10000 ^ 17) := ⟨by decide, by decide +kernel⟩
  have q1 : d ^ n ≤ 10000 ^ 15 := Nat.le_trans (Nat.pow_le_pow_left hd n) (Nat.le_trans (Nat.pow_le_pow_right (by decide) hn) (by decide +kernel))
  have q2 : (10000 : Nat) ^ 15 ≤ 10000 ^ 17 := by decide +kernel
  have s1 := sh_le hp.le (show k ≤ n by omega); have s2 := sh_le hp.le (show k + 1 ≤ n by omega)
  have d0 : 0 < d ^ n := Nat.pow_pos hp.pos
  have le := hp.le
  have big : (20 : Nat) ≤ 10000 ^ 17 := by decide +kernel
  have m1 := vl25 hM a d (sh n a d k) (d ^ n) (by omega) (by omega) (by omega) (by omega) hp.pos d0
  have m2 := vl25 hM (d - a) d (sh n a d (k + 1)) (d ^ n) (by omega) (by omega) (by omega) (by omega) hp.pos d0
  rw [lo_fr hp.gcd] at m1
  rw [lo_fr hp.opp.gcd] at m2
  have b20 : ∀ u v : Nat, u ≤ 20 → v ≤ 10000 ^ 15 → u * v ≤ 10000 ^ 17 := fun u v hu hv => Nat.le_trans (Nat.mul_le_mul hu hv) (by decide +kernel)
  have ad := vd26 hM (a * sh n a d k) ((d - a) * sh n a d (k + 1)) (d * d ^ n) (b20 _ _ (by omega) (by omega)) (b20 _ _ (by omega) (by omega)) (b20 _ _ (by omega) (by omega)) (Nat.mul_pos hp.pos d0)
  rw [← sh_pascal (by omega), show d * d ^ n = d ^ (n + 1) by rw [Nat.pow_succ, Nat.mul_comm]] at ad
  rw [show d * d ^ n = d ^ (n + 1) by rw [Nat.pow_succ, Nat.mul_comm]] at m1 m2
  simp only [ez, brB_false, if_neg nz, w3, o, v24 hp, t1, wk, t2, wn, t3, m1, m2, ad, Option.bind_some, beq_self_eq_true, brB_true, vLs _ _ c1.l36 (sh_le c1.le (show k + 1 ≤ n + 1 by omega))]
end Go.Fw.L51
