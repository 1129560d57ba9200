/- BinomialSymmetry. -/
import Derived.Test.YtnobiophckdjfaaFwHy51n
set_option linter.unusedVariables false
set_option linter.unusedSimpArgs false
namespace Go.Fw.L51
open Go Go.Fw
set_option maxRecDepth 100000
set_option linter.unusedSimpArgs false
set_option linter.unusedVariables false
theorem sh_sym {n a d k : Nat} (h : a ≤ d) (hk : k ≤ n) : sh n (d - a) d (n - k) = sh n a d k := by
 unfold sh
 rw [ch_symm hk, show d - (d - a) = a by omega, show n - (n - k) = k by omega, Nat.mul_comm (a ^ k)]
theorem main5 (c : Int × (Int × (Int × (Int × Unit)))) (i0 : InR (.pair (.int .u8) (.pair (.int .u8) (.pair (.int .u8) (.pair (.int .u8) .unit)))) c) : S5 2000 c = some true := by
 have e8 : S11 2000 = some true := rfl
 obtain ⟨N, K, x, y, _⟩ := c
 obtain ⟨b1, b2⟩ : 0 ≤ N ∧ N ≤ 255 := inR_u8 i0.1
 obtain ⟨b3, b4⟩ : 0 ≤ K ∧ K ≤ 255 := inR_u8 i0.2.1
 obtain ⟨b5, b6⟩ : 0 ≤ x ∧ x ≤ 255 := inR_u8 i0.2.2.1
 obtain ⟨b7, b8⟩ : 0 ≤ y ∧ y ≤ 255 := inR_u8 i0.2.2.2.1
 obtain ⟨N, rfl⟩ := Int.eq_ofNat_of_zero_le b1
 obtain ⟨K, rfl⟩ := Int.eq_ofNat_of_zero_le b3
 obtain ⟨x, rfl⟩ := Int.eq_ofNat_of_zero_le b5
 obtain ⟨y, rfl⟩ := Int.eq_ofNat_of_zero_le b7
 obtain ⟨a, d, hp, hd, hm⟩ := v22 x y (by omega)
 have w1 : IntKind.i64.wrap (Int.tmod (N : Int) 41) = ((N % 41 : Nat) : Int) := by rw [Int.tmod_eq_emod_of_nonneg (by omega), wrap_id (by omega)]; omega
 have hn : N % 41 ≤ 40 := by omega
 generalize N % 41 = n at w1 hn
 have w2 : IntKind.i64.wrap ((n : Int) + 1) = ((n + 1 : Nat) : Int) := by rw [wrap_id (by omega)]; omega
 have nz : ¬ ((n + 1 : Nat) : Int) = 0 := by omega
 have w3 : Int.tmod (IntKind.i64.wrap (K : Int)) ((n + 1 : Nat) : Int) = ((K % (n + 1) : Nat) : Int) := by rw [wrap_id (by omega), Int.tmod_eq_emod_of_nonneg (by omega)]; rfl
 have hk : K % (n + 1) ≤ n := Nat.le_of_lt_succ (Nat.mod_lt _ (by omega))
 generalize K % (n + 1) = k at w3 hk
 have w4 : IntKind.i64.wrap ((n : Int) - (k : Int)) = ((n - k : Nat) : Int) := by rw [wrap_id (by omega)]; omega
 have o := v23 1 1 (by omega) (by omega) (by omega)
 rw [lo_fr (by decide)] at o
 simp only [Int.natCast_one] at o
 have t1 := vP17 hp n k (hp.chn hn) hk
 have t2 := vP17 hp.opp n (n - k) (hp.opp.chn hn) (Nat.sub_le ..)
 rw [sh_sym hp.le hk] at t2
 have hc := hp.chn (n := n) hn
 unfold S5
 simp only [g5_0, g5_1, g5_2, g5_11, g5_12, g5, e8, hm, w1, w2, if_neg nz, w3, o, v24 hp, t1, w4, t2, Option.bind_some, Bool.not_true, brB_false, beq_self_eq_true, brB_true, vLs _ _ hc.l36 (sh_le hc.le hk)]
end Go.Fw.L51
