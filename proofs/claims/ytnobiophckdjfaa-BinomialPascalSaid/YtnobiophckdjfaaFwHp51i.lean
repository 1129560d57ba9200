/- Products and sums of numbers, drawings from an urn. -/
import Derived.Test.YtnobiophckdjfaaFwHp51h
set_option linter.unusedVariables false
set_option linter.unusedSimpArgs false
namespace Go.Fw.L51
open Go Go.Fw
set_option maxRecDepth 100000
set_option linter.unusedSimpArgs false
set_option linter.unusedVariables false
theorem L36.add {a b c : Nat} (hc : L36 c) (h : a + b ≤ c) : L36 a ∧ L36 b := ⟨hc.le (by omega), hc.le (by omega)⟩
theorem v78 (a b : Nat) (ha : L36 a) (hb : L36 b) : S78 2000 (nd a, ()) (nd b, ()) = some (nd (a * b), ()) := by
 have h1 := ha.len; have h2 := hb.len; have h3 := len_mul a b
 unfold S78
 simp only [g78_3, g78_3b, g78, v103 a b (by omega) (by omega) (by omega), Option.bind_some]
theorem vM58 (a b : Nat) (ha : L36 a) (hb : L36 b) : S58 2000 (nd a, ()) (nd b, ()) = some ((nd (a * b), ()), 0) := by
 have h1 := ha.len; have h2 := hb.len; have h3 := len_mul a b
 exact v58 a b (by omega) (by omega) (by omega)
theorem vA59 (a b : Nat) (h : L36 (a + b)) : S59 2000 (nd a, ()) (nd b, ()) = some ((nd (a + b), ()), 0) := by
 have h1 := (h.le (Nat.le_add_right a b)).len; have h2 := (h.le (Nat.le_add_left b a)).len; have h3 := h.len
 exact v59 a b (by omega) (by omega) (by omega)
theorem ch36 {n : Nat} (hn : n ≤ 400) (k : Nat) : L36 (ch n k) := Nat.lt_of_le_of_lt (ch_le n k) (Nat.lt_of_le_of_lt (Nat.pow_le_pow_right (by decide) hn) (by decide +kernel))
abbrev zf : Fra := (false, ([], ()), ([], ()), ())
def badD (t m d k : Int) : Bool := decide (t < 0) || (decide (t > 400) || (decide (m < 0) || (decide (m > t) || (decide (d < 0) || (decide (d > t) || (decide (k < 0) || decide (k > d)))))))
theorem badD_nat {t m d k : Int} (h : badD t m d k = false) : ∃ t' m' d' k' : Nat, t = t' ∧ m = m' ∧ d = d' ∧ k = k' ∧ t' ≤ 400 ∧ m' ≤ t' ∧ d' ≤ t' ∧ k' ≤ d' := by
 simp only [badD, Bool.or_eq_false_iff, decide_eq_false_iff_not] at h
 obtain ⟨h1, h2, h3, h4, h5, h6, h7, h8⟩ := h
 exact ⟨t.toNat, m.toNat, d.toNat, k.toNat, by omega, by omega, by omega, by omega, by omega, by omega, by omega, by omega⟩
def hy (t m d j : Nat) : Nat := ch m j * ch (t - m) (d - j)
theorem hy_all {t m d : Nat} (h : m ≤ t) : su (hy t m d) (d + 1) = ch t d := by
 have := vander m (t - m) d
 rw [show m + (t - m) = t by omega] at this
 exact this
theorem hy_part {t m d : Nat} (h : m ≤ t) (k j : Nat) (hj : k + j ≤ d + 1) : su (fun i => hy t m d (k + i)) j ≤ ch t d := by
 rw [← hy_all h, show d + 1 = (k + j) + (d + 1 - (k + j)) by omega, su_split, su_split]
 omega
theorem hy_le {t m d j : Nat} (h : m ≤ t) (hj : j ≤ d) : hy t m d j ≤ ch t d := by
 have := hy_part (d := d) h j 1 (by omega)
 simpa [su] using this
theorem vs64 (n j : Nat) (hn : n ≤ 400) (hj : j ≤ n) : S64 2000 (n : Int) (j : Int) = some (nd (ch n j), ()) := by
 rw [v64 _ _ (by omega), if_pos (by omega), Int.toNat_natCast, Int.toNat_natCast]
end Go.Fw.L51
