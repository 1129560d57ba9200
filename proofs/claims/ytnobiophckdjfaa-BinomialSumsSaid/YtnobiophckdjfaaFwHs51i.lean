/- Products and sums of numbers, drawings from an urn. -/
import Derived.Test.YtnobiophckdjfaaFwHs51h
set_option linter.unusedVariables false
set_option linter.unusedSimpArgs false
namespace Go.Fw.L51
open Go Go.Fw
set_option maxRecDepth 100000
set_option linter.unusedSimpArgs false
set_option linter.unusedVariables false
theorem L36.add {a b c : Nat} (hc : L36 c) (h : a + b ≤ c) : L36 a ∧ L36 b := ⟨hc.le (by omega), hc.le (by omega)⟩
theorem v78 (a b : Nat) (ha : L36 a) (hb : L36 b) : S78 2000 (nd a, ()) (nd b, ()) = some (nd (a * b), ()) := by
 have h1 := ha.len; have h2 := hb.len; have h3 := len_mul a b
 unfold S78
 simp only [g78_3, g78_3b, g78, v103 a b (by omega) (by omega) (by omega), Option.bind_some]
theorem v50 (a b : Nat) (ha : L36 a) (hb : L36 b) : S50 2000 (nd a, ()) (nd b, ()) = some (nd (a + b), ()) := by
 have h1 := ha.len; have h2 := hb.len
 unfold S50
 simp only [g50_3, g50_3b, g50, v82 a b (by omega) (by omega), Option.bind_some]
theorem vM58 (a b : Nat) (ha : L36 a) (hb : L36 b) : S58 2000 (nd a, ()) (nd b, ()) = some ((nd (a * b), ()), 0) := by
 have h1 := ha.len; have h2 := hb.len; have h3 := len_mul a b
 exact v58 a b (by omega) (by omega) (by omega)
theorem vA59 (a b : Nat) (h : L36 (a + b)) : S59 2000 (nd a, ()) (nd b, ()) = some ((nd (a + b), ()), 0) := by
 have h1 := (h.le (Nat.le_add_right a b)).len; have h2 := (h.le (Nat.le_add_left b a)).len; have h3 := h.len
 exact v59 a b (by omega) (by omega) (by omega)
theorem ch36 {n : Nat} (hn : n ≤ 400) (k : Nat) : L36 (ch n k) := Nat.lt_of_le_of_lt (ch_le n k) (Nat.lt_of_le_of_lt (Nat.pow_le_pow_right (by decide) hn) (by decide +kernel))
abbrev zf : Fra := (false, ([], ()), ([], ()), ())
def hy (t m d j : Nat) : Nat := ch m j * ch (t - m) (d - j)
theorem vs64 (n j : Nat) (hn : n ≤ 400) (hj : j ≤ n) : S64 2000 (n : Int) (j : Int) = some (nd (ch n j), ()) := by
 rw [v64 _ _ (by omega), if_pos (by omega), Int.toNat_natCast, Int.toNat_natCast]
end Go.Fw.L51
