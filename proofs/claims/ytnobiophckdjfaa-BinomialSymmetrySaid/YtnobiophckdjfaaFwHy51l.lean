/- Sums, differences and products of fractions; means, modes. -/
import Derived.Test.YtnobiophckdjfaaFwHy51k
set_option linter.unusedVariables false
set_option linter.unusedSimpArgs false
namespace Go.Fw.L51
open Go Go.Fw
set_option maxRecDepth 100000
set_option linter.unusedSimpArgs false
set_option linter.unusedVariables false
theorem v57 (a b c d : Nat) (ha : L36 a) (hb : L36 b) (hc : L36 c) (hd : L36 d) : S57 2000 (nd a, ()) (nd b, ()) (nd c, ()) (nd d, ()) = some ((nd (a * b), ()), (nd (c * d), ()), 0) := by
 unfold S57
 simp only [g57_8, g57_2, g57_3, g57_7, g57_8b, g57, vM58 a b ha hb, vM58 c d hc hd, Option.bind_some, bne_self_eq_false, brB_false]
def am (f : Nat → Nat) : Nat → Nat
 | 0 => 0
 | j + 1 => if f (am f j) < f (j + 1) then j + 1 else am f j
theorem am_le (f : Nat → Nat) (j : Nat) : am f j ≤ j := by
 induction j with
 | zero => exact Nat.le_refl _
 | succ j ih => unfold am; split <;> omega
end Go.Fw.L51
