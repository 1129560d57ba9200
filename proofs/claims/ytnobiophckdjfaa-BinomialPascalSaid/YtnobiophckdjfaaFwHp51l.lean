/- Sums, differences and products of fractions; means, modes. -/
import Derived.Test.YtnobiophckdjfaaFwHp51k
set_option linter.unusedVariables false
set_option linter.unusedSimpArgs false
namespace Go.Fw.L51
open Go Go.Fw
set_option maxRecDepth 100000
set_option linter.unusedSimpArgs false
set_option linter.unusedVariables false
theorem v57 (a b c d : Nat) (ha : L36 a) (hb : L36 b) (hc : L36 c) (hd : L36 d) : S57 2000 (nd a, ()) (nd b, ()) (nd c, ()) (nd d, ()) = some ((nd (a * b), ()), (nd (c * d), ()), 0) := by
 unfold S57
 simp only [g57_8, g57_2, g57_3, g57_7, g57_8b, g57, vM58 a b ha hb, vM58 c d hc hd, Option.bind_some, bne_self_eq_false, brB_false]
theorem v25 (a b c d : Nat) (ha : L36 a) (hb : L36 b) (hc : L36 c) (hd : L36 d) (h1 : 0 < b) (h2 : 0 < d) (g1 : Nat.gcd a b = 1) (g2 : Nat.gcd c d = 1) (hn : L36 (a * c)) (hm : L36 (b * d)) : S25 2000 (fr a b) (fr c d) = some (lo (a * c) (b * d), 0) := by
 have l := v52 false (a * c) (b * d) hn hm (Nat.mul_pos h1 h2)
 unfold S25
 simp only [g25_0, g25_1, g25_2, g25_4, g25_5, g25_6, g25_8, g25_9, g25, vF54 ha hb h1 g1, vF54 hc hd h2 g2, Option.bind_some, Bool.not_true, brB_false]
 simp only [fr, v57 a c b d ha hc hb hd, l, Option.bind_some, bne_self_eq_false, beq_self_eq_true, Bool.not_true, brB_false, Bool.false_and]
 rfl
def am (f : Nat → Nat) : Nat → Nat
 | 0 => 0
 | j + 1 => if f (am f j) < f (j + 1) then j + 1 else am f j
theorem am_le (f : Nat → Nat) (j : Nat) : am f j ≤ j := by
 induction j with
 | zero => exact Nat.le_refl _
 | succ j ih => unfold am; split <;> omega
end Go.Fw.L51
