/- Terms, tails, rows, means, modes, ratios. -/
import Derived.Test.YtnobiophckdjfaaFwHu51j
import Derived.Test.YtnobiophckdjfaaFwB5
set_option linter.unusedVariables false
set_option linter.unusedSimpArgs false
namespace Go.Fw.L51
open Go Go.Fw
set_option maxRecDepth 100000
set_option linter.unusedSimpArgs false
set_option linter.unusedVariables false
theorem term1 (n a d k : Nat) : su (fun i => sh n a d (k + i)) (k + 1 - k) = sh n a d k := by
 rw [show k + 1 - k = 1 by omega]; simp [su]
theorem vLs (n d : Nat) (h : L36 d) (hn : n ≤ d) : S21 2000 (lo n d) (lo n d) = some true := vL21 n d (h.le hn) h
end Go.Fw.L51
