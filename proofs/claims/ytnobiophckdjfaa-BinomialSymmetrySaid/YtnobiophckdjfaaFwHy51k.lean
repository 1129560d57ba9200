/- Terms, tails, rows, means, modes, ratios. -/
import Derived.Test.YtnobiophckdjfaaFwHy51j
import Derived.Test.YtnobiophckdjfaaFwB5
set_option linter.unusedVariables false
set_option linter.unusedSimpArgs false
namespace Go.Fw.L51
open Go Go.Fw
set_option maxRecDepth 100000
set_option linter.unusedSimpArgs false
set_option linter.unusedVariables false
theorem term1 (n a d k : Nat) : su (fun i => sh n a d (k + i)) (k + 1 - k) = sh n a d k := by
 rw [show k + 1 - k = 1 by omega]; simp [su]
theorem vT17 (p : Fra) (n a d k : Nat) (h : Chn n a d) (hk : k ≤ n) (hg : S43 2000 (n : Int) (k : Int) 200 (n : Int) p = some ((a : Int), (d : Int), 0)) : S17 2000 (n : Int) (k : Int) p = some (lo (sh n a d k) (d ^ n), 0) := by
 have hn := h.n6; have hd := h.d3
 unfold S17
 simp only [g17_6, g17_2, g17_3, g17_5, g17_6b, g17, hg, v45 n a d k h hk, v46 d n (by omega) (by omega) h.l36, v44 _ _ (h.l36.le (sh_le h.le hk)) h.l36 (Nat.pow_pos h.pos), Option.bind_some, bne_self_eq_false, brB_false]
theorem vE17 (p : Fra) (n k e : Int) (he : e ≠ 0) (hg : S43 2000 n k 200 n p = some (0, 0, e)) : S17 2000 n k p = some (zf, e) := by
 have h : (e != (0 : Int)) = true := by simpa using he
 unfold S17
 simp only [g17_6, g17_2, g17_3, g17_5, g17_6b, g17, hg, h, Option.bind_some, brB_true]
theorem vLs (n d : Nat) (h : L36 d) (hn : n ≤ d) : S21 2000 (lo n d) (lo n d) = some true := vL21 n d (h.le hn) h
end Go.Fw.L51
