/- Terms, tails, rows, means, modes, ratios. -/
import Derived.Test.YtnobiophckdjfaaFwHr51j
import Derived.Test.YtnobiophckdjfaaFwB5
set_option linter.unusedVariables false
set_option linter.unusedSimpArgs false
namespace Go.Fw.L51
open Go Go.Fw
set_option maxRecDepth 100000
set_option linter.unusedSimpArgs false
set_option linter.unusedVariables false
theorem ltailr {n a d : Nat} (h : Chn n a d) (k0 k1 : Nat) (h1 : k1 ≤ n) (x : Fra) : ∀ (u j : Nat), u + j = k1 + 1 - k0 → k0 ≤ k1 →
  ∀ {R : Type} (k : Int → Int → Fra → Fra → List Int × Unit → Int → Option R) (mm : Nat), u < mm →
    l48_9 (S59 2000) (S71 2000) k mm (n : Int) (k1 : Int) (fr a d) x (nd (su (fun i => sh n a d (k0 + i)) j), ()) ((k0 + j : Nat) : Int) = k (n : Int) (k1 : Int) (fr a d) x (nd (su (fun i => sh n a d (k0 + i)) (k1 + 1 - k0)), ()) ((k1 + 1 : Nat) : Int) := by
 have hn := h.n6
 intro u
 induction u with
 | zero =>
   intro j hj hk R k mm hmm
   obtain ⟨mm, rfl⟩ : ∃ q, mm = q + 1 := ⟨mm - 1, by omega⟩
   have e0 : decide (((k0 + j : Nat) : Int) ≤ (k1 : Int)) = false := by simp; omega
   rw [l48_9]
   simp only [g48_14, g48_2, g48_3, g48_5, g48_7, g48_8, g48_9, g48_13, g48_14b, g48, e0, brB_false]
   rw [show j = k1 + 1 - k0 by omega, show k0 + (k1 + 1 - k0) = k1 + 1 by omega]
 | succ u ih =>
   intro j hj hk R k mm hmm
   obtain ⟨mm, rfl⟩ : ∃ q, mm = q + 1 := ⟨mm - 1, by omega⟩
   have e0 : decide (((k0 + j : Nat) : Int) ≤ (k1 : Int)) = true := by simp; omega
   have w1 : IntKind.i64.wrap (((k0 + j : Nat) : Int) + 1) = ((k0 + (j + 1) : Nat) : Int) := by rw [wrap_id (by omega)]; omega
   have b := sh_part (n := n) h.le k0 (j + 1) (by omega)
   have a3 : S59 2000 (nd (su (fun i => sh n a d (k0 + i)) j), ()) (nd (sh n a d (k0 + j)), ()) = some ((nd (su (fun i => sh n a d (k0 + i)) (j + 1)), ()), 0) := vA59 _ _ (h.l36.le b)
   rw [l48_9]
   simp only [g48_14, g48_2, g48_3, g48_5, g48_7, g48_8, g48_9, g48_13, g48_14b, g48, e0, brB_true, v71 n a d (k0 + j) h (by omega), a3, Option.bind_some, w1]
   exact ih (j + 1) (by omega) hk k mm (by omega)
theorem v48 (n a d k0 k1 : Nat) (h : Chn n a d) (h0 : k0 ≤ k1) (h1 : k1 ≤ n) : S48 2000 (n : Int) (k0 : Int) (k1 : Int) (fr a d) = some (lo (su (fun i => sh n a d (k0 + i)) (k1 + 1 - k0)) (d ^ n)) := by
 have hn := h.n6; have hd := h.d3
 have z := v53 0 (by omega)
 simp only [Int.natCast_zero] at z
 have lp := fun {R : Type} (q : Int → Int → Fra → Fra → List Int × Unit → Int → Option R) => ltailr h k0 k1 h1 zf (k1 + 1 - k0) 0 (by omega) h0 q 2000 (by omega)
 simp only [Nat.add_zero, su] at lp
 unfold S48
 simp only [g48_14, g48_2, g48_3, g48_5, g48_7, g48_8, g48_9, g48_13, g48_14b, g48, Option.bind_some, z]
 refine (lp _).trans ?_
 have pw := v80 d n (small36 (by omega)) (by omega) h.l36
 simp only [fr, pw, v72 _ _ (h.l36.le (sh_part h.le k0 (k1 + 1 - k0) (by omega))) h.l36 (Nat.pow_pos h.pos), Option.bind_some]
theorem term1 (n a d k : Nat) : su (fun i => sh n a d (k + i)) (k + 1 - k) = sh n a d k := by
 rw [show k + 1 - k = 1 by omega]; simp [su]
theorem vLs (n d : Nat) (h : L36 d) (hn : n ≤ d) : S21 2000 (lo n d) (lo n d) = some true := vL21 n d (h.le hn) h
end Go.Fw.L51
