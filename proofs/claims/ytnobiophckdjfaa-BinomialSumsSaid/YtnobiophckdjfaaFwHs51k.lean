/- Terms, tails, rows, means, modes, ratios. -/
import Derived.Test.YtnobiophckdjfaaFwHs51j
import Derived.Test.YtnobiophckdjfaaFwB5
set_option linter.unusedVariables false
set_option linter.unusedSimpArgs false
namespace Go.Fw.L51
open Go Go.Fw
set_option maxRecDepth 100000
set_option linter.unusedSimpArgs false
set_option linter.unusedVariables false
theorem ltail {n a d : Nat} (h : Chn n a d) (k0 : Nat) (x : Fra) : ∀ (u j : Nat), u + j = n + 1 - k0 → k0 ≤ n →
  ∀ {R : Type} (k : Int → Fra → Int → Int → List Int × Unit → Int → Option R) (mm : Nat), u < mm →
    l19_13 (S45 2000) (S50 2000) k mm (n : Int) x (a : Int) (d : Int) (nd (su (fun i => sh n a d (k0 + i)) j), ()) ((k0 + j : Nat) : Int) = k (n : Int) x (a : Int) (d : Int) (nd (su (fun i => sh n a d (k0 + i)) (n + 1 - k0)), ()) ((n + 1 : Nat) : Int) := by
 have hn := h.n6
 intro u
 induction u with
 | zero =>
   intro j hj hk R k mm hmm
   obtain ⟨mm, rfl⟩ : ∃ q, mm = q + 1 := ⟨mm - 1, by omega⟩
   have e0 : decide (((k0 + j : Nat) : Int) ≤ (n : Int)) = false := by simp; omega
   rw [l19_13]
   simp only [g19_16, g19_2, g19_3, g19_5, g19_6, g19_7, g19_9, g19_11, g19_12, g19_13, g19_15, g19_16b, g19, e0, brB_false]
   rw [show j = n + 1 - k0 by omega, show k0 + (n + 1 - k0) = n + 1 by omega]
 | succ u ih =>
   intro j hj hk R k mm hmm
   obtain ⟨mm, rfl⟩ : ∃ q, mm = q + 1 := ⟨mm - 1, by omega⟩
   have e0 : decide (((k0 + j : Nat) : Int) ≤ (n : Int)) = true := by simp; omega
   have w1 : IntKind.i64.wrap (((k0 + j : Nat) : Int) + 1) = ((k0 + (j + 1) : Nat) : Int) := by rw [wrap_id (by omega)]; omega
   have b := L36.add h.l36 (sh_part (n := n) h.le k0 (j + 1) (by omega))
   rw [l19_13]
   simp only [g19_16, g19_2, g19_3, g19_5, g19_6, g19_7, g19_9, g19_11, g19_12, g19_13, g19_15, g19_16b, g19, e0, brB_true, v45 n a d (k0 + j) h (by omega), v50 _ _ b.1 b.2, Option.bind_some, w1]
   exact ih (j + 1) (by omega) hk k mm (by omega)
theorem vT19 (p : Fra) (n a d k : Nat) (h : Chn n a d) (hk : k ≤ n) (hg : S43 2000 (n : Int) (k : Int) 200 (n : Int) p = some ((a : Int), (d : Int), 0)) : S19 2000 (n : Int) (k : Int) p = some (lo (su (fun i => sh n a d (k + i)) (n + 1 - k)) (d ^ n), 0) := by
 have hn := h.n6; have hd := h.d3
 have z := v49 0 (by omega)
 simp only [Int.natCast_zero] at z
 have lp := fun {R : Type} (q : Int → Fra → Int → Int → List Int × Unit → Int → Option R) => ltail h k zf (n + 1 - k) 0 (by omega) hk q 2000 (by omega)
 simp only [Nat.add_zero, su] at lp
 unfold S19
 simp only [g19_16, g19_2, g19_3, g19_5, g19_6, g19_7, g19_9, g19_11, g19_12, g19_13, g19_15, g19_16b, g19, hg, z, Option.bind_some, bne_self_eq_false, brB_false]
 refine (lp _).trans ?_
 simp only [v46 d n (by omega) (by omega) h.l36, v44 _ _ (h.l36.le (sh_part h.le k (n + 1 - k) (by omega))) h.l36 (Nat.pow_pos h.pos), Option.bind_some]
end Go.Fw.L51
