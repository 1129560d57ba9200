/- Rows of terms. -/
import Derived.Test.YtnobiophckdjfaaFwHs51k
set_option linter.unusedVariables false
set_option linter.unusedSimpArgs false
namespace Go.Fw.L51
open Go Go.Fw
set_option maxRecDepth 100000
set_option linter.unusedSimpArgs false
set_option linter.unusedVariables false
def rowL (n a d j : Nat) : List Fra := (List.range j).map fun k => lo (sh n a d k) (d ^ n)
theorem rowL_succ (n a d j : Nat) : rowL n a d (j + 1) = rowL n a d j ++ [lo (sh n a d j) (d ^ n)] := by simp [rowL, List.range_succ]
theorem rowL_len (n a d j : Nat) : (rowL n a d j).length = j := by simp [rowL]
theorem lrow {n a d : Nat} (h : Chn n a d) : ∀ (u j : Nat), u + j = n + 1 →
  ∀ {R : Type} (k0 : List Fra → Int → Option R) (k : Int → Int → Int → List Fra → Int → Int → Option R) (m : Nat), u < m →
    l13_19 (S44 2000) (S45 2000) (S46 2000) k0 k m (n : Int) (a : Int) (d : Int) (rowL n a d j) ((n + 1 : Nat) : Int) (j : Int) = k (n : Int) (a : Int) (d : Int) (rowL n a d (n + 1)) ((n + 1 : Nat) : Int) ((n + 1 : Nat) : Int) := by
 have hn := h.n6; have hd := h.d3
 intro u
 induction u with
 | zero =>
   intro j hj R k0 k m hm
   obtain ⟨m, rfl⟩ : ∃ q, m = q + 1 := ⟨m - 1, by omega⟩
   obtain rfl : j = n + 1 := by omega
   have e0 : decide (((n + 1 : Nat) : Int) < ((n + 1 : Nat) : Int)) = false := by simp
   rw [l13_19]
   simp only [g13_22, g13_2, g13_3, g13_5, g13_6, g13_7, g13_15, g13_11, g13_12, g13_14, g13_17, g13_18, g13_19, g13_21, g13_22b, g13, e0, brB_false]
 | succ u ih =>
   intro j hj R k0 k m hm
   obtain ⟨m, rfl⟩ : ∃ q, m = q + 1 := ⟨m - 1, by omega⟩
   have e0 : decide ((j : Int) < ((n + 1 : Nat) : Int)) = true := by simp; omega
   have w1 : IntKind.i64.wrap ((j : Int) + 1) = ((j + 1 : Nat) : Int) := by rw [wrap_id (by omega)]; omega
   have lg : (rowL n a d j).length + [lo (sh n a d j) (d ^ n)].length ≤ 2513169434916 := by rw [rowL_len]; simp only [List.length_cons, List.length_nil]; omega
   rw [l13_19]
   simp only [g13_22, g13_2, g13_3, g13_5, g13_6, g13_7, g13_15, g13_11, g13_12, g13_14, g13_17, g13_18, g13_19, g13_21, g13_22b, g13, e0, brB_true, v45 n a d j h (by omega), v46 d n (by omega) (by omega) h.l36, v44 _ _ (h.l36.le (sh_le h.le (show j ≤ n by omega))) h.l36 (Nat.pow_pos h.pos), Option.bind_some, bne_self_eq_false, brB_false, if_pos lg, w1, ← rowL_succ]
   exact ih (j + 1) (by omega) k0 k m (by omega)
theorem vT13 (p : Fra) (n a d : Nat) (h : Chn n a d) (hg : S43 2000 (n : Int) 0 60 0 p = some ((a : Int), (d : Int), 0)) : S13 2000 (n : Int) p = some (rowL n a d (n + 1), 0) := by
 have hn := h.n6
 have w1 : IntKind.i64.wrap ((n : Int) + 1) = ((n + 1 : Nat) : Int) := by rw [wrap_id (by omega)]; omega
 have lp := fun {R : Type} (q0 : List Fra → Int → Option R) (q : Int → Int → Int → List Fra → Int → Int → Option R) => lrow h (n + 1) 0 rfl q0 q 2000 (by omega)
 have r0 : rowL n a d 0 = [] := rfl
 simp only [r0, Int.natCast_zero] at lp
 unfold S13
 simp only [g13_22, g13_2, g13_3, g13_5, g13_6, g13_7, g13_15, g13_11, g13_12, g13_14, g13_17, g13_18, g13_19, g13_21, g13_22b, g13, hg, Option.bind_some, bne_self_eq_false, brB_false, w1]
 exact lp _ _
end Go.Fw.L51
