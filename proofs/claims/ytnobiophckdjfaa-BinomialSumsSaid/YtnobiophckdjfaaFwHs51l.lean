/- Sums, differences and products of fractions; means, modes. -/
import Derived.Test.YtnobiophckdjfaaFwHs51k
set_option linter.unusedVariables false
set_option linter.unusedSimpArgs false
namespace Go.Fw.L51
open Go Go.Fw
set_option maxRecDepth 100000
set_option linter.unusedSimpArgs false
set_option linter.unusedVariables false
theorem v57 (a b c d : Nat) (ha : L36 a) (hb : L36 b) (hc : L36 c) (hd : L36 d) : S57 2000 (nd a, ()) (nd b, ()) (nd c, ()) (nd d, ()) = some ((nd (a * b), ()), (nd (c * d), ()), 0) := by
 unfold S57
 simp only [g57_8, g57_2, g57_3, g57_7, g57_8b, g57, vM58 a b ha hb, vM58 c d hc hd, Option.bind_some, bne_self_eq_false, brB_false]
theorem v25 (a b c d : Nat) (ha : L36 a) (hb : L36 b) (hc : L36 c) (hd : L36 d) (h1 : 0 < b) (h2 : 0 < d) (g1 : Nat.gcd a b = 1) (g2 : Nat.gcd c d = 1) (hn : L36 (a * c)) (hm : L36 (b * d)) : S25 2000 (fr a b) (fr c d) = some (lo (a * c) (b * d), 0) := by
 have l := v52 false (a * c) (b * d) hn hm (Nat.mul_pos h1 h2)
 unfold S25
 simp only [g25_0, g25_1, g25_2, g25_4, g25_5, g25_6, g25_8, g25_9, g25, vF54 ha hb h1 g1, vF54 hc hd h2 g2, Option.bind_some, Bool.not_true, brB_false]
 simp only [fr, v57 a c b d ha hc hb hd, l, Option.bind_some, bne_self_eq_false, beq_self_eq_true, Bool.not_true, brB_false, Bool.false_and]
 rfl
def am (f : Nat → Nat) : Nat → Nat
 | 0 => 0
 | j + 1 => if f (am f j) < f (j + 1) then j + 1 else am f j
theorem am_le (f : Nat → Nat) (j : Nat) : am f j ≤ j := by
 induction j with
 | zero => exact Nat.le_refl _
 | succ j ih => unfold am; split <;> omega
theorem lmode {n a d : Nat} (h : Chn n a d) : ∀ (u j : Nat), u + j = n →
  ∀ {R : Type} (k : Int → Int → Int → Int → List Int × Unit → Int → Option R) (m : Nat), u < m →
    l34_17 (S45 2000) (S69 2000) k m (n : Int) (a : Int) (d : Int) (am (sh n a d) j : Int) (nd (sh n a d (am (sh n a d) j)), ()) ((j + 1 : Nat) : Int) =
     k (n : Int) (a : Int) (d : Int) (am (sh n a d) n : Int) (nd (sh n a d (am (sh n a d) n)), ()) ((n + 1 : Nat) : Int) := by
 have hn := h.n6
 intro u
 induction u with
 | zero =>
   intro j hj R k m hm
   obtain ⟨m, rfl⟩ : ∃ q, m = q + 1 := ⟨m - 1, by omega⟩
   obtain rfl : j = n := by omega
   have e0 : decide (((j + 1 : Nat) : Int) ≤ (j : Int)) = false := by simp; omega
   rw [l34_17]
   simp only [g34_20, g34_2, g34_3, g34_5, g34_6, g34_7, g34_13, g34_11, g34_14, g34_15, g34_16, g34_17, g34_19, g34_20b, g34, e0, brB_false]
 | succ u ih =>
   intro j hj R k m hm
   obtain ⟨m, rfl⟩ : ∃ q, m = q + 1 := ⟨m - 1, by omega⟩
   have e0 : decide (((j + 1 : Nat) : Int) ≤ (n : Int)) = true := by simp; omega
   have w1 : IntKind.i64.wrap (((j + 1 : Nat) : Int) + 1) = ((j + 1 + 1 : Nat) : Int) := by rw [wrap_id (by omega)]; omega
   have hle := am_le (sh n a d) j
   have i1 := (h.l36.le (sh_le h.le (show j + 1 ≤ n by omega))).len
   have i2 := (h.l36.le (sh_le h.le (show am (sh n a d) j ≤ n by omega))).len
   have ih' := ih (j + 1) (by omega) k m (by omega)
   rw [l34_17]
   simp only [g34_20, g34_2, g34_3, g34_5, g34_6, g34_7, g34_13, g34_11, g34_14, g34_15, g34_16, g34_17, g34_19, g34_20b, g34, e0, brB_true, v45 n a d (j + 1) h (by omega), v69 _ _ (show (nd (sh n a d (j + 1))).length ≤ _ by omega) (show (nd (sh n a d (am (sh n a d) j))).length ≤ _ by omega), Option.bind_some, w1]
   by_cases c : sh n a d (am (sh n a d) j) < sh n a d (j + 1)
   ·have e1 : decide (cmpN (sh n a d (j + 1)) (sh n a d (am (sh n a d) j)) > 0) = true := decide_eq_true (cmpN_gt.2 c)
    have e2 : am (sh n a d) (j + 1) = j + 1 := if_pos c
    rw [e1, brB_true]
    rw [e2] at ih'
    exact ih'
   ·have e1 : decide (cmpN (sh n a d (j + 1)) (sh n a d (am (sh n a d) j)) > 0) = false := decide_eq_false fun h => c (cmpN_gt.1 h)
    have e2 : am (sh n a d) (j + 1) = am (sh n a d) j := if_neg c
    rw [e1, brB_false]
    rw [e2] at ih'
    exact ih'
theorem vT34 (p : Fra) (n a d : Nat) (h : Chn n a d) (hg : S43 2000 (n : Int) 0 200 0 p = some ((a : Int), (d : Int), 0)) : S34 2000 (n : Int) p = some ((am (sh n a d) n : Int), 0) := by
 have hn := h.n6
 have z := v45 n a d 0 h (by omega)
 have lp := fun {R : Type} (q : Int → Int → Int → Int → List Int × Unit → Int → Option R) => lmode h n 0 rfl q 2000 (by omega)
 simp only [Int.natCast_zero, am, Nat.zero_add, Int.natCast_one] at lp z
 unfold S34
 simp only [g34_20, g34_2, g34_3, g34_5, g34_6, g34_7, g34_13, g34_11, g34_14, g34_15, g34_16, g34_17, g34_19, g34_20b, g34, hg, z, Option.bind_some, bne_self_eq_false, brB_false]
 exact lp _
end Go.Fw.L51
