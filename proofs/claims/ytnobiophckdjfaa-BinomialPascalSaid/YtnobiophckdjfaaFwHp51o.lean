/- Fractions in lowest terms: products, sums, sums of lists. -/
import Derived.Test.YtnobiophckdjfaaFwHp51n
set_option linter.unusedVariables false
set_option linter.unusedSimpArgs false
namespace Go.Fw.L51
open Go Go.Fw
set_option maxRecDepth 100000
set_option linter.unusedSimpArgs false
set_option linter.unusedVariables false
theorem lo_congr {n d n' d' : Nat} (hd : 0 < d) (hd' : 0 < d') (h : n * d' = n' * d) : lo n d = lo n' d' := by unfold lo; rw [low_eq hd hd' h]
theorem lo_one (n : Nat) : lo n 1 = fr n 1 := lo_fr (Nat.gcd_one_right n)
theorem le36 {a b c d : Nat} (h : L36 (c * d)) (h1 : a ≤ c) (h2 : b ≤ d) : L36 (a * b) := h.le (Nat.mul_le_mul h1 h2)
structure Bd (M : Nat) : Prop where
 pos : 0 < M
 sq : 2 * (M * M) < 10000 ^ 36
theorem Bd.l36 {M a : Nat} (h : Bd M) (ha : a ≤ M) : L36 a := by
 have h0 := h.pos
 have h1 := h.sq
 have : M ≤ M * M := Nat.le_mul_of_pos_left M h0
 exact Nat.lt_of_le_of_lt (Nat.le_trans ha (Nat.le_trans this (by omega))) h1
theorem Bd.mul {M a b : Nat} (h : Bd M) (ha : a ≤ M) (hb : b ≤ M) : L36 (a * b) := by
 have h1 := h.sq
 have := Nat.mul_le_mul ha hb
 exact Nat.lt_of_le_of_lt (Nat.le_trans this (by omega)) h1
theorem Bd.add {M a b c d : Nat} (h : Bd M) (ha : a ≤ M) (hb : b ≤ M) (hc : c ≤ M) (hd : d ≤ M) : L36 (a * b + c * d) := by
 have h1 := h.sq
 have := Nat.mul_le_mul ha hb; have := Nat.mul_le_mul hc hd
 exact Nat.lt_of_le_of_lt (by omega) h1
theorem vl25 {M : Nat} (hM : Bd M) (a b c d : Nat) (ha : a ≤ M) (hb : b ≤ M) (hc : c ≤ M) (hd : d ≤ M) (h1 : 0 < b) (h2 : 0 < d) : S25 2000 (lo a b) (lo c d) = some (lo (a * c) (b * d), 0) := by
 have a1 := Nat.le_trans (low_le1 a b) ha; have b1 := Nat.le_trans (low_le2 a b) hb
 have c1 := Nat.le_trans (low_le1 c d) hc; have d1 := Nat.le_trans (low_le2 c d) hd
 have p1 := low_pos (n := a) h1; have p2 := low_pos (n := c) h2
 have x1 := low_cross (n := a) h1; have x2 := low_cross (n := c) h2
 have m := v25 _ _ _ _ (hM.l36 a1) (hM.l36 b1) (hM.l36 c1) (hM.l36 d1) p1 p2 (low_cop h1) (low_cop h2) (hM.mul a1 c1) (hM.mul b1 d1)
 rw [lo_congr (Nat.mul_pos p1 p2) (Nat.mul_pos h1 h2) (n' := a * c) ?_] at m
 ·exact m
 ·rw [Nat.mul_mul_mul_comm, x1, x2, Nat.mul_mul_mul_comm]
theorem vl26 {M : Nat} (hM : Bd M) (a b c d : Nat) (ha : a ≤ M) (hb : b ≤ M) (hc : c ≤ M) (hd : d ≤ M) (h1 : 0 < b) (h2 : 0 < d) : S26 2000 (lo a b) (lo c d) = some (lo (a * d + c * b) (b * d), 0) := by
 have a1 := Nat.le_trans (low_le1 a b) ha; have b1 := Nat.le_trans (low_le2 a b) hb
 have c1 := Nat.le_trans (low_le1 c d) hc; have d1 := Nat.le_trans (low_le2 c d) hd
 have p1 := low_pos (n := a) h1; have p2 := low_pos (n := c) h2
 have x1 := low_cross (n := a) h1; have x2 := low_cross (n := c) h2
 have m := v26 _ _ _ _ (hM.l36 a1) (hM.l36 b1) (hM.l36 c1) (hM.l36 d1) p1 p2 (low_cop h1) (low_cop h2) (hM.add a1 d1 c1 b1) (hM.mul b1 d1)
 rw [lo_congr (Nat.mul_pos p1 p2) (Nat.mul_pos h1 h2) (n' := a * d + c * b) ?_] at m
 ·exact m
 ·generalize (low a b).1 = A at *; generalize (low a b).2 = B at *; generalize (low c d).1 = C at *; generalize (low c d).2 = D at *
  rw [Nat.add_mul, Nat.add_mul]
  congr 1
  ·rw [show A * D * (b * d) = A * b * (D * d) by simp only [Nat.mul_left_comm, Nat.mul_comm, Nat.mul_assoc], x1]
   simp only [Nat.mul_left_comm, Nat.mul_comm, Nat.mul_assoc]
  ·rw [show C * B * (b * d) = C * d * (B * b) by simp only [Nat.mul_left_comm, Nat.mul_comm, Nat.mul_assoc], x2]
   simp only [Nat.mul_left_comm, Nat.mul_comm, Nat.mul_assoc]
theorem vd26 {M : Nat} (hM : Bd M) (a c d : Nat) (ha : a ≤ M) (hc : c ≤ M) (hd : d ≤ M) (h1 : 0 < d) : S26 2000 (lo a d) (lo c d) = some (lo (a + c) d, 0) := by
 rw [vl26 hM a d c d ha hd hc hd h1 h1, ← Nat.add_mul]
 rw [lo_congr (Nat.mul_pos h1 h1) h1 (n' := a + c) (by rw [Nat.mul_assoc])]
theorem vl54 {M : Nat} (hM : Bd M) (a d : Nat) (ha : a ≤ M) (hd : d ≤ M) (h1 : 0 < d) : S54 2000 (lo a d) = some true :=
 vF54 (hM.l36 (Nat.le_trans (low_le1 a d) ha)) (hM.l36 (Nat.le_trans (low_le2 a d) hd)) (low_pos h1) (low_cop h1)
def rowG (f : Nat → Nat) (D N : Nat) : List Fra := (List.range N).map fun k => lo (f k) D
theorem rowG_succ (f : Nat → Nat) (D j : Nat) : rowG f D (j + 1) = rowG f D j ++ [lo (f j) D] := by simp [rowG, List.range_succ]
theorem rowG_len (f : Nat → Nat) (D j : Nat) : (rowG f D j).length = j := by simp [rowG]
theorem rowG_get {f : Nat → Nat} {D j i : Nat} (h : i < j) (z : Fra) : (rowG f D j).getD i z = lo (f i) D := by
 simp [rowG, List.getD_eq_getElem?_getD, h]
theorem rowG_drop (f : Nat → Nat) (D N k : Nat) : (rowG f D N).drop k = rowG (fun i => f (k + i)) D (N - k) := by
 unfold rowG
 apply List.ext_getElem?
 intro i
 simp only [List.getElem?_drop, List.getElem?_map, List.getElem?_range']
 by_cases h : k + i < N
 ·rw [List.getElem?_range h, List.getElem?_range (by omega)]
  rfl
 ·rw [List.getElem?_eq_none (by simp; omega), List.getElem?_eq_none (by simp; omega)]
  rfl
end Go.Fw.L51
