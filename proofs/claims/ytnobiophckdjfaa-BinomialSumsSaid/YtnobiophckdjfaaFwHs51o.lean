/- Fractions in lowest terms: products, sums, sums of lists. -/
import Derived.Test.YtnobiophckdjfaaFwHs51n
set_option linter.unusedVariables false
set_option linter.unusedSimpArgs false
namespace Go.Fw.L51
open Go Go.Fw
set_option maxRecDepth 100000
set_option linter.unusedSimpArgs false
set_option linter.unusedVariables false
theorem lo_congr {n d n' d' : Nat} (hd : 0 < d) (hd' : 0 < d') (h : n * d' = n' * d) : lo n d = lo n' d' := by unfold lo; rw [low_eq hd hd' h]
theorem lo_one (n : Nat) : lo n 1 = fr n 1 := lo_fr (Nat.gcd_one_right n)
structure Bd (M : Nat) : Prop where
 pos : 0 < M
 sq : 2 * (M * M) < 10000 ^ 36
theorem Bd.l36 {M a : Nat} (h : Bd M) (ha : a ≤ M) : L36 a := by
 have h0 := h.pos
 have h1 := h.sq
 have : M ≤ M * M := Nat.le_mul_of_pos_left M h0
 exact Nat.lt_of_le_of_lt (Nat.le_trans ha (Nat.le_trans this (by omega))) h1
theorem Bd.mul {M a b : Nat} (h : Bd M) (ha : a ≤ M) (hb : b ≤ M) : L36 (a * b) := by
 have h1 := h.sq
 have := Nat.mul_le_mul ha hb
 exact Nat.lt_of_le_of_lt (Nat.le_trans this (by omega)) h1
theorem Bd.add {M a b c d : Nat} (h : Bd M) (ha : a ≤ M) (hb : b ≤ M) (hc : c ≤ M) (hd : d ≤ M) : L36 (a * b + c * d) := by
 have h1 := h.sq
 have := Nat.mul_le_mul ha hb; have := Nat.mul_le_mul hc hd
 exact Nat.lt_of_le_of_lt (by omega) h1
theorem vl25 {M : Nat} (hM : Bd M) (a b c d : Nat) (ha : a ≤ M) (hb : b ≤ M) (hc : c ≤ M) (hd : d ≤ M) (h1 : 0 < b) (h2 : 0 < d) : S25 2000 (lo a b) (lo c d) = some (lo (a * c) (b * d), 0) := by
 have a1 := Nat.le_trans (low_le1 a b) ha; have b1 := Nat.le_trans (low_le2 a b) hb
 have c1 := Nat.le_trans (low_le1 c d) hc; have d1 := Nat.le_trans (low_le2 c d) hd
 have p1 := low_pos (n := a) h1; have p2 := low_pos (n := c) h2
 have x1 := low_cross (n := a) h1; have x2 := low_cross (n := c) h2
 have m := v25 _ _ _ _ (hM.l36 a1) (hM.l36 b1) (hM.l36 c1) (hM.l36 d1) p1 p2 (low_cop h1) (low_cop h2) (hM.mul a1 c1) (hM.mul b1 d1)
 rw [lo_congr (Nat.mul_pos p1 p2) (Nat.mul_pos h1 h2) (n' := a * c) ?_] at m
 ·exact m
 ·rw [Nat.mul_mul_mul_comm, x1, x2, Nat.mul_mul_mul_comm]
theorem vl26 {M : Nat} (hM : Bd M) (a b c d : Nat) (ha : a ≤ M) (hb : b ≤ M) (hc : c ≤ M) (hd : d ≤ M) (h1 : 0 < b) (h2 : 0 < d) : S26 2000 (lo a b) (lo c d) = some (lo (a * d + c * b) (b * d), 0) := by
 have a1 := Nat.le_trans (low_le1 a b) ha; have b1 := Nat.le_trans (low_le2 a b) hb
 have c1 := Nat.le_trans (low_le1 c d) hc; have d1 := Nat.le_trans (low_le2 c d) hd
 have p1 := low_pos (n := a) h1; have p2 := low_pos (n := c) h2
 have x1 := low_cross (n := a) h1; have x2 := low_cross (n := c) h2
 have m := v26 _ _ _ _ (hM.l36 a1) (hM.l36 b1) (hM.l36 c1) (hM.l36 d1) p1 p2 (low_cop h1) (low_cop h2) (hM.add a1 d1 c1 b1) (hM.mul b1 d1)
 rw [lo_congr (Nat.mul_pos p1 p2) (Nat.mul_pos h1 h2) (n' := a * d + c * b) ?_] at m
 ·exact m
 ·generalize (low a b).1 = A at *; generalize (low a b).2 = B at *; generalize (low c d).1 = C at *; generalize (low c d).2 = D at *
  rw [Nat.add_mul, Nat.add_mul]
  congr 1
  ·rw [show A * D * (b * d) = A * b * (D * d) by simp only [Nat.mul_left_comm, Nat.mul_comm, Nat.mul_assoc], x1]
   simp only [Nat.mul_left_comm, Nat.mul_comm, Nat.mul_assoc]
  ·rw [show C * B * (b * d) = C * d * (B * b) by simp only [Nat.mul_left_comm, Nat.mul_comm, Nat.mul_assoc], x2]
   simp only [Nat.mul_left_comm, Nat.mul_comm, Nat.mul_assoc]
theorem vd26 {M : Nat} (hM : Bd M) (a c d : Nat) (ha : a ≤ M) (hc : c ≤ M) (hd : d ≤ M) (h1 : 0 < d) : S26 2000 (lo a d) (lo c d) = some (lo (a + c) d, 0) := by
 rw [vl26 hM a d c d ha hd hc hd h1 h1, ← Nat.add_mul]
 rw [lo_congr (Nat.mul_pos h1 h1) h1 (n' := a + c) (by rw [Nat.mul_assoc])]
theorem vl54 {M : Nat} (hM : Bd M) (a d : Nat) (ha : a ≤ M) (hd : d ≤ M) (h1 : 0 < d) : S54 2000 (lo a d) = some true :=
 vF54 (hM.l36 (Nat.le_trans (low_le1 a d) ha)) (hM.l36 (Nat.le_trans (low_le2 a d) hd)) (low_pos h1) (low_cop h1)
def rowG (f : Nat → Nat) (D N : Nat) : List Fra := (List.range N).map fun k => lo (f k) D
theorem rowG_succ (f : Nat → Nat) (D j : Nat) : rowG f D (j + 1) = rowG f D j ++ [lo (f j) D] := by simp [rowG, List.range_succ]
theorem rowG_len (f : Nat → Nat) (D j : Nat) : (rowG f D j).length = j := by simp [rowG]
theorem rowG_get {f : Nat → Nat} {D j i : Nat} (h : i < j) (z : Fra) : (rowG f D j).getD i z = lo (f i) D := by
 simp [rowG, List.getD_eq_getElem?_getD, h]
theorem rowG_drop (f : Nat → Nat) (D N k : Nat) : (rowG f D N).drop k = rowG (fun i => f (k + i)) D (N - k) := by
 unfold rowG
 apply List.ext_getElem?
 intro i
 simp only [List.getElem?_drop, List.getElem?_map, List.getElem?_range']
 by_cases h : k + i < N
 ·rw [List.getElem?_range h, List.getElem?_range (by omega)]
  rfl
 ·rw [List.getElem?_eq_none (by simp; omega), List.getElem?_eq_none (by simp; omega)]
  rfl
theorem lsum1 {M : Nat} (hM : Bd M) (f : Nat → Nat) (D N : Nat) (hD : D ≤ M) (h0 : 0 < D) (hN : N ≤ 1000) (hf : ∀ i, i < N → f i ≤ M) (x : Fra) : ∀ (u j : Nat), u + j = N →
  ∀ {R : Type} (k0 : Fra → Int → Option R) (k : List Fra → Fra → Int → Option R) (m : Nat), u < m →
    l67_10 (S54 2000) k0 k m (rowG f D N) x (j : Int) = k (rowG f D N) x (N : Int) := by
 have hl : ((rowG f D N).length : Int) = (N : Int) := by rw [rowG_len]
 intro u
 induction u with
 | zero =>
   intro j hj R k0 k m hm
   obtain ⟨m, rfl⟩ : ∃ q, m = q + 1 := ⟨m - 1, by omega⟩
   obtain rfl : j = N := by omega
   have e0 : decide ((j : Int) < (j : Int)) = false := by simp
   rw [l67_10]
   simp only [g67_0, g67_1, g67_2, g67_4, g67_5, g67_8, g67_9, g67_10, g67_12, g67_13, g67_14, g67_16, g67_17, g67_18, g67_20, g67_22, g67_23, g67_24, g67_26, g67_27, g67, hl, e0, brB_false]
 | succ u ih =>
   intro j hj R k0 k m hm
   obtain ⟨m, rfl⟩ : ∃ q, m = q + 1 := ⟨m - 1, by omega⟩
   have e0 : decide ((j : Int) < (N : Int)) = true := by simp; omega
   have w1 : IntKind.i64.wrap ((j : Int) + 1) = ((j + 1 : Nat) : Int) := by rw [wrap_id (by omega)]; omega
   have q : 0 ≤ (j : Int) ∧ (j : Int) < (N : Int) := ⟨by omega, by omega⟩
   rw [l67_10]
   simp only [g67_0, g67_1, g67_2, g67_4, g67_5, g67_8, g67_9, g67_10, g67_12, g67_13, g67_14, g67_16, g67_17, g67_18, g67_20, g67_22, g67_23, g67_24, g67_26, g67_27, g67, hl, e0, brB_true, if_pos q, Int.toNat_natCast, rowG_get (show j < N by omega), vl54 hM _ _ (hf j (by omega)) hD h0, Option.bind_some, Bool.not_true, brB_false, w1]
   exact ih (j + 1) (by omega) k0 k m (by omega)
theorem lsum2 {M : Nat} (hM : Bd M) (f : Nat → Nat) (D N : Nat) (hD : D ≤ M) (h0 : 0 < D) (hN : N ≤ 1000) (hf : su f N ≤ M) (x : Fra) : ∀ (u j : Nat), u + j = N →
  ∀ {R : Type} (k0 : Fra → Int → Option R) (k : List Fra → Fra → Fra → Int → Option R) (m : Nat), u < m →
    l67_24 (S26 2000) k0 k m (rowG f D N) x (lo (su f j) D) (j : Int) = k (rowG f D N) x (lo (su f N) D) (N : Int) := by
 have hl : ((rowG f D N).length : Int) = (N : Int) := by rw [rowG_len]
 intro u
 induction u with
 | zero =>
   intro j hj R k0 k m hm
   obtain ⟨m, rfl⟩ : ∃ q, m = q + 1 := ⟨m - 1, by omega⟩
   obtain rfl : j = N := by omega
   have e0 : decide ((j : Int) < (j : Int)) = false := by simp
   rw [l67_24]
   simp only [g67_0, g67_1, g67_2, g67_4, g67_5, g67_8, g67_9, g67_10, g67_12, g67_13, g67_14, g67_16, g67_17, g67_18, g67_20, g67_22, g67_23, g67_24, g67_26, g67_27, g67, hl, e0, brB_false]
 | succ u ih =>
   intro j hj R k0 k m hm
   obtain ⟨m, rfl⟩ : ∃ q, m = q + 1 := ⟨m - 1, by omega⟩
   have e0 : decide ((j : Int) < (N : Int)) = true := by simp; omega
   have w1 : IntKind.i64.wrap ((j : Int) + 1) = ((j + 1 : Nat) : Int) := by rw [wrap_id (by omega)]; omega
   have q : 0 ≤ (j : Int) ∧ (j : Int) < (N : Int) := ⟨by omega, by omega⟩
   have h1 : f j ≤ su f N := su_le (by omega)
   have h2 : su f j ≤ su f N := by rw [show N = j + (N - j) by omega, su_split]; omega
   rw [l67_24]
   simp only [g67_0, g67_1, g67_2, g67_4, g67_5, g67_8, g67_9, g67_10, g67_12, g67_13, g67_14, g67_16, g67_17, g67_18, g67_20, g67_22, g67_23, g67_24, g67_26, g67_27, g67, hl, e0, brB_true, if_pos q, Int.toNat_natCast, rowG_get (show j < N by omega), vd26 hM (su f j) (f j) D (by omega) (by omega) hD h0, Option.bind_some, bne_self_eq_false, brB_false, w1]
   exact ih (j + 1) (by omega) k0 k m (by omega)
theorem v94 {D : Nat} (h0 : 0 < D) : S94 2000 = some (lo 0 D) := by
 have o := v53 1 (by omega)
 rw [lo_congr h0 (show 0 < 1 by omega) (n' := 0) (by omega), lo_one]
 simp only [Int.natCast_one] at o
 unfold S94
 simp only [g94_2, g94_2b, g94, o, Option.bind_some, fr, nd_zero]
theorem v67 {M : Nat} (hM : Bd M) (f : Nat → Nat) (D N : Nat) (hD : D ≤ M) (h0 : 0 < D) (hN : N ≤ 1000) (hf : su f N ≤ M) : S67 2000 (rowG f D N) = some (lo (su f N) D, 0) := by
 have l1 := fun {R : Type} (x : Fra) (q0 : Fra → Int → Option R) (q : List Fra → Fra → Int → Option R) => lsum1 hM f D N hD h0 hN (fun i hi => Nat.le_trans (su_le hi) hf) x N 0 rfl q0 q 2000 (by omega)
 have l2 := fun {R : Type} (x : Fra) (q0 : Fra → Int → Option R) (q : List Fra → Fra → Fra → Int → Option R) => lsum2 hM f D N hD h0 hN hf x N 0 rfl q0 q 2000 (by omega)
 simp only [Int.natCast_zero, su] at l1 l2
 unfold S67
 simp only [g67_0, g67_1, g67_2, g67_4, g67_5, g67_8, g67_9, g67_10, g67_12, g67_13, g67_14, g67_16, g67_17, g67_18, g67_20, g67_22, g67_23, g67_24, g67_26, g67_27, g67]
 refine (l1 _ _ _).trans ?_
 simp only [g67_0, g67_1, g67_2, g67_4, g67_5, g67_8, g67_9, g67_10, g67_12, g67_13, g67_14, g67_16, g67_17, g67_18, g67_20, g67_22, g67_23, g67_24, g67_26, g67_27, g67, v94 h0, Option.bind_some]
 exact l2 _ _ _
theorem v32 {M : Nat} (hM : Bd M) (f : Nat → Nat) (D N : Nat) (hD : D ≤ M) (h0 : 0 < D) (hN : N ≤ 1000) (hf : su f N ≤ M) : S32 2000 (rowG f D N) = some (lo (su f N) D) := by
 unfold S32
 simp only [g32_6, g32_2, g32_3, g32_5, g32_6b, g32, v67 hM f D N hD h0 hN hf, Option.bind_some, bne_self_eq_false, brB_false]
theorem v31 (n : Nat) (hn : n ≤ 1000) : S31 2000 (lo n 1) (n : Int) = some true := by
 have o := v23 n 1 (by omega) (by omega) (by omega)
 simp only [Int.natCast_one] at o
 unfold S31
 simp only [g31_3, g31_3b, g31, o, Option.bind_some, beq_self_eq_true, brB_true, vL21 n 1 (small36 (by omega)) (small36 (by omega))]
end Go.Fw.L51
