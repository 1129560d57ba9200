/- Rows of terms. -/
import Derived.Test.YtnobiophckdjfaaFwHr51k
set_option linter.unusedVariables false
set_option linter.unusedSimpArgs false
namespace Go.Fw.L51
open Go Go.Fw
set_option maxRecDepth 100000
set_option linter.unusedSimpArgs false
set_option linter.unusedVariables false
def rowL (n a d j : Nat) : List Fra := (List.range j).map fun k => lo (sh n a d k) (d ^ n)
theorem rowL_succ (n a d j : Nat) : rowL n a d (j + 1) = rowL n a d j ++ [lo (sh n a d j) (d ^ n)] := by simp [rowL, List.range_succ]
theorem rowL_len (n a d j : Nat) : (rowL n a d j).length = j := by simp [rowL]
theorem rowL_get {n a d j i : Nat} (h : i < j) (z : Fra) : (rowL n a d j).getD i z = lo (sh n a d i) (d ^ n) := by
 simp [rowL, List.getD_eq_getElem?_getD, h]
theorem lrow {n a d : Nat} (h : Chn n a d) : ∀ (u j : Nat), u + j = n + 1 →
  ∀ {R : Type} (k0 : List Fra → Int → Option R) (k : Int → Int → Int → List Fra → Int → Int → Option R) (m : Nat), u < m →
    l13_19 (S44 2000) (S45 2000) (S46 2000) k0 k m (n : Int) (a : Int) (d : Int) (rowL n a d j) ((n + 1 : Nat) : Int) (j : Int) = k (n : Int) (a : Int) (d : Int) (rowL n a d (n + 1)) ((n + 1 : Nat) : Int) ((n + 1 : Nat) : Int) := by
 have hn := h.n6; have hd := h.d3
 intro u
 induction u with
 | zero =>
   intro j hj R k0 k m hm
   obtain ⟨m, rfl⟩ : ∃ q, m = q + 1 := ⟨m - 1, by omega⟩
   obtain rfl : j = n + 1 := by omega
   have e0 : decide (((n + 1 : Nat) : Int) < ((n + 1 : Nat) : Int)) = false := by simp
   rw [l13_19]
   simp only [g13_22, g13_2, g13_3, g13_5, g13_6, g13_7, g13_15, g13_11, g13_12, g13_14, g13_17, g13_18, g13_19, g13_21, g13_22b, g13, e0, brB_false]
 | succ u ih =>
   intro j hj R k0 k m hm
   obtain ⟨m, rfl⟩ : ∃ q, m = q + 1 := ⟨m - 1, by omega⟩
   have e0 : decide ((j : Int) < ((n + 1 : Nat) : Int)) = true := by simp; omega
   have w1 : IntKind.i64.wrap ((j : Int) + 1) = ((j + 1 : Nat) : Int) := by rw [wrap_id (by omega)]; omega
   have lg : (rowL n a d j).length + [lo (sh n a d j) (d ^ n)].length ≤ 2513169434916 := by rw [rowL_len]; simp only [List.length_cons, List.length_nil]; omega
   rw [l13_19]
   simp only [g13_22, g13_2, g13_3, g13_5, g13_6, g13_7, g13_15, g13_11, g13_12, g13_14, g13_17, g13_18, g13_19, g13_21, g13_22b, g13, e0, brB_true, v45 n a d j h (by omega), v46 d n (by omega) (by omega) h.l36, v44 _ _ (h.l36.le (sh_le h.le (show j ≤ n by omega))) h.l36 (Nat.pow_pos h.pos), Option.bind_some, bne_self_eq_false, brB_false, if_pos lg, w1, ← rowL_succ]
   exact ih (j + 1) (by omega) k0 k m (by omega)
theorem lrowr {n a d : Nat} (h : Chn n a d) : ∀ (u j : Nat), u + j = n + 1 →
  ∀ {R : Type} (k : Int → Fra → List Fra → Int → Option R) (m : Nat), u < m →
    l14_14 (S48 2000) k m (n : Int) (fr a d) (rowL n a d j) (j : Int) = k (n : Int) (fr a d) (rowL n a d (n + 1)) ((n + 1 : Nat) : Int) := by
 have hn := h.n6; have hd := h.d3
 intro u
 induction u with
 | zero =>
   intro j hj R k m hm
   obtain ⟨m, rfl⟩ : ∃ q, m = q + 1 := ⟨m - 1, by omega⟩
   obtain rfl : j = n + 1 := by omega
   have e0 : decide (((n + 1 : Nat) : Int) ≤ (n : Int)) = false := by simp; omega
   rw [l14_14]
   simp only [g14_0, g14_5, g14_3, g14_6, g14_7, g14_8, g14_10, g14_12, g14_13, g14_14, g14_16, g14_17, g14, e0, brB_false]
 | succ u ih =>
   intro j hj R k m hm
   obtain ⟨m, rfl⟩ : ∃ q, m = q + 1 := ⟨m - 1, by omega⟩
   have e0 : decide ((j : Int) ≤ (n : Int)) = true := by simp; omega
   have w1 : IntKind.i64.wrap ((j : Int) + 1) = ((j + 1 : Nat) : Int) := by rw [wrap_id (by omega)]; omega
   have lg : (rowL n a d j).length + [lo (sh n a d j) (d ^ n)].length ≤ 2513169434916 := by rw [rowL_len]; simp only [List.length_cons, List.length_nil]; omega
   rw [l14_14]
   simp only [g14_0, g14_5, g14_3, g14_6, g14_7, g14_8, g14_10, g14_12, g14_13, g14_14, g14_16, g14_17, g14, e0, brB_true, v48 n a d j j h (Nat.le_refl _) (by omega), term1, Option.bind_some, if_pos lg, w1, ← rowL_succ]
   exact ih (j + 1) (by omega) k m (by omega)
theorem vT13 (p : Fra) (n a d : Nat) (h : Chn n a d) (hg : S43 2000 (n : Int) 0 60 0 p = some ((a : Int), (d : Int), 0)) : S13 2000 (n : Int) p = some (rowL n a d (n + 1), 0) := by
 have hn := h.n6
 have w1 : IntKind.i64.wrap ((n : Int) + 1) = ((n + 1 : Nat) : Int) := by rw [wrap_id (by omega)]; omega
 have lp := fun {R : Type} (q0 : List Fra → Int → Option R) (q : Int → Int → Int → List Fra → Int → Int → Option R) => lrow h (n + 1) 0 rfl q0 q 2000 (by omega)
 have r0 : rowL n a d 0 = [] := rfl
 simp only [r0, Int.natCast_zero] at lp
 unfold S13
 simp only [g13_22, g13_2, g13_3, g13_5, g13_6, g13_7, g13_15, g13_11, g13_12, g13_14, g13_17, g13_18, g13_19, g13_21, g13_22b, g13, hg, Option.bind_some, bne_self_eq_false, brB_false, w1]
 exact lp _ _
theorem vE13 (p : Fra) (n e : Int) (he : e ≠ 0) (hg : S43 2000 n 0 60 0 p = some (0, 0, e)) : S13 2000 n p = some ([], e) := by
 have h : (e != (0 : Int)) = true := by simpa using he
 unfold S13
 simp only [g13_22, g13_2, g13_3, g13_5, g13_6, g13_7, g13_15, g13_11, g13_12, g13_14, g13_17, g13_18, g13_19, g13_21, g13_22b, g13, hg, h, Option.bind_some, brB_true]
theorem vT14 (n a d : Nat) (h : Chn n a d) (hg : S47 2000 (fr a d) (n : Int) 60 0 0 = some 0) : S14 2000 (n : Int) (fr a d) = some (rowL n a d (n + 1), 0) := by
 have hn := h.n6
 have lp := fun {R : Type} (q : Int → Fra → List Fra → Int → Option R) => lrowr h (n + 1) 0 rfl q 2000 (by omega)
 have r0 : rowL n a d 0 = [] := rfl
 simp only [r0, Int.natCast_zero] at lp
 unfold S14
 simp only [g14_0, g14_5, g14_3, g14_6, g14_7, g14_8, g14_10, g14_12, g14_13, g14_14, g14_16, g14_17, g14, hg, Option.bind_some, bne_self_eq_false, brB_false]
 exact lp _
theorem vE14 (p : Fra) (n e : Int) (he : e ≠ 0) (hg : S47 2000 p n 60 0 0 = some e) : S14 2000 n p = some ([], e) := by
 have h : (e != (0 : Int)) = true := by simpa using he
 unfold S14
 simp only [g14_0, g14_5, g14_3, g14_6, g14_7, g14_8, g14_10, g14_12, g14_13, g14_14, g14_16, g14_17, g14, hg, h, Option.bind_some, brB_true]
theorem lsame {n a d : Nat} (h : Chn n a d) (N : Nat) (hN : N ≤ n + 1) : ∀ (u j : Nat), u + j = N →
  ∀ {R : Type} (k0 : Bool → Option R) (k : List Fra → List Fra → Int → Option R) (m : Nat), u < m →
    l15_13 (S21 2000) k0 k m (rowL n a d N) (rowL n a d N) (j : Int) = k (rowL n a d N) (rowL n a d N) (N : Int) := by
 have hn := h.n6
 have hl : ((rowL n a d N).length : Int) = (N : Int) := by rw [rowL_len]
 intro u
 induction u with
 | zero =>
   intro j hj R k0 k m hm
   obtain ⟨m, rfl⟩ : ∃ q, m = q + 1 := ⟨m - 1, by omega⟩
   obtain rfl : j = N := by omega
   have e0 : decide ((j : Int) < (j : Int)) = false := by simp
   rw [l15_13]
   simp only [g15_0, g15_1, g15_2, g15_4, g15_5, g15_7, g15_8, g15_11, g15_12, g15_13, g15_15, g15_16, g15, hl, e0, brB_false]
 | succ u ih =>
   intro j hj R k0 k m hm
   obtain ⟨m, rfl⟩ : ∃ q, m = q + 1 := ⟨m - 1, by omega⟩
   have e0 : decide ((j : Int) < (N : Int)) = true := by simp; omega
   have w1 : IntKind.i64.wrap ((j : Int) + 1) = ((j + 1 : Nat) : Int) := by rw [wrap_id (by omega)]; omega
   have q : 0 ≤ (j : Int) ∧ (j : Int) < (N : Int) := ⟨by omega, by omega⟩
   rw [l15_13]
   simp only [g15_0, g15_1, g15_2, g15_4, g15_5, g15_7, g15_8, g15_11, g15_12, g15_13, g15_15, g15_16, g15, hl, e0, brB_true, if_pos q, Int.toNat_natCast, rowL_get (show j < N by omega), vLs _ _ h.l36 (sh_le h.le (show j ≤ n by omega)), Option.bind_some, Bool.not_true, brB_false, w1]
   exact ih (j + 1) (by omega) k0 k m (by omega)
theorem v15 {n a d : Nat} (h : Chn n a d) (N : Nat) (hN : N ≤ n + 1) : S15 2000 (rowL n a d N) (rowL n a d N) = some true := by
 have hn := h.n6
 have lp := fun {R : Type} (q0 : Bool → Option R) (q : List Fra → List Fra → Int → Option R) => lsame h N hN N 0 rfl q0 q 2000 (by omega)
 simp only [Int.natCast_zero] at lp
 unfold S15
 simp only [g15_0, g15_1, g15_2, g15_4, g15_5, g15_7, g15_8, g15_11, g15_12, g15_13, g15_15, g15_16, g15, bne_self_eq_false, brB_false]
 exact lp _ _
theorem vE15 : S15 2000 [] [] = some true := by
 have h : Chn 0 0 1 := Chn.mk40 (by omega) (by omega) (by omega) (by omega)
 exact v15 h 0 (by omega)
theorem main3 (n : Int) (p : Fra) (i0 : InR (.int .i64) n) (i1 : InR (.pair .bool (.pair (.pair (.sl (.int .i64)) .unit) (.pair (.pair (.sl (.int .i64)) .unit) .unit))) p) : S3 2000 n p = some true := by
 have e8 : S11 2000 = some true := rfl
 obtain ⟨s, ⟨N, u1⟩, ⟨D, u2⟩, u3⟩ := p
 have hN : N.length ≤ maxLen := i1.2.1.1.1
 have hD : D.length ≤ maxLen := i1.2.2.1.1.1
 unfold maxLen at hN hD
 have few := v12 (s, (N, u1), (D, u2), u3) (by simp only; omega) (by simp only; omega)
 simp only at few
 unfold S3
 simp only [g3_0, g3_1, g3_2, g3_7, g3_8, g3, e8, few, Option.bind_some, Bool.not_true, brB_false]
 by_cases hs : n ≤ 16 ∨ n > 60
 ·have red : ∀ {R : Type} (x y : R), brB (decide (n > 16)) (brB (decide (n ≤ 60)) x y) y = y := by
   intro R x y
   rcases hs with h | h
   ·have : decide (n > 16) = false := decide_eq_false (by omega)
    rw [this, brB_false]
   ·have e1 : decide (n > 16) = true := decide_eq_true (by omega)
    have e2 : decide (n ≤ 60) = false := decide_eq_false (by omega)
    rw [e1, e2, brB_true, brB_false]
  rw [red]
  by_cases hl : IntKind.i64.wrap ((N.length : Int) + (D.length : Int)) ≤ 10
  ·simp only [hl, decide_true, Bool.not_true, brB_false]
   rcases givenP (s, (N, u1), (D, u2), u3) (few_ok hl) n 0 60 0 with ⟨e, h0, h1, h2⟩ | ⟨a, d, hp, g1, g2, g3, g4, b1, b2, b3, b4, h1, h2⟩
   ·simp only [vE13 _ n e h0 h1, vE14 _ n e h0 h2, Option.bind_some, beq_self_eq_true, brB_true, vE15]
   ·obtain ⟨n, rfl⟩ := Int.eq_ofNat_of_zero_le b1
    have hc : Chn n a d := Chn.mk40 g1 g2 g3 (by omega)
    rw [hp] at h1 h2 ⊢
    simp only [vT13 _ n a d hc h1, vT14 n a d hc h2, Option.bind_some, beq_self_eq_true, brB_true, v15 hc (n + 1) (Nat.le_refl _)]
  ·simp only [hl, decide_false, Bool.not_false, brB_true]
 ·have e1 : decide (n > 16) = true := decide_eq_true (by omega)
  have e2 : decide (n ≤ 60) = true := decide_eq_true (by omega)
  simp only [e1, e2, brB_true, Option.bind_some]
end Go.Fw.L51
