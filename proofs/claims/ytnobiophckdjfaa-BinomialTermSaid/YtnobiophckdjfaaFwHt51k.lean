/- Terms, tails, rows, means, modes, ratios. -/
import Derived.Test.YtnobiophckdjfaaFwHt51j
import Derived.Test.YtnobiophckdjfaaFwB5
set_option linter.unusedVariables false
set_option linter.unusedSimpArgs false
namespace Go.Fw.L51
open Go Go.Fw
set_option maxRecDepth 100000
set_option linter.unusedSimpArgs false
set_option linter.unusedVariables false
theorem ltail {n a d : Nat} (h : Chn n a d) (k0 : Nat) (x : Fra) : ∀ (u j : Nat), u + j = n + 1 - k0 → k0 ≤ n →
  ∀ {R : Type} (k : Int → Fra → Int → Int → List Int × Unit → Int → Option R) (mm : Nat), u < mm →
    l19_13 (S45 2000) (S50 2000) k mm (n : Int) x (a : Int) (d : Int) (nd (su (fun i => sh n a d (k0 + i)) j), ()) ((k0 + j : Nat) : Int) = k (n : Int) x (a : Int) (d : Int) (nd (su (fun i => sh n a d (k0 + i)) (n + 1 - k0)), ()) ((n + 1 : Nat) : Int) := by
 have hn := h.n6
 intro u
 induction u with
 | zero =>
   intro j hj hk R k mm hmm
   obtain ⟨mm, rfl⟩ : ∃ q, mm = q + 1 := ⟨mm - 1, by omega⟩
   have e0 : decide (((k0 + j : Nat) : Int) ≤ (n : Int)) = false := by simp; omega
   rw [l19_13]
   simp only [g19_16, g19_2, g19_3, g19_5, g19_6, g19_7, g19_9, g19_11, g19_12, g19_13, g19_15, g19_16b, g19, e0, brB_false]
   rw [show j = n + 1 - k0 by omega, show k0 + (n + 1 - k0) = n + 1 by omega]
 | succ u ih =>
   intro j hj hk R k mm hmm
   obtain ⟨mm, rfl⟩ : ∃ q, mm = q + 1 := ⟨mm - 1, by omega⟩
   have e0 : decide (((k0 + j : Nat) : Int) ≤ (n : Int)) = true := by simp; omega
   have w1 : IntKind.i64.wrap (((k0 + j : Nat) : Int) + 1) = ((k0 + (j + 1) : Nat) : Int) := by rw [wrap_id (by omega)]; omega
   have b := L36.add h.l36 (sh_part (n := n) h.le k0 (j + 1) (by omega))
   rw [l19_13]
   simp only [g19_16, g19_2, g19_3, g19_5, g19_6, g19_7, g19_9, g19_11, g19_12, g19_13, g19_15, g19_16b, g19, e0, brB_true, v45 n a d (k0 + j) h (by omega), v50 _ _ b.1 b.2, Option.bind_some, w1]
   exact ih (j + 1) (by omega) hk k mm (by omega)
theorem ltailr {n a d : Nat} (h : Chn n a d) (k0 k1 : Nat) (h1 : k1 ≤ n) (x : Fra) : ∀ (u j : Nat), u + j = k1 + 1 - k0 → k0 ≤ k1 →
  ∀ {R : Type} (k : Int → Int → Fra → Fra → List Int × Unit → Int → Option R) (mm : Nat), u < mm →
    l48_9 (S59 2000) (S71 2000) k mm (n : Int) (k1 : Int) (fr a d) x (nd (su (fun i => sh n a d (k0 + i)) j), ()) ((k0 + j : Nat) : Int) = k (n : Int) (k1 : Int) (fr a d) x (nd (su (fun i => sh n a d (k0 + i)) (k1 + 1 - k0)), ()) ((k1 + 1 : Nat) : Int) := by
 have hn := h.n6
 intro u
 induction u with
 | zero =>
   intro j hj hk R k mm hmm
   obtain ⟨mm, rfl⟩ : ∃ q, mm = q + 1 := ⟨mm - 1, by omega⟩
   have e0 : decide (((k0 + j : Nat) : Int) ≤ (k1 : Int)) = false := by simp; omega
   rw [l48_9]
   simp only [g48_14, g48_2, g48_3, g48_5, g48_7, g48_8, g48_9, g48_13, g48_14b, g48, e0, brB_false]
   rw [show j = k1 + 1 - k0 by omega, show k0 + (k1 + 1 - k0) = k1 + 1 by omega]
 | succ u ih =>
   intro j hj hk R k mm hmm
   obtain ⟨mm, rfl⟩ : ∃ q, mm = q + 1 := ⟨mm - 1, by omega⟩
   have e0 : decide (((k0 + j : Nat) : Int) ≤ (k1 : Int)) = true := by simp; omega
   have w1 : IntKind.i64.wrap (((k0 + j : Nat) : Int) + 1) = ((k0 + (j + 1) : Nat) : Int) := by rw [wrap_id (by omega)]; omega
   have b := sh_part (n := n) h.le k0 (j + 1) (by omega)
   have a3 : S59 2000 (nd (su (fun i => sh n a d (k0 + i)) j), ()) (nd (sh n a d (k0 + j)), ()) = some ((nd (su (fun i => sh n a d (k0 + i)) (j + 1)), ()), 0) := vA59 _ _ (h.l36.le b)
   rw [l48_9]
   simp only [g48_14, g48_2, g48_3, g48_5, g48_7, g48_8, g48_9, g48_13, g48_14b, g48, e0, brB_true, v71 n a d (k0 + j) h (by omega), a3, Option.bind_some, w1]
   exact ih (j + 1) (by omega) hk k mm (by omega)
theorem v48 (n a d k0 k1 : Nat) (h : Chn n a d) (h0 : k0 ≤ k1) (h1 : k1 ≤ n) : S48 2000 (n : Int) (k0 : Int) (k1 : Int) (fr a d) = some (lo (su (fun i => sh n a d (k0 + i)) (k1 + 1 - k0)) (d ^ n)) := by
 have hn := h.n6; have hd := h.d3
 have z := v53 0 (by omega)
 simp only [Int.natCast_zero] at z
 have lp := fun {R : Type} (q : Int → Int → Fra → Fra → List Int × Unit → Int → Option R) => ltailr h k0 k1 h1 zf (k1 + 1 - k0) 0 (by omega) h0 q 2000 (by omega)
 simp only [Nat.add_zero, su] at lp
 unfold S48
 simp only [g48_14, g48_2, g48_3, g48_5, g48_7, g48_8, g48_9, g48_13, g48_14b, g48, Option.bind_some, z]
 refine (lp _).trans ?_
 have pw := v80 d n (small36 (by omega)) (by omega) h.l36
 simp only [fr, pw, v72 _ _ (h.l36.le (sh_part h.le k0 (k1 + 1 - k0) (by omega))) h.l36 (Nat.pow_pos h.pos), Option.bind_some]
theorem term1 (n a d k : Nat) : su (fun i => sh n a d (k + i)) (k + 1 - k) = sh n a d k := by
 rw [show k + 1 - k = 1 by omega]; simp [su]
theorem vT17 (p : Fra) (n a d k : Nat) (h : Chn n a d) (hk : k ≤ n) (hg : S43 2000 (n : Int) (k : Int) 200 (n : Int) p = some ((a : Int), (d : Int), 0)) : S17 2000 (n : Int) (k : Int) p = some (lo (sh n a d k) (d ^ n), 0) := by
 have hn := h.n6; have hd := h.d3
 unfold S17
 simp only [g17_6, g17_2, g17_3, g17_5, g17_6b, g17, hg, v45 n a d k h hk, v46 d n (by omega) (by omega) h.l36, v44 _ _ (h.l36.le (sh_le h.le hk)) h.l36 (Nat.pow_pos h.pos), Option.bind_some, bne_self_eq_false, brB_false]
theorem vT19 (p : Fra) (n a d k : Nat) (h : Chn n a d) (hk : k ≤ n) (hg : S43 2000 (n : Int) (k : Int) 200 (n : Int) p = some ((a : Int), (d : Int), 0)) : S19 2000 (n : Int) (k : Int) p = some (lo (su (fun i => sh n a d (k + i)) (n + 1 - k)) (d ^ n), 0) := by
 have hn := h.n6; have hd := h.d3
 have z := v49 0 (by omega)
 simp only [Int.natCast_zero] at z
 have lp := fun {R : Type} (q : Int → Fra → Int → Int → List Int × Unit → Int → Option R) => ltail h k zf (n + 1 - k) 0 (by omega) hk q 2000 (by omega)
 simp only [Nat.add_zero, su] at lp
 unfold S19
 simp only [g19_16, g19_2, g19_3, g19_5, g19_6, g19_7, g19_9, g19_11, g19_12, g19_13, g19_15, g19_16b, g19, hg, z, Option.bind_some, bne_self_eq_false, brB_false]
 refine (lp _).trans ?_
 simp only [v46 d n (by omega) (by omega) h.l36, v44 _ _ (h.l36.le (sh_part h.le k (n + 1 - k) (by omega))) h.l36 (Nat.pow_pos h.pos), Option.bind_some]
theorem vE17 (p : Fra) (n k e : Int) (he : e ≠ 0) (hg : S43 2000 n k 200 n p = some (0, 0, e)) : S17 2000 n k p = some (zf, e) := by
 have h : (e != (0 : Int)) = true := by simpa using he
 unfold S17
 simp only [g17_6, g17_2, g17_3, g17_5, g17_6b, g17, hg, h, Option.bind_some, brB_true]
theorem vE19 (p : Fra) (n k e : Int) (he : e ≠ 0) (hg : S43 2000 n k 200 n p = some (0, 0, e)) : S19 2000 n k p = some (zf, e) := by
 have h : (e != (0 : Int)) = true := by simpa using he
 unfold S19
 simp only [g19_16, g19_2, g19_3, g19_5, g19_6, g19_7, g19_9, g19_11, g19_12, g19_13, g19_15, g19_16b, g19, hg, h, Option.bind_some, brB_true]
theorem vT18 (n a d k : Nat) (h : Chn n a d) (hk : k ≤ n) (hg : S47 2000 (fr a d) (n : Int) 200 (k : Int) (n : Int) = some 0) : S18 2000 (n : Int) (k : Int) (fr a d) = some (lo (sh n a d k) (d ^ n), 0) := by
 unfold S18
 simp only [g18_0, g18_5, g18_3, g18_6, g18_7, g18, hg, v48 n a d k k h (Nat.le_refl _) hk, term1, Option.bind_some, bne_self_eq_false, brB_false]
theorem vT20 (n a d k : Nat) (h : Chn n a d) (hk : k ≤ n) (hg : S47 2000 (fr a d) (n : Int) 200 (k : Int) (n : Int) = some 0) : S20 2000 (n : Int) (k : Int) (fr a d) = some (lo (su (fun i => sh n a d (k + i)) (n + 1 - k)) (d ^ n), 0) := by
 unfold S20
 simp only [g20_0, g20_5, g20_3, g20_6, g20_7, g20, hg, v48 n a d k n h hk (Nat.le_refl _), Option.bind_some, bne_self_eq_false, brB_false]
theorem vE18 (p : Fra) (n k e : Int) (he : e ≠ 0) (hg : S47 2000 p n 200 k n = some e) : S18 2000 n k p = some (zf, e) := by
 have h : (e != (0 : Int)) = true := by simpa using he
 unfold S18
 simp only [g18_0, g18_5, g18_3, g18_6, g18_7, g18, hg, h, Option.bind_some, brB_true]
theorem vE20 (p : Fra) (n k e : Int) (he : e ≠ 0) (hg : S47 2000 p n 200 k n = some e) : S20 2000 n k p = some (zf, e) := by
 have h : (e != (0 : Int)) = true := by simpa using he
 unfold S20
 simp only [g20_0, g20_5, g20_3, g20_6, g20_7, g20, hg, h, Option.bind_some, brB_true]
theorem v16 (n : Int) : S16 2000 n = some (decide (n ≤ 40) || decide (n > 200)) := by
 unfold S16
 simp only [g16_2, g16_2b, g16]
 cases decide (n ≤ 40) <;> rfl
theorem vLs (n d : Nat) (h : L36 d) (hn : n ≤ d) : S21 2000 (lo n d) (lo n d) = some true := vL21 n d (h.le hn) h
theorem main4 (u : Int × (Int × Unit)) (p : Fra) (i0 : InR (.pair (.int .i64) (.pair (.int .i64) .unit)) u) (i1 : InR (.pair .bool (.pair (.pair (.sl (.int .i64)) .unit) (.pair (.pair (.sl (.int .i64)) .unit) .unit))) p) : S4 2000 u p = some true := by
 obtain ⟨n, k, _⟩ := u
 have e8 : S11 2000 = some true := rfl
 obtain ⟨s, ⟨N, u1⟩, ⟨D, u2⟩, u3⟩ := p
 have hN : N.length ≤ maxLen := i1.2.1.1.1
 have hD : D.length ≤ maxLen := i1.2.2.1.1.1
 unfold maxLen at hN hD
 have few := v12 (s, (N, u1), (D, u2), u3) (by simp only; omega) (by simp only; omega)
 simp only at few
 unfold S4
 simp only [g4_0, g4_1, g4_2, g4_9, g4_10, g4, e8, v16, few, Option.bind_some, Bool.not_true, brB_false]
 by_cases hs : n ≤ 40 ∨ n > 200
 ·have e1 : (decide (n ≤ 40) || decide (n > 200)) = true := by simpa using hs
  simp only [e1, Bool.not_true, brB_false]
  by_cases hl : IntKind.i64.wrap ((N.length : Int) + (D.length : Int)) ≤ 10
  ·simp only [hl, decide_true, Bool.not_true, brB_false]
   rcases givenP (s, (N, u1), (D, u2), u3) (few_ok hl) n k 200 n with ⟨e, h0, h1, h2⟩ | ⟨a, d, hp, g1, g2, g3, g4, b1, b2, b3, b4, h1, h2⟩
   ·simp only [vE17 _ n k e h0 h1, vE19 _ n k e h0 h1, vE18 _ n k e h0 h2, vE20 _ n k e h0 h2, Option.bind_some, beq_self_eq_true, brB_true, vE21]
   ·obtain ⟨n, rfl⟩ := Int.eq_ofNat_of_zero_le b1
    obtain ⟨k, rfl⟩ := Int.eq_ofNat_of_zero_le b3
    have hk : k ≤ n := by omega
    have hc : Chn n a d := Chn.mk40 g1 g2 g3 (by omega)
    rw [hp] at h1 h2 ⊢
    simp only [vT17 _ n a d k hc hk h1, vT19 _ n a d k hc hk h1, vT18 n a d k hc hk h2, vT20 n a d k hc hk h2, Option.bind_some, beq_self_eq_true, brB_true, vLs _ _ hc.l36 (sh_le hc.le hk), vLs _ _ hc.l36 (sh_part hc.le k (n + 1 - k) (by omega))]
  ·simp only [hl, decide_false, Bool.not_false, brB_true]
 ·have e1 : (decide (n ≤ 40) || decide (n > 200)) = false := by simp; omega
  simp only [e1, Bool.not_false, brB_true]
end Go.Fw.L51
