/- Products and sums of numbers, drawings from an urn. -/
import Derived.Test.YtnobiophckdjfaaFwHu51h
set_option linter.unusedVariables false
set_option linter.unusedSimpArgs false
namespace Go.Fw.L51
open Go Go.Fw
set_option maxRecDepth 100000
set_option linter.unusedSimpArgs false
set_option linter.unusedVariables false
theorem L36.add {a b c : Nat} (hc : L36 c) (h : a + b ≤ c) : L36 a ∧ L36 b := ⟨hc.le (by omega), hc.le (by omega)⟩
theorem v78 (a b : Nat) (ha : L36 a) (hb : L36 b) : S78 2000 (nd a, ()) (nd b, ()) = some (nd (a * b), ()) := by
 have h1 := ha.len; have h2 := hb.len; have h3 := len_mul a b
 unfold S78
 simp only [g78_3, g78_3b, g78, v103 a b (by omega) (by omega) (by omega), Option.bind_some]
theorem v50 (a b : Nat) (ha : L36 a) (hb : L36 b) : S50 2000 (nd a, ()) (nd b, ()) = some (nd (a + b), ()) := by
 have h1 := ha.len; have h2 := hb.len
 unfold S50
 simp only [g50_3, g50_3b, g50, v82 a b (by omega) (by omega), Option.bind_some]
theorem vM58 (a b : Nat) (ha : L36 a) (hb : L36 b) : S58 2000 (nd a, ()) (nd b, ()) = some ((nd (a * b), ()), 0) := by
 have h1 := ha.len; have h2 := hb.len; have h3 := len_mul a b
 exact v58 a b (by omega) (by omega) (by omega)
theorem vA59 (a b : Nat) (h : L36 (a + b)) : S59 2000 (nd a, ()) (nd b, ()) = some ((nd (a + b), ()), 0) := by
 have h1 := (h.le (Nat.le_add_right a b)).len; have h2 := (h.le (Nat.le_add_left b a)).len; have h3 := h.len
 exact v59 a b (by omega) (by omega) (by omega)
theorem ch36 {n : Nat} (hn : n ≤ 400) (k : Nat) : L36 (ch n k) := Nat.lt_of_le_of_lt (ch_le n k) (Nat.lt_of_le_of_lt (Nat.pow_le_pow_right (by decide) hn) (by decide +kernel))
abbrev zf : Fra := (false, ([], ()), ([], ()), ())
def badD (t m d k : Int) : Bool := decide (t < 0) || (decide (t > 400) || (decide (m < 0) || (decide (m > t) || (decide (d < 0) || (decide (d > t) || (decide (k < 0) || decide (k > d)))))))
theorem v62 (t m d k : Int) : S62 2000 t m d k = some (if badD t m d k then 6 else 0) := by
 unfold S62 badD
 simp only [g62_0, g62_1, g62_2, g62_4, g62_5, g62]
 cases decide (t < 0) with
 | true => rfl
 | false => cases decide (t > 400) with
   | true => rfl
   | false => cases decide (m < 0) with
     | true => rfl
     | false => cases decide (m > t) with
       | true => rfl
       | false => cases decide (d < 0) with
         | true => rfl
         | false => cases decide (d > t) with
           | true => rfl
           | false => cases decide (k < 0) with
             | true => rfl
             | false => cases decide (k > d) <;> rfl
theorem badD_nat {t m d k : Int} (h : badD t m d k = false) : ∃ t' m' d' k' : Nat, t = t' ∧ m = m' ∧ d = d' ∧ k = k' ∧ t' ≤ 400 ∧ m' ≤ t' ∧ d' ≤ t' ∧ k' ≤ d' := by
 simp only [badD, Bool.or_eq_false_iff, decide_eq_false_iff_not] at h
 obtain ⟨h1, h2, h3, h4, h5, h6, h7, h8⟩ := h
 exact ⟨t.toNat, m.toNat, d.toNat, k.toNat, by omega, by omega, by omega, by omega, by omega, by omega, by omega, by omega⟩
def hy (t m d j : Nat) : Nat := ch m j * ch (t - m) (d - j)
theorem hy_all {t m d : Nat} (h : m ≤ t) : su (hy t m d) (d + 1) = ch t d := by
 have := vander m (t - m) d
 rw [show m + (t - m) = t by omega] at this
 exact this
theorem hy_part {t m d : Nat} (h : m ≤ t) (k j : Nat) (hj : k + j ≤ d + 1) : su (fun i => hy t m d (k + i)) j ≤ ch t d := by
 rw [← hy_all h, show d + 1 = (k + j) + (d + 1 - (k + j)) by omega, su_split, su_split]
 omega
theorem hy_le {t m d j : Nat} (h : m ≤ t) (hj : j ≤ d) : hy t m d j ≤ ch t d := by
 have := hy_part (d := d) h j 1 (by omega)
 simpa [su] using this
theorem v63 (t m d k : Nat) (ht : t ≤ 400) (hm : m ≤ t) (hd : d ≤ t) (hk : k ≤ d) : S63 2000 (t : Int) (m : Int) (d : Int) (k : Int) = some (nd (hy t m d k), ()) := by
 have w1 : IntKind.i64.wrap ((t : Int) - (m : Int)) = ((t - m : Nat) : Int) := by rw [wrap_id (by omega)]; omega
 have w2 : IntKind.i64.wrap ((d : Int) - (k : Int)) = ((d - k : Nat) : Int) := by rw [wrap_id (by omega)]; omega
 have hs : ∀ n j : Nat, n ≤ 400 → S64 2000 (n : Int) (j : Int) = some (nd (ch n j), ()) := by
  intro n j hn
  rw [v64 _ _ (by omega)]
  by_cases hj : j ≤ n
  ·rw [if_pos (by omega), Int.toNat_natCast, Int.toNat_natCast]
  ·rw [if_neg (by omega), ch_gt (n := n) (k := j) (by omega)]
 unfold S63
 simp only [g63_2, g63_2b, g63, w1, w2, hs m k (by omega), hs (t - m) (d - k) (by omega), v78 _ _ (ch36 (n := m) (by omega) k) (ch36 (n := t - m) (by omega) (d - k)), Option.bind_some]
 rfl
theorem vs64 (n j : Nat) (hn : n ≤ 400) (hj : j ≤ n) : S64 2000 (n : Int) (j : Int) = some (nd (ch n j), ()) := by
 rw [v64 _ _ (by omega), if_pos (by omega), Int.toNat_natCast, Int.toNat_natCast]
theorem v27 (t m d k : Nat) (ht : t ≤ 400) (hm : m ≤ t) (hd : d ≤ t) (hk : k ≤ d) (hb : badD t m d k = false) : S27 2000 (t : Int) (m : Int) (d : Int) (k : Int) = some (lo (hy t m d k) (ch t d), 0) := by
 unfold S27
 simp only [g27_0, g27_5, g27_3, g27_6, g27_7, g27, v62, hb, v63 t m d k ht hm hd hk, vs64 t d ht hd, v44 _ _ ((ch36 ht d).le (hy_le hm hk)) (ch36 ht d) (ch_pos hd), Option.bind_some]
 rfl
theorem vb27 (t m d k : Int) (hb : badD t m d k = true) : S27 2000 t m d k = some (zf, 6) := by
 unfold S27
 simp only [g27_0, g27_5, g27_3, g27_6, g27_7, g27, v62, hb, Option.bind_some]
 rfl
theorem lhyt {t m d : Nat} (ht : t ≤ 400) (hm : m ≤ t) (hd : d ≤ t) (k0 : Nat) (x : Fra) : ∀ (n j : Nat), n + j = d + 1 - k0 → k0 ≤ d →
  ∀ {R : Type} (k : Int → Int → Int → Fra → List Int × Unit → Int → Option R) (mm : Nat), n < mm →
    l29_14 (S50 2000) (S63 2000) k mm (t : Int) (m : Int) (d : Int) x (nd (su (fun i => hy t m d (k0 + i)) j), ()) ((k0 + j : Nat) : Int) = k (t : Int) (m : Int) (d : Int) x (nd (su (fun i => hy t m d (k0 + i)) (d + 1 - k0)), ()) ((d + 1 : Nat) : Int) := by
 intro n
 induction n with
 | zero =>
   intro j hj hk R k mm hmm
   obtain ⟨mm, rfl⟩ : ∃ q, mm = q + 1 := ⟨mm - 1, by omega⟩
   have e0 : decide (((k0 + j : Nat) : Int) ≤ (d : Int)) = false := by simp; omega
   rw [l29_14]
   simp only [g29_0, g29_5, g29_3, g29_6, g29_7, g29_8, g29_10, g29_12, g29_13, g29_14, g29_16, g29_17, g29, e0, brB_false]
   rw [show j = d + 1 - k0 by omega, show k0 + (d + 1 - k0) = d + 1 by omega]
 | succ n ih =>
   intro j hj hk R k mm hmm
   obtain ⟨mm, rfl⟩ : ∃ q, mm = q + 1 := ⟨mm - 1, by omega⟩
   have e0 : decide (((k0 + j : Nat) : Int) ≤ (d : Int)) = true := by simp; omega
   have w1 : IntKind.i64.wrap (((k0 + j : Nat) : Int) + 1) = ((k0 + (j + 1) : Nat) : Int) := by rw [wrap_id (by omega)]; omega
   have b := L36.add (ch36 ht d) (hy_part (t := t) hm k0 (j + 1) (by omega))
   rw [l29_14]
   simp only [g29_0, g29_5, g29_3, g29_6, g29_7, g29_8, g29_10, g29_12, g29_13, g29_14, g29_16, g29_17, g29, e0, brB_true, v63 t m d (k0 + j) ht hm hd (by omega), v50 _ _ b.1 b.2, Option.bind_some, w1]
   exact ih (j + 1) (by omega) hk k mm (by omega)
theorem v29 (t m d k : Nat) (ht : t ≤ 400) (hm : m ≤ t) (hd : d ≤ t) (hk : k ≤ d) (hb : badD t m d k = false) : S29 2000 (t : Int) (m : Int) (d : Int) (k : Int) = some (lo (su (fun i => hy t m d (k + i)) (d + 1 - k)) (ch t d), 0) := by
 have z := v49 0 (by omega)
 simp only [Int.natCast_zero] at z
 have lp := fun {R : Type} (q : Int → Int → Int → Fra → List Int × Unit → Int → Option R) => lhyt ht hm hd k zf (d + 1 - k) 0 (by omega) hk q 2000 (by omega)
 simp only [Nat.add_zero, su] at lp
 unfold S29
 simp only [g29_0, g29_5, g29_3, g29_6, g29_7, g29_8, g29_10, g29_12, g29_13, g29_14, g29_16, g29_17, g29, v62, hb, Option.bind_some, z, Bool.false_eq_true, if_false, bne_self_eq_false, brB_false]
 refine (lp _).trans ?_
 simp only [vs64 t d ht hd, v44 _ _ ((ch36 ht d).le (hy_part hm k (d + 1 - k) (by omega))) (ch36 ht d) (ch_pos hd), Option.bind_some]
theorem vb29 (t m d k : Int) (hb : badD t m d k = true) : S29 2000 t m d k = some (zf, 6) := by
 unfold S29
 simp only [g29_0, g29_5, g29_3, g29_6, g29_7, g29_8, g29_10, g29_12, g29_13, g29_14, g29_16, g29_17, g29, v62, hb, Option.bind_some]
 rfl
end Go.Fw.L51
