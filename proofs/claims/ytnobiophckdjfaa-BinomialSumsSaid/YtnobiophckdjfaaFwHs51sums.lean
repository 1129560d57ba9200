/- BinomialSums. -/
import Derived.Test.YtnobiophckdjfaaFwHs51o
import Derived.Test.YtnobiophckdjfaaFwHs51row
set_option linter.unusedVariables false
set_option linter.unusedSimpArgs false
namespace Go.Fw.L51
open Go Go.Fw
set_option maxRecDepth 100000
set_option linter.unusedSimpArgs false
set_option linter.unusedVariables false
theorem am_max (f : Nat → Nat) (j : Nat) : ∀ i, i ≤ j → f i ≤ f (am f j) := by
 induction j with
 | zero => intro i hi; obtain rfl : i = 0 := by omega
           exact Nat.le_refl _
 | succ j ih =>
   intro i hi
   by_cases c : f (am f j) < f (j + 1)
   ·rw [show am f (j + 1) = j + 1 from if_pos c]
    by_cases h : i = j + 1
    ·rw [h]; exact Nat.le_refl _
    ·have := ih i (by omega); omega
   ·rw [show am f (j + 1) = am f j from if_neg c]
    by_cases h : i = j + 1
    ·rw [h]; omega
    ·exact ih i (by omega)
theorem am_first (f : Nat → Nat) (j : Nat) : ∀ i, i < am f j → f i < f (am f j) := by
 induction j with
 | zero => intro i hi; unfold am at hi; omega
 | succ j ih =>
   intro i hi
   by_cases c : f (am f j) < f (j + 1)
   ·rw [show am f (j + 1) = j + 1 from if_pos c] at hi ⊢
    have := am_max f j i (by omega); omega
   ·rw [show am f (j + 1) = am f j from if_neg c] at hi ⊢
    exact ih i hi
theorem su_mean (n a d : Nat) (h : a ≤ d) : su (fun i => i * sh n a d i) (n + 1) * d = n * a * d ^ n := by
 cases n with
 | zero => simp [su]
 | succ n =>
   rw [su_head, Nat.zero_mul, Nat.zero_add]
   rw [show su (fun i => (i + 1) * sh (n + 1) a d (i + 1)) (n + 1) = su (fun i => (n + 1) * a * sh n a d i) (n + 1) from ?_]
   ·rw [su_mul, sh_all h, Nat.pow_succ]
    simp only [Nat.mul_left_comm, Nat.mul_comm, Nat.mul_assoc]
   ·apply su_congr
    intro i hi
    have e := ch_abs n i
    unfold sh
    rw [show n + 1 - (i + 1) = n - i by omega, Nat.pow_succ]
    rw [show (i + 1) * (ch (n + 1) (i + 1) * (a ^ i * a * (d - a) ^ (n - i))) = (i + 1) * ch (n + 1) (i + 1) * (a ^ i * a * (d - a) ^ (n - i)) from (Nat.mul_assoc ..).symm, e]
    simp only [Nat.mul_left_comm, Nat.mul_comm, Nat.mul_assoc]
theorem cmpN_mul {x y G : Nat} (h : 0 < G) : cmpN (x * G) (y * G) = cmpN x y := by
 unfold cmpN
 by_cases c1 : x < y
 ·rw [if_pos c1, if_pos (Nat.mul_lt_mul_of_pos_right c1 h)]
 ·by_cases c2 : y < x
  ·have := Nat.mul_lt_mul_of_pos_right c2 h
   rw [if_neg c1, if_pos c2, if_neg (show ¬ x * G < y * G by omega), if_pos this]
  ·obtain rfl : x = y := by omega
   simp
theorem vl35 {x y D : Nat} (hx : x ≤ D) (hy : y ≤ D) (h0 : 0 < D) (hD : D < 2 ^ 120) : S35 2000 (lo x D) (lo y D) = some (cmpN x y) := by
 have l : ∀ z, z ≤ D → L36 z := fun z hz => Nat.lt_of_le_of_lt hz (Nat.lt_trans hD (by decide +kernel))
 have a1 := Nat.le_trans (low_le1 x D) hx; have b1 := low_le2 x D
 have c1 := Nat.le_trans (low_le1 y D) hy; have d1 := low_le2 y D
 have p1 := low_pos (n := x) h0; have p2 := low_pos (n := y) h0
 have x1 := low_cross (n := x) h0; have x2 := low_cross (n := y) h0
 have m := v35 _ _ _ _ (l _ a1) (l _ b1) (l _ c1) (Nat.lt_of_le_of_lt d1 hD) p1 p2 (low_cop h0) (low_cop h0)
 have e : cmpN ((low x D).1 * (low y D).2) ((low y D).1 * (low x D).2) = cmpN x y := by
  rw [← cmpN_mul (x := (low x D).1 * (low y D).2) (y := (low y D).1 * (low x D).2) h0, ← cmpN_mul (x := x) (y := y) (Nat.mul_pos p1 p2)]
  congr 1
  ·rw [show (low x D).1 * (low y D).2 * D = (low x D).1 * D * (low y D).2 by simp only [Nat.mul_left_comm, Nat.mul_comm, Nat.mul_assoc], x1]
   simp only [Nat.mul_left_comm, Nat.mul_comm, Nat.mul_assoc]
  ·rw [show (low y D).1 * (low x D).2 * D = (low y D).1 * D * (low x D).2 by simp only [Nat.mul_left_comm, Nat.mul_comm, Nat.mul_assoc], x2]
   simp only [Nat.mul_left_comm, Nat.mul_comm, Nat.mul_assoc]
 rw [e] at m
 exact m
theorem lsums {M : Nat} (hM : Bd M) (x : Fra) (n D : Nat) (f : Nat → Nat) (hn : n ≤ 40) (h0 : 0 < D) (hD : D ≤ M) (hD2 : D < 2 ^ 120) (hf : ∀ i, i ≤ n → f i ≤ D) (h40 : 40 ≤ M) : ∀ (u j : Nat), u + j = n + 1 →
  ∀ {R : Type} (k0 : Bool → Option R) (k : List Fra → Fra → Int → List Fra → List Fra → Int → Int → Option R) (m : Nat), u < m →
    l9_31 (S23 2000) (S25 2000) (S35 2000) k0 k m (rowG f D (n + 1)) x (am f n : Int) (rowG (fun i => i * f i) D j) (rowG f D (n + 1)) ((n + 1 : Nat) : Int) (j : Int) =
     k (rowG f D (n + 1)) x (am f n : Int) (rowG (fun i => i * f i) D (n + 1)) (rowG f D (n + 1)) ((n + 1 : Nat) : Int) ((n + 1 : Nat) : Int) := by
 have hl : ((rowG f D (n + 1)).length : Int) = ((n + 1 : Nat) : Int) := by rw [rowG_len]
 have hle := am_le f n
 intro u
 induction u with
 | zero =>
   intro j hj R k0 k m hm
   obtain ⟨m, rfl⟩ : ∃ q, m = q + 1 := ⟨m - 1, by omega⟩
   obtain rfl : j = n + 1 := by omega
   have e0 : decide (((n + 1 : Nat) : Int) < ((n + 1 : Nat) : Int)) = false := by simp
   rw [l9_31]
   simp only [g9_0, g9_1, g9_2, g9_35, g9_6, g9_7, g9_34, g9_13, g9_14, g9_16, g9_17, g9_18, g9_27, g9_23, g9_24, g9_26, g9_29, g9_30, g9_31, g9_33, g9_36, g9, e0, brB_false]
 | succ u ih =>
   intro j hj R k0 k m hm
   obtain ⟨m, rfl⟩ : ∃ q, m = q + 1 := ⟨m - 1, by omega⟩
   have e0 : decide ((j : Int) < ((n + 1 : Nat) : Int)) = true := by simp; omega
   have w1 : IntKind.i64.wrap ((j : Int) + 1) = ((j + 1 : Nat) : Int) := by rw [wrap_id (by omega)]; omega
   have q : 0 ≤ (j : Int) ∧ (j : Int) < ((n + 1 : Nat) : Int) := ⟨by omega, by omega⟩
   have q2 : 0 ≤ (am f n : Int) ∧ (am f n : Int) < ((n + 1 : Nat) : Int) := ⟨by omega, by omega⟩
   have o := v23 j 1 (by omega) (by omega) (by omega)
   simp only [Int.natCast_one] at o
   have hj' := hf j (by omega)
   have mu := vl25 hM j 1 (f j) D (by omega) (by omega) (by omega) hD (by omega) h0
   rw [Nat.one_mul] at mu
   have c := vl35 hj' (hf (am f n) (by omega)) h0 hD2
   have mx := am_max f n j (by omega)
   have e1 : decide (cmpN (f j) (f (am f n)) > 0) = false := decide_eq_false fun h => by have := cmpN_gt.1 h; omega
   have lg : (rowG (fun i => i * f i) D j).length + [lo (j * f j) D].length ≤ 2513169434916 := by rw [rowG_len]; simp only [List.length_cons, List.length_nil]; omega
   have sc := (rowG_succ (fun i => i * f i) D j).symm
   have ih' := ih (j + 1) (by omega) k0 k m (by omega)
   rw [l9_31]
   by_cases hm : j < am f n
   ·have e2 : decide ((j : Int) < (am f n : Int)) = true := by simp; omega
    have e3 : (cmpN (f j) (f (am f n)) == (0 : Int)) = false := by
     have := am_first f n j hm
     have h2 := mt cmpN_eq.1 (show f j ≠ f (am f n) by omega)
     simpa using h2
    simp only [g9_0, g9_1, g9_2, g9_35, g9_6, g9_7, g9_34, g9_13, g9_14, g9_16, g9_17, g9_18, g9_27, g9_23, g9_24, g9_26, g9_29, g9_30, g9_31, g9_33, g9_36, g9, hl, e0, brB_true, if_pos q, if_pos q2, Int.toNat_natCast, rowG_get (show j < n + 1 by omega), rowG_get (show am f n < n + 1 by omega), o, mu, c, e1, e2, e3, Option.bind_some, bne_self_eq_false, brB_false, if_pos lg, w1, sc]
    exact ih'
   ·have e2 : decide ((j : Int) < (am f n : Int)) = false := by simp; omega
    simp only [g9_0, g9_1, g9_2, g9_35, g9_6, g9_7, g9_34, g9_13, g9_14, g9_16, g9_17, g9_18, g9_27, g9_23, g9_24, g9_26, g9_29, g9_30, g9_31, g9_33, g9_36, g9, hl, e0, brB_true, if_pos q, if_pos q2, Int.toNat_natCast, rowG_get (show j < n + 1 by omega), rowG_get (show am f n < n + 1 by omega), o, mu, c, e1, e2, Option.bind_some, bne_self_eq_false, brB_false, if_pos lg, w1, sc]
    exact ih'
theorem main9 (c : Int × (Int × (Int × (Int × Unit)))) (i0 : InR (.pair (.int .u8) (.pair (.int .u8) (.pair (.int .u8) (.pair (.int .u8) .unit)))) c) : S9 2000 c = some true := by
 have e8 : S11 2000 = some true := rfl
 obtain ⟨N, K, x, y, _⟩ := c
 obtain ⟨b1, b2⟩ : 0 ≤ N ∧ N ≤ 255 := inR_u8 i0.1
 obtain ⟨b3, b4⟩ : 0 ≤ K ∧ K ≤ 255 := inR_u8 i0.2.1
 obtain ⟨b5, b6⟩ : 0 ≤ x ∧ x ≤ 255 := inR_u8 i0.2.2.1
 obtain ⟨b7, b8⟩ : 0 ≤ y ∧ y ≤ 255 := inR_u8 i0.2.2.2.1
 obtain ⟨N, rfl⟩ := Int.eq_ofNat_of_zero_le b1
 obtain ⟨K, rfl⟩ := Int.eq_ofNat_of_zero_le b3
 obtain ⟨x, rfl⟩ := Int.eq_ofNat_of_zero_le b5
 obtain ⟨y, rfl⟩ := Int.eq_ofNat_of_zero_le b7
 obtain ⟨a, d, hp, hd, hm⟩ := v22 x y (by omega)
 have w1 : IntKind.i64.wrap (Int.tmod (N : Int) 13) = ((N % 13 : Nat) : Int) := by rw [Int.tmod_eq_emod_of_nonneg (by omega), wrap_id (by omega)]; omega
 have hn : N % 13 ≤ 12 := by omega
 generalize N % 13 = n at w1 hn
 have w2 : IntKind.i64.wrap ((n : Int) + 1) = ((n + 1 : Nat) : Int) := by rw [wrap_id (by omega)]; omega
 have nz : ¬ ((n + 1 : Nat) : Int) = 0 := by omega
 have w3 : Int.tmod (IntKind.i64.wrap (K : Int)) ((n + 1 : Nat) : Int) = ((K % (n + 1) : Nat) : Int) := by rw [wrap_id (by omega), Int.tmod_eq_emod_of_nonneg (by omega)]; rfl
 have hk : K % (n + 1) ≤ n := Nat.le_of_lt_succ (Nat.mod_lt _ (by omega))
 generalize K % (n + 1) = k at w3 hk
 have hc := hp.chn (n := n) (by omega)
 have r1 := vT13 _ n a d hc (v43 hp n 0 60 0 (by omega) (by omega))
 have t1 := vT19 _ n a d k hc hk (v43 hp n k 200 n (by omega) hk)
 have m1 := vT34 _ n a d hc (v43 hp n 0 200 0 (by omega) (by omega))
 have le := hp.le
 have m0 : n * a ≤ 12 * 20 := Nat.mul_le_mul (by omega) (by omega)
 have me : S33 2000 (n : Int) (fr a d) = some (lo (n * a) d, 0) := by
  have g := v43 hp n 0 200 0 (by omega) (by omega)
  have ww : IntKind.i64.wrap ((n : Int) * (a : Int)) = ((n * a : Nat) : Int) := by rw [← Int.natCast_mul, wrap_id (by omega)]
  have g2 : S43 2000 (n : Int) 0 200 0 (fr a d) = some ((a : Int), (d : Int), 0) := g
  unfold S33
  simp only [g33_6, g33_2, g33_3, g33_5, g33_6b, g33, g2, ww, v68 (n * a) d (by omega) (by omega) hp.pos, Option.bind_some, bne_self_eq_false, brB_false]
 have hM : Bd (10000 ^ 17) := ⟨by decide, by decide +kernel⟩
 have c1 : 0 < d ^ n := Nat.pow_pos hp.pos
 have cs : d ^ n ≤ 20 ^ 12 := Nat.le_trans (Nat.pow_le_pow_left hd n) (Nat.pow_le_pow_right (by decide) hn)
 have k20 : (20 : Nat) ^ 12 ≤ 10000 ^ 17 := by decide +kernel
 have cb : d ^ n ≤ 10000 ^ 17 := Nat.le_trans cs k20
 have k40 : (40 : Nat) ≤ 10000 ^ 17 := by decide +kernel
 have c120 : d ^ n < 2 ^ 120 := Nat.lt_of_le_of_lt cs (by decide +kernel)
 have rg : ∀ j, rowL n a d j = rowG (sh n a d) (d ^ n) j := fun j => rfl
 rw [rg] at r1
 have s1 := v32 hM (sh n a d) (d ^ n) (n + 1) cb c1 (by omega) (by rw [sh_all hp.le]; exact cb)
 have s2 := v32 hM (fun i => sh n a d (k + i)) (d ^ n) (n + 1 - k) cb c1 (by omega) (Nat.le_trans (sh_part hp.le k (n + 1 - k) (by omega)) cb)
 rw [sh_all hp.le, lo_congr c1 (show 0 < 1 by omega) (n' := 1) (Nat.mul_comm ..)] at s1
 have mean := su_mean n a d hp.le
 have sb : su (fun i => i * sh n a d i) (n + 1) ≤ 12 * 20 ^ 12 := by
  have h1 : su (fun i => i * sh n a d i) (n + 1) * d ≤ n * d ^ n * d := by
   rw [mean, show n * d ^ n * d = n * d * d ^ n by simp only [Nat.mul_left_comm, Nat.mul_comm, Nat.mul_assoc]]
   exact Nat.mul_le_mul_right _ (Nat.mul_le_mul_left _ le)
  exact Nat.le_trans (Nat.le_of_mul_le_mul_right h1 hp.pos) (Nat.mul_le_mul hn cs)
 have s3 := v32 hM (fun i => i * sh n a d i) (d ^ n) (n + 1) cb c1 (by omega) (Nat.le_trans sb (by decide +kernel))
 rw [lo_congr c1 hp.pos mean] at s3
 have lp := fun {R : Type} (x : Fra) (q0 : Bool → Option R) (q : List Fra → Fra → Int → List Fra → List Fra → Int → Int → Option R) => lsums hM x n (d ^ n) (sh n a d) (by omega) c1 cb c120 (fun i hi => sh_le hp.le hi) k40 (n + 1) 0 rfl q0 q 2000 (by omega)
 have r0 : rowG (fun i => i * sh n a d i) (d ^ n) 0 = [] := rfl
 simp only [r0, Int.natCast_zero] at lp
 have q1 : 0 ≤ (k : Int) ∧ (k : Int) ≤ ((n + 1 : Nat) : Int) ∧ ((n + 1 : Nat) : Int) ≤ ((n + 1 : Nat) : Int) ∧ ((n + 1 : Nat) : Int) ≤ ((n + 1 : Nat) : Int) := ⟨by omega, by omega, by omega, by omega⟩
 have dt : ((rowG (sh n a d) (d ^ n) (n + 1)).drop k).take (n + 1 - k) = rowG (fun i => sh n a d (k + i)) (d ^ n) (n + 1 - k) := by
  rw [rowG_drop, List.take_of_length_le (by rw [rowG_len]; omega)]
 have eq1 := v31 1 (by omega)
 simp only [Int.natCast_one] at eq1
 have hle := am_le (sh n a d) n
 have d1 : decide ((am (sh n a d) n : Int) < 0) = false := by simp
 have d2 : decide ((am (sh n a d) n : Int) > (n : Int)) = false := by simp; omega
 unfold S9
 simp only [g9_0, g9_1, g9_2, g9_35, g9_6, g9_7, g9_34, g9_13, g9_14, g9_16, g9_17, g9_18, g9_27, g9_23, g9_24, g9_26, g9_29, g9_30, g9_31, g9_33, g9_36, g9, e8, hm, w1, r1, rowG_len, w2, s1, eq1, if_neg nz, w3, t1, me, m1, d1, d2, if_pos q1, Int.toNat_natCast, dt, s2, vL21 _ _ (hc.l36.le (sh_part hp.le k (n + 1 - k) (by omega))) hc.l36, Option.bind_some, bne_self_eq_false, Bool.not_true, brB_false]
 refine (lp _ _ _).trans ?_
 simp only [g9_0, g9_1, g9_2, g9_35, g9_6, g9_7, g9_34, g9_13, g9_14, g9_16, g9_17, g9_18, g9_27, g9_23, g9_24, g9_26, g9_29, g9_30, g9_31, g9_33, g9_36, g9, s3, Option.bind_some, vL21 _ _ (small36 (show n * a ≤ 9223372036854775807 by omega)) (small36 (show d ≤ 9223372036854775807 by omega))]
end Go.Fw.L51
