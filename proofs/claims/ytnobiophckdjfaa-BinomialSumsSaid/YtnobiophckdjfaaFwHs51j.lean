/- Probabilities, powers, the terms' numerators. -/
import Derived.Test.YtnobiophckdjfaaFwHs51i
set_option linter.unusedVariables false
set_option linter.unusedSimpArgs false
namespace Go.Fw.L51
open Go Go.Fw
set_option maxRecDepth 100000
set_option linter.unusedSimpArgs false
set_option linter.unusedVariables false
theorem lpow (x0 : List Int × Unit) {a K : Nat} (hK : L36 (a ^ K)) (ha : L36 a) (hk : K ≤ 1000) : ∀ (n j : Nat), n + j = K → ∀ {R : Type} (k : List Int × Unit → List Int × Unit → List Int × Unit → Int → Int → Option R) (m : Nat), n < m →
  l46_9 (S78 2000) k m x0 (nd (a ^ j), ()) (nd a, ()) (K : Int) (j : Int) = k x0 (nd (a ^ K), ()) (nd a, ()) (K : Int) (K : Int) := by
 intro n
 induction n with
 | zero =>
   intro j hj R k m hm
   obtain ⟨m, rfl⟩ : ∃ q, m = q + 1 := ⟨m - 1, by omega⟩
   obtain rfl : j = K := by omega
   have e0 : decide ((j : Int) < (j : Int)) = false := by simp
   rw [l46_9]
   simp only [g46_12, g46_2, g46_3, g46_5, g46_7, g46_8, g46_9, g46_11, g46_12b, g46, e0, brB_false]
 | succ n ih =>
   intro j hj R k m hm
   obtain ⟨m, rfl⟩ : ∃ q, m = q + 1 := ⟨m - 1, by omega⟩
   have e0 : decide ((j : Int) < (K : Int)) = true := by simp; omega
   have w1 : IntKind.i64.wrap ((j : Int) + 1) = ((j + 1 : Nat) : Int) := by rw [wrap_id (by omega)]; omega
   have hj' : L36 (a ^ j) := by
    by_cases h0 : a = 0
    ·subst h0
     exact Nat.lt_of_le_of_lt (Nat.pow_le_pow_left (Nat.zero_le 1) j) (by rw [Nat.one_pow]; decide +kernel)
    ·exact hK.le (Nat.pow_le_pow_right (by omega) (by omega))
   rw [l46_9]
   simp only [g46_12, g46_2, g46_3, g46_5, g46_7, g46_8, g46_9, g46_11, g46_12b, g46, e0, brB_true, v78 _ _ hj' ha, Option.bind_some, w1]
   rw [← Nat.pow_succ]
   exact ih (j + 1) (by omega) k m (by omega)
theorem v46 (a K : Nat) (ha : a ≤ 9223372036854775807) (hk : K ≤ 1000) (hK : L36 (a ^ K)) : S46 2000 (a : Int) (K : Int) = some (nd (a ^ K), ()) := by
 have o := v49 1 (by omega)
 simp only [Int.natCast_one] at o
 have lp := fun {R : Type} (q : List Int × Unit → List Int × Unit → List Int × Unit → Int → Int → Option R) => lpow ([], ()) hK (small36 ha) hk K 0 (by omega) q 2000 (by omega)
 simp only [Nat.pow_zero, Int.natCast_zero] at lp
 unfold S46
 simp only [g46_12, g46_2, g46_3, g46_5, g46_7, g46_8, g46_9, g46_11, g46_12b, g46, o, v49 a ha, Option.bind_some]
 exact lp _
def sh (n a d k : Nat) : Nat := ch n k * (a ^ k * (d - a) ^ (n - k))
structure Chn (n a d : Nat) : Prop where
 le : a ≤ d
 pos : 0 < d
 d3 : d ≤ 1000
 n6 : n ≤ 60
 all : d ^ n ≤ 10000 ^ 30
theorem Chn.mk40 {n a d : Nat} (h1 : a ≤ d) (h2 : 0 < d) (h3 : d ≤ 1000) (h4 : n ≤ 40) : Chn n a d :=
 ⟨h1, h2, h3, by omega, Nat.le_trans (Nat.pow_le_pow_left h3 n) (Nat.le_trans (Nat.pow_le_pow_right (by decide) h4) (by decide +kernel))⟩
theorem Chn.l36 {n a d : Nat} (h : Chn n a d) : L36 (d ^ n) := Nat.lt_of_le_of_lt h.all (by decide +kernel)
theorem sh_all {n a d : Nat} (h : a ≤ d) : su (sh n a d) (n + 1) = d ^ n := by
 have := bin_thm a (d - a) n
 rw [show a + (d - a) = d by omega] at this
 exact this
theorem sh_part {n a d : Nat} (h : a ≤ d) (k j : Nat) (hj : k + j ≤ n + 1) : su (fun i => sh n a d (k + i)) j ≤ d ^ n := by
 rw [← sh_all h, show n + 1 = (k + j) + (n + 1 - (k + j)) by omega, su_split, su_split]
 omega
theorem sh_le {n a d k : Nat} (h : a ≤ d) (hk : k ≤ n) : sh n a d k ≤ d ^ n := by
 have := sh_part (n := n) h k 1 (by omega)
 simpa [su] using this
theorem pow_ak {n a d k : Nat} (h : a ≤ d) (hd : 0 < d) (hk : k ≤ n) : a ^ k ≤ d ^ n := Nat.le_trans (Nat.pow_le_pow_left h k) (Nat.pow_le_pow_right hd hk)
theorem pow_mid {n a d k : Nat} (h : a ≤ d) (hk : k ≤ n) : a ^ k * (d - a) ^ (n - k) ≤ d ^ n := by
 have : d ^ n = d ^ k * d ^ (n - k) := by rw [← Nat.pow_add]; congr 1; omega
 rw [this]
 exact Nat.mul_le_mul (Nat.pow_le_pow_left h k) (Nat.pow_le_pow_left (Nat.sub_le ..) _)
theorem v45 (n a d k : Nat) (h : Chn n a d) (hk : k ≤ n) : S45 2000 (n : Int) (k : Int) (a : Int) (d : Int) = some (nd (sh n a d k), ()) := by
 have h1 := h.le; have h2 := h.d3; have h3 := h.n6
 have w1 : IntKind.i64.wrap ((d : Int) - (a : Int)) = ((d - a : Nat) : Int) := by rw [wrap_id (by omega)]; omega
 have w2 : IntKind.i64.wrap ((n : Int) - (k : Int)) = ((n - k : Nat) : Int) := by rw [wrap_id (by omega)]; omega
 have p1 : L36 (a ^ k) := h.l36.le (pow_ak h.le h.pos hk)
 have p2 : L36 ((d - a) ^ (n - k)) := h.l36.le (pow_ak (Nat.sub_le ..) h.pos (Nat.sub_le ..))
 unfold S45
 simp only [g45_2, g45_2b, g45, w1, w2, vs64 n k (by omega) hk, v46 a k (by omega) (by omega) p1, v46 (d - a) (n - k) (by omega) (by omega) p2, v78 _ _ p1 p2, v78 _ _ (ch36 (n := n) (by omega) k) (h.l36.le (pow_mid h.le hk)), Option.bind_some]
 rfl
theorem cmp_cross {p q r s : Nat} (hq : 0 < q) (hs : 0 < s) : cmpN (p * s) (r * q) = if p / q = r / s then cmpN ((p % q) * s) ((r % s) * q) else cmpN (p / q) (r / s) := by
 have e1 : p = q * (p / q) + p % q := (Nat.div_add_mod p q).symm
 have e2 : r = s * (r / s) + r % s := (Nat.div_add_mod r s).symm
 have m1 := Nat.mod_lt p hq; have m2 := Nat.mod_lt r hs
 generalize p / q = A at *
 generalize p % q = x at *
 generalize r / s = C at *
 generalize r % s = y at *
 have t1 : p * s = q * s * A + x * s := by rw [e1, Nat.add_mul]; congr 1; simp only [Nat.mul_left_comm, Nat.mul_comm, Nat.mul_assoc]
 have t2 : r * q = q * s * C + y * q := by rw [e2, Nat.add_mul]; congr 1; simp only [Nat.mul_left_comm, Nat.mul_comm, Nat.mul_assoc]
 rw [t1, t2]
 have b1 : x * s < q * s := Nat.mul_lt_mul_of_pos_right m1 hs
 have b2 : y * q < q * s := by rw [Nat.mul_comm q s]; exact Nat.mul_lt_mul_of_pos_right m2 hq
 generalize q * s = G at *
 generalize x * s = X at *
 generalize y * q = Y at *
 by_cases h : A = C
 ·subst h
  rw [if_pos rfl]
  unfold cmpN
  by_cases c1 : X < Y
  ·rw [if_pos c1, if_pos (by omega)]
  ·by_cases c2 : Y < X
   ·rw [if_neg c1, if_pos c2, if_neg (by omega), if_pos (by omega)]
   ·rw [if_neg c1, if_neg c2, if_neg (by omega), if_neg (by omega)]
 ·rw [if_neg h]
  unfold cmpN
  rcases Nat.lt_or_gt_of_ne h with c | c
  ·have : G * A + G ≤ G * C := by rw [← Nat.mul_succ]; exact Nat.mul_le_mul_left _ c
   rw [if_pos c, if_pos (by omega)]
  ·have : G * C + G ≤ G * A := by rw [← Nat.mul_succ]; exact Nat.mul_le_mul_left _ c
   rw [if_neg (show ¬ G * A + X < G * C + Y by omega), if_pos (show G * C + Y < G * A + X by omega), if_neg (show ¬ A < C by omega), if_pos c]
theorem lorder : ∀ (j p q r s : Nat), 0 < q → 0 < s → s < 2 ^ j → L36 p → L36 q → L36 r → L36 s → ∀ (m : Nat), 2 * j < m →
  R70 2000 m (nd p, ()) (nd q, ()) (nd r, ()) (nd s, ()) = some (cmpN (p * s) (r * q)) := by
 have one : ∀ (p q r s : Nat), 0 < q → 0 < s → L36 p → L36 q → L36 r → L36 s → ∀ (m : Nat),
   R70 2000 (m + 1) (nd p, ()) (nd q, ()) (nd r, ()) (nd s, ()) =
    (if p / q = r / s then (if p % q = 0 ∨ r % s = 0 then some (cmpN (p % q) (r % s)) else R70 2000 m (nd s, ()) (nd (r % s), ()) (nd q, ()) (nd (p % q), ())) else some (cmpN (p / q) (r / s))) := by
  intro p q r s hq hs lp lq lr ls m
  have a := lp.len; have b := lq.len; have c := lr.len; have d := ls.len
  have x1 := (lp.le (Nat.div_le_self p q)).len
  have x2 := (lr.le (Nat.div_le_self r s)).len
  have x3 := (lp.le (Nat.mod_le p q)).len
  have x4 := (lr.le (Nat.mod_le r s)).len
  rw [R70]
  simp only [g70_12, g70_7, g70_5, g70_8, g70_9, g70_11, g70_12b, g70, v84 p q (by omega) (by omega) hq, v84 r s (by omega) (by omega) hs, v60 (p / q) (r / s) (by omega) (by omega), Option.bind_some, v56]
  by_cases h : p / q = r / s
  ·have e : (cmpN (p / q) (r / s) != (0 : Int)) = false := by simp [cmpN_eq.2 h]
   rw [if_pos h]
   simp only [e, brB_false]
   by_cases h1 : p % q = 0
   ·simp only [h1, decide_true, brB_true, true_or, if_true]
    have := v60 0 (r % s) (by rw [nd_zero]; simp) (by omega)
    rw [this, Option.bind_some]
   ·by_cases h2 : r % s = 0
    ·simp only [h1, h2, decide_true, decide_false, brB_true, brB_false, or_true, if_true]
     have := v60 (p % q) 0 (by omega) (by rw [nd_zero]; simp)
     rw [this, Option.bind_some]
    ·simp only [h1, h2, decide_false, brB_false, or_self, if_false]
     cases R70 2000 m (nd s, ()) (nd (r % s), ()) (nd q, ()) (nd (p % q), ()) <;> rfl
  ·have e : (cmpN (p / q) (r / s) != (0 : Int)) = true := by
    have := mt cmpN_eq.1 h
    simpa using this
   rw [if_neg h]
   simp only [e, brB_true]
 have base : ∀ (x y q s : Nat), 0 < q → 0 < s → (x = 0 ∨ y = 0) → cmpN (x * s) (y * q) = cmpN x y := by
  intro x y q s hq hs h
  have f : ∀ z g : Nat, 0 < g → (0 < z * g ↔ 0 < z) := fun z g hg => ⟨fun h => Nat.pos_of_mul_pos_right h, fun h => Nat.mul_pos h hg⟩
  rcases h with rfl | rfl
  ·rw [Nat.zero_mul]
   by_cases hy : 0 < y
   ·unfold cmpN; rw [if_pos hy, if_pos ((f y q hq).2 hy)]
   ·obtain rfl : y = 0 := by omega
    rw [Nat.zero_mul]
  ·rw [Nat.zero_mul]
   by_cases hx : 0 < x
   ·unfold cmpN; rw [if_neg (Nat.not_lt_zero _), if_pos ((f x s hs).2 hx), if_neg (Nat.not_lt_zero _), if_pos hx]
   ·obtain rfl : x = 0 := by omega
    rw [Nat.zero_mul]
 intro j
 induction j with
 | zero => intro p q r s hq hs hj; simp at hj; omega
 | succ j ih =>
   intro p q r s hq hs hj lp lq lr ls m hm
   obtain ⟨m, rfl⟩ : ∃ i, m = i + 2 := ⟨m - 2, by omega⟩
   rw [one p q r s hq hs lp lq lr ls, cmp_cross hq hs]
   by_cases h : p / q = r / s
   ·rw [if_pos h, if_pos h]
    by_cases h0 : p % q = 0 ∨ r % s = 0
    ·rw [if_pos h0, base _ _ _ _ hq hs h0]
    ·rw [if_neg h0]
     have hx : 0 < p % q := by omega
     have hy : 0 < r % s := by omega
     have l1 := lp.le (Nat.mod_le p q); have l2 := lr.le (Nat.mod_le r s)
     rw [one s (r % s) q (p % q) hy hx ls l2 lq l1]
     have sw : cmpN ((p % q) * s) ((r % s) * q) = cmpN (s * (p % q)) (q * (r % s)) := by rw [Nat.mul_comm, Nat.mul_comm (r % s)]
     rw [sw, cmp_cross hy hx]
     by_cases h1 : s / (r % s) = q / (p % q)
     ·rw [if_pos h1, if_pos h1]
      by_cases h2 : s % (r % s) = 0 ∨ q % (p % q) = 0
      ·rw [if_pos h2, base _ _ _ _ hy hx h2]
      ·rw [if_neg h2]
       rw [Nat.pow_succ] at hj
       have hh := half_mod hy (Nat.mod_lt r hs)
       have fin := ih (p % q) (q % (p % q)) (r % s) (s % (r % s)) (by omega) (by omega) (by omega) l1 (lq.le (Nat.mod_le ..)) l2 (ls.le (Nat.mod_le ..)) m (by omega)
       rw [fin]
       congr 1
       rw [Nat.mul_comm, Nat.mul_comm (r % s)]
     ·rw [if_neg h1, if_neg h1]
   ·rw [if_neg h, if_neg h]
theorem v35 (a b c d : Nat) (ha : L36 a) (hb : L36 b) (hc : L36 c) (hd : d < 2 ^ 120) (hb0 : 0 < b) (hd0 : 0 < d) (h1 : Nat.gcd a b = 1) (h2 : Nat.gcd c d = 1) : S35 2000 (fr a b) (fr c d) = some (cmpN (a * d) (c * b)) := by
 have hd' : L36 d := Nat.lt_trans hd (by decide +kernel)
 have o := lorder 120 a b c d hb0 hd0 hd ha hb hc hd' 250 (by omega)
 have o2 : S70 2000 (nd a, ()) (nd b, ()) (nd c, ()) (nd d, ()) = some (cmpN (a * d) (c * b)) := o
 unfold S35
 simp only [g35_0, g35_1, g35_2, g35_4, g35_5, g35_6, g35_8, g35_10, g35_11, g35_13, g35_14, g35, vF54 ha hb hb0 h1, vF54 hc hd' hd0 h2, Option.bind_some, Bool.not_true, brB_false]
 simp only [fr, o2, Option.bind_some, beq_self_eq_true, Bool.not_true, brB_false]
theorem v98 (n : Nat) (h : n < 10000) : S98 2000 (nd n, ()) = some (n : Int) := by
 unfold S98
 by_cases h0 : n = 0
 ·subst h0; simp [g98_0, g98_1, g98_2, g98_4, g98_5, g98, nd_zero, brB]
 ·rw [nd_small h h0]
  simp [g98_0, g98_1, g98_2, g98_4, g98_5, g98, brB]
end Go.Fw.L51
