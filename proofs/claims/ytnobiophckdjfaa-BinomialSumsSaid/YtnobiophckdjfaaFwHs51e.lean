/- Natural numbers: validity, divisors, subsets. -/
import Derived.Test.YtnobiophckdjfaaFwHs51d
set_option linter.unusedVariables false
set_option linter.unusedSimpArgs false
namespace Go.Fw.L51
open Go Go.Fw
set_option maxRecDepth 100000
set_option linter.unusedSimpArgs false
set_option linter.unusedVariables false
def bad (d : Int) : Bool := decide (d < 0) || decide (d ≥ 10000)
def okN (l : List Int) : Bool := decide (l.length ≤ 200) && !decide (l.getLast? = some 0) && !l.any bad
theorem okN_nd {n : Nat} (h : (nd n).length ≤ 200) : okN (nd n) = true := by
 unfold okN
 have h1 : ¬ (nd n).getLast? = some 0 := by
  intro h0
  obtain ⟨ys, hy⟩ := List.getLast?_eq_some_iff.1 h0
  exact top_nd n ys 0 hy rfl
 have h2 : (nd n).any bad = false := by
  rw [List.any_eq_false]
  intro d hd
  have := dig_nd n d hd
  simp [bad]; omega
 simp [h, h1, h2]
theorem okN_some {l : List Int} (h : okN l = true) : ∃ n, l = nd n ∧ l.length ≤ 200 := by
 unfold okN at h
 simp only [Bool.and_eq_true, decide_eq_true_eq, Bool.not_eq_true', decide_eq_false_iff_not] at h
 obtain ⟨⟨h1, h2⟩, h3⟩ := h
 have hd : Dig l := by
  intro d hd
  have := List.any_eq_false.1 h3 d hd
  simp [bad] at this; omega
 refine ⟨toN l, (nd_toN hd ?_).symm, h1⟩
 intro ys d hy h0
 subst h0
 exact h2 (List.getLast?_eq_some_iff.2 ⟨ys, hy⟩)
theorem v100 (d : Int) : S100 2000 d = some (bad d) := by
 unfold S100 bad
 simp only [g100_2, g100_2b, g100]
 cases decide (d < 0) <;> rfl
theorem lidx {l : List Int} (hl : l.length ≤ 100000) (f : Int × Unit → Option Bool) (hf : ∀ d, f (d, ()) = some (bad d)) : ∀ (ys pre : List Int), l = pre ++ ys →
  ∃ j : Nat, ∀ {R : Type} (k : Int → Option R) (m : Nat), ys.length < m →
    l116_12 k (fun _ _ _ _ => k (-1)) m l f (l.length : Int) (pre.length : Int) = if ys.any bad then k (j : Int) else k (-1) := by
 intro ys
 induction ys with
 | nil =>
   intro pre hp
   have hpre : pre = l := by simpa using hp.symm
   subst hpre
   refine ⟨0, fun {R} k m hm => ?_⟩
   obtain ⟨m, rfl⟩ : ∃ j, m = j + 1 := ⟨m - 1, by simp at hm; omega⟩
   unfold l116_12
   simp only [g116_0, g116_1, g116_2, g116_8, g116_6, g116_10, g116_11, g116_12, g116_14, g116_15, g116]
   have : decide ((pre.length : Int) < (pre.length : Int)) = false := by simp
   simp only [this, brB_false, List.any_nil]
   rfl
 | cons y ys ih =>
   intro pre hp
   have hlen : l.length = pre.length + (ys.length + 1) := by rw [hp]; simp
   obtain ⟨j, hj⟩ := ih (pre ++ [y]) (by rw [hp]; simp)
   refine ⟨if bad y then pre.length else j, fun {R} k m hm => ?_⟩
   obtain ⟨m, rfl⟩ : ∃ j, m = j + 1 := ⟨m - 1, by simp at hm; omega⟩
   unfold l116_12
   simp only [g116_0, g116_1, g116_2, g116_8, g116_6, g116_10, g116_11, g116_12, g116_14, g116_15, g116]
   have e0 : decide ((pre.length : Int) < (l.length : Int)) = true := by simp; omega
   have e1 : (0 ≤ (pre.length : Int) ∧ (pre.length : Int) < (l.length : Int)) := by omega
   have g1 : l.getD pre.length 0 = y := by rw [hp]; simp
   have w6 : IntKind.i64.wrap ((pre.length : Int) + 1) = ((pre ++ [y]).length : Int) := by rw [wrap_id (by omega)]; simp
   simp only [e0, brB_true, if_pos e1, Int.toNat_natCast, g1, hf, Option.bind_some, w6]
   cases hb : bad y with
   | true => simp [brB, hb]
   | false =>
     simp only [brB_false]
     rw [hj k m (by simp at hm; omega)]
     simp [hb]
theorem v116 (l : List Int) (hl : l.length ≤ 1900) (f : Int × Unit → Option Bool) (hf : ∀ d, f (d, ()) = some (bad d)) : ∃ j : Nat, S116 2000 l f = some (if l.any bad then (j : Int) else -1) := by
 obtain ⟨j, hj⟩ := lidx (l := l) (by omega) f hf l [] rfl
 refine ⟨j, ?_⟩
 unfold S116
 simp only [g116_0, g116_1, g116_2, g116_8, g116_6, g116_10, g116_11, g116_12, g116_14, g116_15, g116]
 have := hj (R := Int) some 2000 (by omega)
 simp only [List.length_nil, Int.natCast_zero] at this
 refine this.trans ?_
 split <;> rfl
theorem v99 (l : List Int) (hl : l.length ≤ 1900) (f : Int × Unit → Option Bool) (hf : ∀ d, f (d, ()) = some (bad d)) : S99 2000 l f = some (l.any bad) := by
 obtain ⟨j, hj⟩ := v116 l hl f hf
 unfold S99
 simp only [g99_2, g99_2b, g99, hj, Option.bind_some]
 cases l.any bad
 ·rfl
 ·have : decide ((j : Int) ≥ 0) = true := by simp
  simp [this]
theorem v75 (l : List Int) : S75 2000 (l, ()) = some (okN l) := by
 unfold S75
 simp only [g75_6, g75_2, g75_3, g75_5, g75_6b, g75]
 by_cases h : l.length ≤ 200
 ·have e0 : decide ((l.length : Int) > 200) = false := by simp; omega
  have hc := v99 l (by omega) (fun x46 => ((S100 2000 x46.1).bind fun b47 => some [E.v .bool b47]).bind (unE .bool)) (fun d => by rw [v100]; rfl)
  simp only [e0, brB_false, hc, Option.bind_some]
  rcases snoc_cases l with rfl | ⟨ys, d, rfl⟩
  ·rfl
  ·have e1 : decide (((ys ++ [d]).length : Int) > 0) = true := by simp <;> omega
   have e2 : IntKind.i64.wrap (((ys ++ [d]).length : Int) - 1) = (ys.length : Int) := by rw [List.length_append]; exact wsub1 (by simp at h; omega)
   have e3 : (0 ≤ (ys.length : Int) ∧ (ys.length : Int) < ((ys ++ [d]).length : Int)) := by simp <;> omega
   simp only [e1, brB_true, e2, if_pos e3, Int.toNat_natCast, getD_snoc]
   unfold okN
   by_cases hd : d = 0
   ·subst hd
    simp [brB]
   ·have : (d == (0 : Int)) = false := by simpa using hd
    simp only [this, brB_false]
    simp only [List.length_append, List.length_singleton] at h
    simp [hd, h]
 ·have e0 : decide ((l.length : Int) > 200) = true := by simp; omega
  simp [e0, brB, okN, h]
theorem vV75 (n : Nat) (h : (nd n).length ≤ 200) : S75 2000 (nd n, ()) = some true := by
 rw [v75, okN_nd h]
theorem v106 (n : Nat) (h : (nd n).length ≤ 200) : S106 2000 (nd n) = some ((nd n, ()), 0) := by
 unfold S106
 have e0 : decide (((nd n).length : Int) > 200) = false := by simp; omega
 simp only [g106_0, g106_1, g106_2, g106_4, g106_5, g106, e0, brB_false, v105 (nd n) (dig_nd n) (by omega), Option.bind_some, toN_nd]
theorem vL106 (l : List Int) (hd : Dig l) (h : l.length ≤ 200) : S106 2000 l = some ((nd (toN l), ()), 0) := by
 unfold S106
 have e0 : decide ((l.length : Int) > 200) = false := by simp; omega
 simp only [g106_0, g106_1, g106_2, g106_4, g106_5, g106, e0, brB_false, v105 l hd (by omega), Option.bind_some]
theorem lof {R : Type} (k : Int → List Int × Unit → List Int → Option R) (x : List Int × Unit) : ∀ (j n : Nat) (o : List Int) (m : Nat), n < 10000 ^ j → n ≤ 9223372036854775807 → j < m → o.length + j ≤ 1000 →
  l81_11 k m (n : Int) x o = k 0 x (o ++ nd n) := by
 intro j
 induction j with
 | zero =>
   intro n o m hn hb hm hj
   have : n = 0 := by simp at hn; omega
   subst this
   obtain ⟨m, rfl⟩ : ∃ j, m = j + 1 := ⟨m - 1, by omega⟩
   unfold l81_11
   simp [g81_0, g81_1, g81_2, g81_4, g81_5, g81_7, g81_9, g81_10, g81_11, g81_13, g81_14, g81, brB, nd_zero]
 | succ j ih =>
   intro n o m hn hb hm hj
   obtain ⟨m, rfl⟩ : ∃ j, m = j + 1 := ⟨m - 1, by omega⟩
   unfold l81_11
   simp only [g81_0, g81_1, g81_2, g81_4, g81_5, g81_7, g81_9, g81_10, g81_11, g81_13, g81_14, g81]
   by_cases h0 : n = 0
   ·subst h0; simp [brB, nd_zero]
   ·have e0 : decide ((n : Int) > 0) = true := by simp; omega
    have e1 : ∀ z : Int, o.length + [z].length ≤ 17592186044416 := fun z => by simp; omega
    rw [Nat.pow_succ] at hn
    have w : IntKind.i64.wrap (((n / 10000 : Nat)) : Int) = ((n / 10000 : Nat) : Int) := wN (by omega)
    simp only [e0, brB_true, tmN, tdN, if_pos (e1 _), w]
    rw [ih (n / 10000) _ m (by omega) (by omega) (by omega) (by simp; omega), nd_pos h0]
    simp
theorem v81 (n : Nat) (h : n ≤ 9223372036854775807) : S81 2000 (n : Int) = some ((nd n, ()), 0) := by
 unfold S81
 have e0 : decide ((n : Int) < 0) = false := by simp
 have hl : (nd n).length ≤ 5 := by rw [len_nd_le]; omega
 simp only [g81_0, g81_1, g81_2, g81_4, g81_5, g81_7, g81_9, g81_10, g81_11, g81_13, g81_14, g81, e0, brB_false]
 rw [lof _ _ 5 n [] 2000 (by omega) h (by omega) (by simp)]
 simp only [List.nil_append, v105 (nd n) (dig_nd n) (by omega), Option.bind_some, toN_nd]
theorem v49 (n : Nat) (h : n ≤ 9223372036854775807) : S49 2000 (n : Int) = some (nd n, ()) := by
 unfold S49
 simp only [g49_3, g49_3b, g49, v81 n h, Option.bind_some]
theorem v95 (n : Nat) (h : n ≤ 9223372036854775807) : S95 2000 (n : Int) = some (nd n, ()) := by
 unfold S95
 simp only [g95_3, g95_3b, g95, v81 n h, Option.bind_some]
theorem v103 (a b : Nat) (ha : (nd a).length ≤ 200) (hb : (nd b).length ≤ 200) (h : (nd (a * b)).length ≤ 200) : S103 2000 (nd a, ()) (nd b, ()) = some ((nd (a * b), ()), 0) := by
 have hm := v114 (nd a) (nd b) (dig_nd a) (dig_nd b) (by omega) (by omega)
 rw [toN_nd, toN_nd] at hm
 unfold S103
 simp only [g103_0, g103_1, g103_2, g103_4, g103_5, g103, vV75 a ha, vV75 b hb, Option.bind_some, Bool.not_true, brB_false, hm, v106 _ h]
theorem v82 (a b : Nat) (ha : (nd a).length ≤ 199) (hb : (nd b).length ≤ 199) : S82 2000 (nd a, ()) (nd b, ()) = some ((nd (a + b), ()), 0) := by
 obtain ⟨l, h1, h2, h3, h4⟩ := v107 (nd a) (nd b) (dig_nd a) (dig_nd b) (by omega) (by omega)
 rw [toN_nd, toN_nd] at h3
 unfold S82
 simp only [g82_0, g82_1, g82_2, g82_4, g82_5, g82, vV75 a (by omega), vV75 b (by omega), Option.bind_some, Bool.not_true, brB_false, h1, vL106 l h2 (by omega), h3]
theorem v102 (a b : Nat) (ha : (nd a).length ≤ 200) (hb : (nd b).length ≤ 200) (h : 0 < b) : S102 2000 (nd a, ()) (nd b, ()) = some ((nd (a / b), ()), (nd (a % b), ()), 0) := by
 have hm := v115 (nd a) (dig_nd a) (by omega) h (by omega)
 rw [toN_nd] at hm
 have e0 : (((nd b).length : Int) == 0) = false := by
  have : nd b ≠ [] := fun e => by have := nd_nil.1 e; omega
  have := List.length_pos_iff.2 this
  simp; omega
 have l1 : (nd (a / b)).length ≤ 200 := Nat.le_trans (len_nd_mono (Nat.div_le_self ..)) ha
 have l2 : (nd (a % b)).length ≤ 200 := Nat.le_trans (len_nd_mono (Nat.le_of_lt (Nat.mod_lt _ h))) hb
 unfold S102
 simp only [g102_0, g102_1, g102_2, g102_3, g102_4, g102_10, g102_11, g102, vV75 a ha, vV75 b hb, Option.bind_some, Bool.not_true, brB_false, e0, hm, v105 _ (dig_nd _) (Nat.le_trans l1 (by omega)), v105 _ (dig_nd _) (Nat.le_trans l2 (by omega)), toN_nd]
theorem half_mod {y r : Nat} (hr : 0 < r) (h : r < y) : 2 * (y % r) < y := by
 by_cases h2 : 2 * r ≤ y
 ·have := Nat.mod_lt y hr; omega
 ·have : y % r = y - r := by rw [Nat.mod_eq_sub_mod (by omega), Nat.mod_eq_of_lt (by omega)]
  omega
theorem lgcd (x0 : List Int × Unit) : ∀ (j x y : Nat), y < 2 ^ j → (nd x).length ≤ 800 → (nd y).length ≤ 800 →
  ∀ {R : Type} (k : List Int × Unit → List Int → List Int → Option R) (m : Nat), 2 * j + 1 < m → l101_12 (S115 2000) k m x0 (nd x) (nd y) = k x0 (nd (Nat.gcd x y)) [] := by
 have step : ∀ (x y : Nat), 0 < y → (nd x).length ≤ 800 → (nd y).length ≤ 800 → ∀ {R : Type} (k : List Int × Unit → List Int → List Int → Option R) (m : Nat), l101_12 (S115 2000) k (m + 1) x0 (nd x) (nd y) = l101_12 (S115 2000) k m x0 (nd y) (nd (x % y)) := by
  intro x y hy hx hyl R k m
  rw [l101_12]
  have hm := v115 (nd x) (dig_nd x) (by omega) hy hyl
  rw [toN_nd] at hm
  have : nd y ≠ [] := fun e => by have := nd_nil.1 e; omega
  have := List.length_pos_iff.2 this
  have e0 : decide (((nd y).length : Int) > 0) = true := by simp; omega
  simp only [g101_0, g101_1, g101_2, g101_4, g101_5, g101_9, g101_11, g101_12, g101_14, g101_15, g101, e0, brB_true, hm, Option.bind_some]
 have stop : ∀ (x : Nat) {R : Type} (k : List Int × Unit → List Int → List Int → Option R) (m : Nat), l101_12 (S115 2000) k (m + 1) x0 (nd x) (nd 0) = k x0 (nd x) [] := by
  intro x R k m
  rw [l101_12]
  simp [g101_0, g101_1, g101_2, g101_4, g101_5, g101_9, g101_11, g101_12, g101_14, g101_15, g101, nd_zero, brB]
 have two : ∀ (x y : Nat), 0 < y → Nat.gcd x y = Nat.gcd y (x % y) := fun x y hy => by rw [Nat.gcd_comm x y, Nat.gcd_rec, Nat.gcd_comm]
 intro j
 induction j with
 | zero =>
   intro x y hy hx hyl R k m hm
   have : y = 0 := by simp at hy; omega
   subst this
   obtain ⟨m, rfl⟩ : ∃ j, m = j + 1 := ⟨m - 1, by omega⟩
   rw [stop, Nat.gcd_zero_right]
 | succ j ih =>
   intro x y hy hx hyl R k m hm
   obtain ⟨m, rfl⟩ : ∃ j, m = j + 2 := ⟨m - 2, by omega⟩
   by_cases h0 : y = 0
   ·subst h0; rw [stop, Nat.gcd_zero_right]
   ·have hr := Nat.mod_lt x (Nat.pos_of_ne_zero h0)
    have hl1 : (nd (x % y)).length ≤ 800 := Nat.le_trans (len_nd_mono (Nat.le_of_lt hr)) hyl
    rw [step x y (by omega) hx hyl, two x y (by omega)]
    by_cases h1 : x % y = 0
    ·rw [h1, stop, Nat.gcd_zero_right]
    ·have hh := half_mod (Nat.pos_of_ne_zero h1) hr
     rw [step y (x % y) (by omega) hyl hl1, two y (x % y) (by omega)]
     rw [Nat.pow_succ] at hy
     exact ih (x % y) (y % (x % y)) (by omega) hl1 (Nat.le_trans (len_nd_mono (Nat.mod_le ..)) hyl) k m (by omega)
abbrev Sm (n : Nat) : Prop := n < 2 ^ 800
theorem Sm.len {n : Nat} (h : Sm n) : (nd n).length ≤ 61 := by
 rw [len_nd_le]; exact Nat.lt_of_lt_of_le h (by decide +kernel)
theorem v101 (a b : Nat) (ha : Sm a) (hb : Sm b) : S101 2000 (nd a, ()) (nd b, ()) = some ((nd (Nat.gcd a b), ()), 0) := by
 have la := ha.len; have lb := hb.len
 have c1 : S117 2000 (nd a) = some (nd a) := by unfold S117; rw [if_pos (by omega)]
 have c2 : S117 2000 (nd b) = some (nd b) := by unfold S117; rw [if_pos (by omega)]
 have hg : (nd (Nat.gcd a b)).length ≤ 61 := by
  by_cases h : a = 0
  ·subst h; rw [Nat.gcd_zero_left]; exact lb
  ·exact Nat.le_trans (len_nd_mono (Nat.le_of_dvd (Nat.pos_of_ne_zero h) (Nat.gcd_dvd_left ..))) la
 unfold S101
 simp only [g101_0, g101_1, g101_2, g101_4, g101_5, g101_9, g101_11, g101_12, g101_14, g101_15, g101, vV75 a (by omega), vV75 b (by omega), Option.bind_some, Bool.not_true, brB_false, c1, c2]
 rw [lgcd _ 800 a b hb (by omega) (by omega) _ 2000 (by omega)]
 simp only [v105 _ (dig_nd _) (Nat.le_trans hg (by omega)), Option.bind_some, toN_nd]
theorem ch_le (n k : Nat) : ch n k ≤ 2 ^ n := by
 by_cases h : k ≤ n
 ·have := bin_thm 1 1 n
  simp only [Nat.one_pow, Nat.mul_one] at this
  rw [← this]
  exact su_le (f := fun k => ch n k) (i := k) (by omega)
 ·rw [ch_gt (by omega)]; exact Nat.zero_le _
theorem sm_ch {n : Nat} (h : n < 800) (q : Nat) : Sm (ch n q) := by
 have key : ∀ M, n < M → ch n q < 2 ^ M := fun M h => Nat.lt_of_le_of_lt (ch_le n q) (Nat.pow_lt_pow_right (by decide) h)
 exact key 800 h
theorem lbinom {n : Nat} (hn : n ≤ 400) {e : Nat} (k0 : Nat) (hk : k0 ≤ n) (he : e = if n - k0 < k0 then n - k0 else k0) (x2 : List Int × Unit) : ∀ (d i : Nat), d + i = e + 1 → 0 < i →
  ∀ {R : Type} (k : Int → Int → List Int × Unit → List Int → Int → Option R) (m : Nat), d < m →
    l92_14 (S114 2000) (S115 2000) k m (n : Int) (k0 : Int) x2 (nd (ch n (i - 1))) (i : Int) = k (n : Int) (k0 : Int) x2 (nd (ch n e)) ((e + 1 : Nat) : Int) := by
 intro d
 induction d with
 | zero =>
   intro i hd hi R k m hm
   obtain rfl : i = e + 1 := by omega
   obtain ⟨m, rfl⟩ : ∃ j, m = j + 1 := ⟨m - 1, by omega⟩
   rw [l92_14]
   have w1 : IntKind.i64.wrap ((n : Int) - (k0 : Int)) = ((n - k0 : Nat) : Int) := by rw [wrap_id (by omega)]; omega
   have e0 : decide (((e + 1 : Nat) : Int) ≤ (if ((n - k0 : Nat) : Int) < (k0 : Int) then ((n - k0 : Nat) : Int) else (k0 : Int))) = false := by
    apply decide_eq_false
    subst he
    split <;> split <;> omega
   simp only [g92_0, g92_1, g92_2, g92_4, g92_5, g92_6, g92_10, g92_12, g92_13, g92_14, g92_16, g92_17, g92, w1, e0, brB_false, Nat.add_sub_cancel]
 | succ d ih =>
   intro i hd hi R k m hm
   obtain ⟨m, rfl⟩ : ∃ j, m = j + 1 := ⟨m - 1, by omega⟩
   have hie : i ≤ e := by omega
   have hen : e ≤ n := by subst he; split <;> omega
   have w1 : IntKind.i64.wrap ((n : Int) - (k0 : Int)) = ((n - k0 : Nat) : Int) := by rw [wrap_id (by omega)]; omega
   have e0 : decide ((i : Int) ≤ (if ((n - k0 : Nat) : Int) < (k0 : Int) then ((n - k0 : Nat) : Int) else (k0 : Int))) = true := by
    apply decide_eq_true
    subst he
    split at hie <;> split <;> omega
   have w2 : IntKind.i64.wrap ((n : Int) + 1) = (n : Int) + 1 := wrap_id (by omega)
   have w3 : IntKind.i64.wrap ((n : Int) + 1 - (i : Int)) = ((n + 1 - i : Nat) : Int) := by rw [wrap_id (by omega)]; omega
   have w4 : IntKind.i64.wrap ((i : Int) + 1) = ((i + 1 : Nat) : Int) := by rw [wrap_id (by omega)]; omega
   have cl : ∀ q, (nd (ch n q)).length ≤ 61 := fun q => Sm.len (sm_ch (by omega) q)
   have hmul := v114 (nd (ch n (i - 1))) [((n + 1 - i : Nat) : Int)] (dig_nd _) (Dig.one (by omega)) (by have := cl (i - 1); omega) (by simp)
   rw [toN_nd, toN_one] at hmul
   have hstep : ch n (i - 1) * (n + 1 - i) = ch n i * i := by
    have := ch_step (n := n) (k := i - 1) (by omega)
    rw [show i - 1 + 1 = i by omega, show n - (i - 1) = n + 1 - i by omega] at this
    rw [Nat.mul_comm, ← this, Nat.mul_comm]
   have hl : (nd (ch n (i - 1) * (n + 1 - i))).length ≤ 100 := by
    have h6 := len_mul (ch n (i - 1)) (n + 1 - i)
    have h7 := len_dig (n := n + 1 - i) (by omega)
    have := cl (i - 1); omega
   have hdiv := v115 (nd (ch n (i - 1) * (n + 1 - i))) (dig_nd _) (by omega) hi (by have := len_dig (n := i) (by omega); omega)
   rw [toN_nd, nd_small (n := i) (by omega) (by omega), hstep, Nat.mul_div_cancel _ hi] at hdiv
   rw [l92_14]
   rw [hstep] at hmul
   simp only [g92_0, g92_1, g92_2, g92_4, g92_5, g92_6, g92_10, g92_12, g92_13, g92_14, g92_16, g92_17, g92, w1, e0, brB_true, w2, w3, hmul, hdiv, Option.bind_some, w4]
   have := ih (i + 1) (by omega) (by omega) k m (by omega)
   rw [Nat.add_sub_cancel] at this
   exact this
theorem v92 (n k : Nat) (hn : n ≤ 400) (hk : k ≤ n) : S92 2000 (n : Int) (k : Int) = some ((nd (ch n k), ()), 0) := by
 have e1 : decide ((n : Int) < 0) = false := by simp
 have e2 : decide ((n : Int) > 400) = false := by simp; omega
 have e3 : decide ((k : Int) < 0) = false := by simp
 have e4 : decide ((k : Int) > (n : Int)) = false := by simp; omega
 have cl : ∀ q, (nd (ch n q)).length ≤ 61 := fun q => Sm.len (sm_ch (by omega) q)
 have hb := fun {R : Type} (kk : Int → Int → List Int × Unit → List Int → Int → Option R) => lbinom hn k hk rfl ([], ()) (if n - k < k then n - k else k) 1 rfl (by omega) kk 2000 (by split <;> omega)
 rw [Nat.sub_self, ch_0, nd_small (n := 1) (by omega) (by omega)] at hb
 have hc : ch n (if n - k < k then n - k else k) = ch n k := by
  split
  ·exact ch_symm hk
  ·rfl
 unfold S92
 simp only [g92_0, g92_1, g92_2, g92_4, g92_5, g92_6, g92_10, g92_12, g92_13, g92_14, g92_16, g92_17, g92, e1, e2, e3, e4, brB_false]
 refine (hb _).trans ?_
 simp only [hc, v106 _ (Nat.le_trans (cl k) (by omega)), Option.bind_some]
theorem v64 (n k : Int) (hn : n ≤ 400) : S64 2000 n k = some (nd (if 0 ≤ k ∧ k ≤ n then ch n.toNat k.toNat else 0), ()) := by
 unfold S64
 simp only [g64_0, g64_1, g64_2, g64_6, g64_7, g64]
 have hz := v49 0 (by omega)
 simp only [Int.natCast_zero] at hz
 by_cases h1 : k < 0
 ·have e1 : decide (k < 0) = true := decide_eq_true h1
  simp only [e1, brB_true, hz, Option.bind_some]
  rw [if_neg (by omega)]
 ·have e1 : decide (k < 0) = false := decide_eq_false h1
  by_cases h2 : k > n
  ·have e2 : decide (k > n) = true := decide_eq_true h2
   simp only [e1, e2, brB_true, brB_false, hz, Option.bind_some]
   rw [if_neg (by omega)]
  ·have e2 : decide (k > n) = false := decide_eq_false h2
   obtain ⟨n, rfl⟩ := Int.eq_ofNat_of_zero_le (by omega : 0 ≤ n)
   obtain ⟨k, rfl⟩ := Int.eq_ofNat_of_zero_le (by omega : 0 ≤ k)
   simp only [e1, e2, brB_false, Int.ofNat_eq_natCast, v92 n k (by omega) (by omega), Option.bind_some, Int.toNat_natCast]
   rw [if_pos (by omega)]
end Go.Fw.L51
