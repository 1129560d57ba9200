/- Natural numbers: the reference's quotients, divisors, subsets. -/
import Derived.Test.YtnobiophckdjfaaFwHs51f
set_option linter.unusedVariables false
set_option linter.unusedSimpArgs false
namespace Go.Fw.L51
open Go Go.Fw
set_option maxRecDepth 100000
set_option linter.unusedSimpArgs false
set_option linter.unusedVariables false
theorem zeros_set (n : Nat) (qs : List Int) (v : Int) : (List.replicate (n + 1) 0 ++ qs).set n v = List.replicate n 0 ++ v :: qs := by
 rw [List.replicate_succ', List.append_assoc]
 simp
theorem ldivr {a : List Int} (ha : Dig a) (hal : a.length ≤ 1800) {bn : Nat} (hb : 0 < bn) (hbl : (nd bn).length ≤ 800) : ∀ (n : Nat) (xs t q : List Int) (r : Nat), xs.length = n → a = xs ++ t → Dig q → q.length = t.length → r < bn → toN t = toN q * bn + r →
  ∃ (Q : List Int) (r' : Nat), Dig Q ∧ Q.length = a.length ∧ r' < bn ∧ toN a = toN Q * bn + r' ∧
    ∀ {R : Type} (k : List Int → List Int → List Int → List Int → Int → Option R) (m : Nat), n < m →
      l110_27 2000 (S88 2000) (S90 2000) (S91 2000) (S113 2000) k m a (nd bn) (List.replicate n 0 ++ q) (nd r) ((n : Int) - 1) = k a (nd bn) Q (nd r') (-1) := by
 intro n
 induction n with
 | zero =>
   intro xs t q r hx hat hq hql hr ht
   have : xs = [] := List.length_eq_zero_iff.1 hx
   subst this
   rw [List.nil_append] at hat
   subst hat
   refine ⟨q, r, hq, hql, hr, ht, fun {R} k m hm => ?_⟩
   obtain ⟨m, rfl⟩ : ∃ j, m = j + 1 := ⟨m - 1, by omega⟩
   rw [l110_27]
   have e0 : decide (((0 : Nat) : Int) - 1 ≥ 0) = false := by simp
   simp only [g110_30, g110_3, g110_4, g110_23, g110_8, g110_15, g110_12, g110_13, g110_17, g110_18, g110_22, g110_25, g110_26, g110_27, g110_29, g110_30b, g110, e0, brB_false]
   rfl
 | succ n ih =>
   intro xs t q r hx hat hq hql hr ht
   rcases snoc_cases xs with rfl | ⟨xs, d, rfl⟩
   ·simp at hx
   have hx' : xs.length = n := by simpa using hx
   subst hx'
   have hd := ha d (by rw [hat]; simp)
   obtain ⟨d, rfl⟩ := Int.eq_ofNat_of_zero_le hd.1
   have hd2 : d < 10000 := by omega
   have hal2 : a.length = xs.length + 1 + t.length := by rw [hat]; simp; omega
   have hlen : (nd r).length ≤ (nd bn).length := len_nd_mono (Nat.le_of_lt hr)
   have hr2 : d + 10000 * r < 10000 * bn := by omega
   have hdig : Dig ([(d : Int)] ++ nd r) := (Dig.one (by omega)).app (dig_nd r)
   have htrim := v113 ([(d : Int)] ++ nd r) hdig (by simp; omega)
   have hto : toN ([(d : Int)] ++ nd r) = d + 10000 * r := by simp [toN, toN_nd]
   rw [hto] at htrim
   generalize hR : d + 10000 * r = R' at *
   generalize hO : List.replicate (xs.length + 1) (0 : Int) ++ q = O at *
   have hOl : O.length = a.length := by rw [← hO]; simp; omega
   have hs := fun {R : Type} (k : List Int → List Int → List Int → List Int → Int → Int → Int → Option R) => lsearchr hb hbl hr2 O a (xs.length : Int) 14 0 9999 (by decide) (by omega) (by omega) (by omega) (by omega) k 2000 (by omega)
   simp only [Int.natCast_zero] at hs
   have hlow : R' / bn < 10000 := by rw [Nat.div_lt_iff_lt_mul hb]; exact hr2
   have hsplit : R' = bn * (R' / bn) + R' % bn := (Nat.div_add_mod _ _).symm
   have hmod : R' % bn < bn := Nat.mod_lt _ hb
   generalize R' / bn = L at *
   generalize R' % bn = M at *
   obtain ⟨Q, r', k1, k2, k3, k4, k5⟩ := ih xs ((d : Int) :: t) ((L : Int) :: q) M rfl (by rw [hat]; simp) (Dig.cons (by omega) hq) (by simp [hql]) hmod (by
    simp only [toN, Int.ofNat_eq_natCast, Int.toNat_natCast]
    rw [ht, Nat.add_mul]
    have h1 : 10000 * toN q * bn = 10000 * (toN q * bn) := Nat.mul_assoc ..
    have h2 : L * bn = bn * L := Nat.mul_comm ..
    omega)
   refine ⟨Q, r', k1, k2, k3, k4, fun {R} k m hm => ?_⟩
   obtain ⟨m, rfl⟩ : ∃ j, m = j + 1 := ⟨m - 1, by omega⟩
   have e00 : (((xs.length + 1 : Nat) : Int) - 1) = (xs.length : Int) := by omega
   have e0 : decide ((xs.length : Int) ≥ 0) = true := by simp
   have e1 : (0 ≤ (xs.length : Int) ∧ (xs.length : Int) < (a.length : Int)) := by omega
   have g1 : a.getD xs.length 0 = (d : Int) := by rw [hat]; simp
   have e2 : [(d : Int)].length + (nd r).length ≤ 17592186044416 := by simp; omega
   have e3 : (0 ≤ (xs.length : Int) ∧ (xs.length : Int) < (O.length : Int)) := by omega
   have e4 : xs.length < O.length := by omega
   have w1 : IntKind.i64.wrap ((xs.length : Int) - 1) = (xs.length : Int) - 1 := wrap_id (by omega)
   have hset : O.set xs.length (L : Int) = List.replicate xs.length 0 ++ (L : Int) :: q := by rw [← hO]; exact zeros_set _ _ _
   have hmul := v88 (nd bn) [(L : Int)] (dig_nd bn) (Dig.one (by omega)) (by omega) (by simp)
   rw [toN_nd, toN_one] at hmul
   have hle : bn * L ≤ R' := by omega
   have hRl : (nd R').length ≤ 801 := by
    have : (nd R').length ≤ (nd bn).length + 1 := by
     rw [len_nd_le, Nat.pow_succ]
     have := len_nd_le.1 (Nat.le_refl (nd bn).length)
     omega
    omega
   have hsub := v91 (nd R') (nd (bn * L)) (dig_nd _) (dig_nd _) (by omega) (len_nd_mono hle) (by rw [toN_nd, toN_nd]; exact hle)
   rw [toN_nd, toN_nd, show R' - bn * L = M by omega] at hsub
   rw [l110_27]
   simp only [g110_30, g110_3, g110_4, g110_23, g110_8, g110_15, g110_12, g110_13, g110_17, g110_18, g110_22, g110_25, g110_26, g110_27, g110_29, g110_30b, g110, e00, e0, brB_true, if_pos e1, Int.toNat_natCast, g1, Int.ofNat_eq_natCast, if_pos e2, htrim, Option.bind_some]
   refine (hs _).trans ?_
   simp only [if_pos e3, Int.toNat_natCast, if_pos e4, hset, hmul, hsub, Option.bind_some, w1]
   exact k5 k m (by omega)
theorem v110 (a : List Int) (ha : Dig a) (hal : a.length ≤ 1800) {bn : Nat} (hb : 0 < bn) (hbl : (nd bn).length ≤ 800) : S110 2000 a (nd bn) = some (nd (toN a / bn), nd (toN a % bn)) := by
 obtain ⟨Q, r', k1, k2, k3, k4, k5⟩ := ldivr ha hal hb hbl a.length a [] [] 0 rfl (by simp) Dig.nil rfl hb (by simp [toN])
 have hq : toN Q = toN a / bn := (Nat.div_eq_of_lt_le (by omega) (by rw [k4, Nat.add_mul]; omega)).symm
 have hr : r' = toN a % bn := by rw [k4, Nat.add_comm, Nat.add_mul_mod_self_right, Nat.mod_eq_of_lt k3]
 unfold S110
 simp only [g110_30, g110_3, g110_4, g110_23, g110_8, g110_15, g110_12, g110_13, g110_17, g110_18, g110_22, g110_25, g110_26, g110_27, g110_29, g110_30b, g110]
 have w1 : IntKind.i64.wrap ((a.length : Int) - 1) = (a.length : Int) - 1 := wrap_id (by omega)
 have e1 : (0 ≤ (a.length : Int) ∧ (a.length : Int) ≤ (a.length : Int) ∧ (a.length : Int) ≤ ((17592186044416 : Nat) : Int)) := by omega
 rw [w1, if_pos e1, Int.toNat_natCast]
 have k6 := fun (k : List Int → List Int → List Int → List Int → Int → Option (List Int × List Int)) => k5 k 2000 (by omega)
 simp only [nd_zero, List.append_nil] at k6
 refine (k6 _).trans ?_
 rw [v113 Q k1 (by omega), hq, hr]
 rfl
theorem tm2 (n : Nat) : Int.tmod (n : Int) 2 = ((n % 2 : Nat) : Int) := by
 rw [Int.tmod_eq_emod_of_nonneg (by omega)]; omega
theorem lhalf {a : List Int} (ha : Dig a) (hal : a.length ≤ 1800) : ∀ (n : Nat) (xs t q : List Int) (c : Nat), xs.length = n → a = xs ++ t → Dig q → q.length = t.length → c < 2 → toN t = 2 * toN q + c →
  ∃ (Q : List Int) (c' : Nat), Dig Q ∧ Q.length = a.length ∧ c' < 2 ∧ toN a = 2 * toN Q + c' ∧
    ∀ {R : Type} (k : List Int → List Int → Int → Int → Option R) (m : Nat), n < m →
      l109_13 k m a (List.replicate n 0 ++ q) (c : Int) ((n : Int) - 1) = k a Q (c' : Int) (-1) := by
 intro n
 induction n with
 | zero =>
   intro xs t q c hx hat hq hql hc ht
   have : xs = [] := List.length_eq_zero_iff.1 hx
   subst this
   rw [List.nil_append] at hat
   subst hat
   refine ⟨q, c, hq, hql, hc, ht, fun {R} k m hm => ?_⟩
   obtain ⟨m, rfl⟩ : ∃ j, m = j + 1 := ⟨m - 1, by omega⟩
   rw [l109_13]
   have e0 : decide (((0 : Nat) : Int) - 1 ≥ 0) = false := by simp
   simp only [g109_16, g109_3, g109_4, g109_9, g109_11, g109_12, g109_13, g109_15, g109_16b, g109, e0, brB_false]
   rfl
 | succ n ih =>
   intro xs t q c hx hat hq hql hc ht
   rcases snoc_cases xs with rfl | ⟨xs, d, rfl⟩
   ·simp at hx
   have hx' : xs.length = n := by simpa using hx
   subst hx'
   have hd := ha d (by rw [hat]; simp)
   obtain ⟨d, rfl⟩ := Int.eq_ofNat_of_zero_le hd.1
   have hd2 : d < 10000 := by omega
   have hal2 : a.length = xs.length + 1 + t.length := by rw [hat]; simp; omega
   generalize hO : List.replicate (xs.length + 1) (0 : Int) ++ q = O at *
   have hOl : O.length = a.length := by rw [← hO]; simp; omega
   obtain ⟨Q, c', k1, k2, k3, k4, k5⟩ := ih xs ((d : Int) :: t) ((((c * 10000 + d) / 2 : Nat) : Int) :: q) ((c * 10000 + d) % 2) rfl (by rw [hat]; simp) (Dig.cons (by omega) hq) (by simp [hql]) (by omega) (by
    simp only [toN, Int.ofNat_eq_natCast, Int.toNat_natCast]
    omega)
   refine ⟨Q, c', k1, k2, k3, k4, fun {R} k m hm => ?_⟩
   obtain ⟨m, rfl⟩ : ∃ j, m = j + 1 := ⟨m - 1, by omega⟩
   have e00 : (((xs.length + 1 : Nat) : Int) - 1) = (xs.length : Int) := by omega
   have e0 : decide ((xs.length : Int) ≥ 0) = true := by simp
   have e1 : (0 ≤ (xs.length : Int) ∧ (xs.length : Int) < (a.length : Int)) := by omega
   have g1 : a.getD xs.length 0 = (d : Int) := by rw [hat]; simp
   have e3 : (0 ≤ (xs.length : Int) ∧ (xs.length : Int) < (O.length : Int)) := by omega
   have e4 : xs.length < O.length := by omega
   have w1 : IntKind.i64.wrap ((xs.length : Int) - 1) = (xs.length : Int) - 1 := wrap_id (by omega)
   have w2 : IntKind.i64.wrap ((c : Int) * 10000) = ((c * 10000 : Nat) : Int) := by rw [wrap_id (by omega)]; omega
   have w3 : IntKind.i64.wrap (((c * 10000 : Nat) : Int) + (d : Int)) = ((c * 10000 + d : Nat) : Int) := by rw [← Int.natCast_add]; exact wN (by omega)
   have w4 : IntKind.i64.wrap (((c * 10000 + d) / 2 : Nat) : Int) = (((c * 10000 + d) / 2 : Nat) : Int) := wN (by omega)
   have hset : O.set xs.length (((c * 10000 + d) / 2 : Nat) : Int) = List.replicate xs.length 0 ++ (((c * 10000 + d) / 2 : Nat) : Int) :: q := by rw [← hO]; exact zeros_set _ _ _
   rw [l109_13]
   simp only [g109_16, g109_3, g109_4, g109_9, g109_11, g109_12, g109_13, g109_15, g109_16b, g109, e00, e0, brB_true, if_pos e1, Int.toNat_natCast, g1, Int.ofNat_eq_natCast, w2, w3, if_pos e3, if_pos e4, td2, tm2, w4, hset, w1]
   exact k5 k m (by omega)
theorem v109 (n : Nat) (h : (nd n).length ≤ 1800) : S109 2000 (nd n) = some (nd (n / 2)) := by
 obtain ⟨Q, c', k1, k2, k3, k4, k5⟩ := lhalf (dig_nd n) h (nd n).length (nd n) [] [] 0 rfl (by simp) Dig.nil rfl (by omega) (by simp [toN])
 rw [toN_nd] at k4
 unfold S109
 simp only [g109_16, g109_3, g109_4, g109_9, g109_11, g109_12, g109_13, g109_15, g109_16b, g109]
 have w1 : IntKind.i64.wrap (((nd n).length : Int) - 1) = ((nd n).length : Int) - 1 := wrap_id (by omega)
 have e1 : (0 ≤ ((nd n).length : Int) ∧ ((nd n).length : Int) ≤ ((nd n).length : Int) ∧ ((nd n).length : Int) ≤ ((17592186044416 : Nat) : Int)) := by omega
 rw [if_pos e1, Int.toNat_natCast, w1]
 have k6 := fun (k : List Int → List Int → Int → Int → Option (List Int)) => k5 k 2000 (by omega)
 simp only [Int.natCast_zero, List.append_nil] at k6
 refine (k6 _).trans ?_
 rw [v113 Q k1 (by omega), show toN Q = n / 2 by omega]
 rfl
theorem v108 (n : Nat) : S108 2000 (nd n) = some (decide (n % 2 = 0)) := by
 unfold S108
 simp only [g108_2, g108_2b, g108]
 by_cases h : n = 0
 ·subst h; simp [nd_zero, brB]
 ·have e : (((nd n).length : Int) == 0) = false := by
   have : nd n ≠ [] := fun e => h (nd_nil.1 e)
   have := List.length_pos_iff.2 this
   simp; omega
  have e1 : (0 ≤ (0 : Int) ∧ (0 : Int) < ((nd n).length : Int)) := by
   have : nd n ≠ [] := fun e => h (nd_nil.1 e)
   have := List.length_pos_iff.2 this
   omega
  have g : (nd n).getD (0 : Int).toNat 0 = ((n % 10000 : Nat) : Int) := by rw [nd_pos h]; simp
  simp only [e, brB_false, if_pos e1, g, tm2]
  have : n % 10000 % 2 = n % 2 := by omega
  rw [this]
  by_cases hn : n % 2 = 0
  ·simp [hn]
  ·have : n % 2 = 1 := by omega
   simp [this]
theorem lvalid (l : List Int) (hl : l.length ≤ 100000) : ∀ (ys pre : List Int), l = pre ++ ys → ∀ {R : Type} (k : Bool → Option R) (m : Nat), ys.length < m →
   l86_14 k (fun _ _ _ => k true) m (l, ()) (l.length : Int) (pre.length : Int) = k (!ys.any bad) := by
 intro ys
 induction ys with
 | nil =>
   intro pre hp R k m hm
   have hpre : pre = l := by simpa using hp.symm
   subst hpre
   obtain ⟨m, rfl⟩ : ∃ j, m = j + 1 := ⟨m - 1, by simp at hm; omega⟩
   rw [l86_14]
   have : decide ((pre.length : Int) < (pre.length : Int)) = false := by simp
   simp only [g86_17, g86_2, g86_3, g86_5, g86_6, g86_8, g86_9, g86_12, g86_13, g86_14, g86_16, g86_17b, g86, this, brB_false, List.any_nil, Bool.not_false]
 | cons y ys ih =>
   intro pre hp R k m hm
   have hlen : l.length = pre.length + (ys.length + 1) := by rw [hp]; simp
   obtain ⟨m, rfl⟩ : ∃ j, m = j + 1 := ⟨m - 1, by simp at hm; omega⟩
   have e0 : decide ((pre.length : Int) < (l.length : Int)) = true := by simp; omega
   have e1 : (0 ≤ (pre.length : Int) ∧ (pre.length : Int) < (l.length : Int)) := by omega
   have g1 : l.getD pre.length 0 = y := by rw [hp]; simp
   have w6 : IntKind.i64.wrap ((pre.length : Int) + 1) = ((pre ++ [y]).length : Int) := by rw [wrap_id (by omega)]; simp
   have fin := ih (pre ++ [y]) (by rw [hp]; simp) k m (by simp at hm; omega)
   rw [l86_14]
   simp only [g86_17, g86_2, g86_3, g86_5, g86_6, g86_8, g86_9, g86_12, g86_13, g86_14, g86_16, g86_17b, g86, e0, brB_true, if_pos e1, Int.toNat_natCast, g1, w6]
   cases h1 : decide (y < 0) with
   | true => simp [brB, bad, h1]
   | false =>
     simp only [brB_false]
     cases h2 : decide (y ≥ 10000) with
     | true => simp [brB, bad, h1, h2]
     | false =>
       simp only [brB_false]
       rw [fin]
       simp [bad, h1, h2]
theorem v86 (l : List Int) : S86 2000 (l, ()) = some (okN l) := by
 unfold S86
 simp only [g86_17, g86_2, g86_3, g86_5, g86_6, g86_8, g86_9, g86_12, g86_13, g86_14, g86_16, g86_17b, g86]
 by_cases h : l.length ≤ 200
 ·have e0 : decide ((l.length : Int) > 200) = false := by simp; omega
  have hc := lvalid l (by omega) l [] rfl (R := Bool) some 2000 (by omega)
  simp only [List.length_nil, Int.natCast_zero] at hc
  simp only [e0, brB_false]
  rcases snoc_cases l with rfl | ⟨ys, d, rfl⟩
  ·refine (show _ = _ from hc).trans ?_
   rfl
  ·have e1 : decide (((ys ++ [d]).length : Int) > 0) = true := by simp <;> omega
   have e2 : IntKind.i64.wrap (((ys ++ [d]).length : Int) - 1) = (ys.length : Int) := by rw [List.length_append]; exact wsub1 (by simp at h; omega)
   have e3 : (0 ≤ (ys.length : Int) ∧ (ys.length : Int) < ((ys ++ [d]).length : Int)) := by simp <;> omega
   simp only [e1, brB_true, e2, if_pos e3, Int.toNat_natCast, getD_snoc]
   unfold okN
   by_cases hd : d = 0
   ·subst hd
    simp [brB]
   ·have : (d == (0 : Int)) = false := by simpa using hd
    simp only [this, brB_false]
    refine (show _ = _ from hc).trans ?_
    simp only [List.length_append, List.length_singleton] at h
    simp [hd, h]
 ·have e0 : decide ((l.length : Int) > 200) = true := by simp; omega
  simp [e0, brB, okN, h]
theorem vV86 (n : Nat) (h : (nd n).length ≤ 200) : S86 2000 (nd n, ()) = some true := by
 rw [v86, okN_nd h]
theorem v87 (n : Nat) (h : (nd n).length ≤ 200) : S87 2000 (nd n) = some ((nd n, ()), 0) := by
 unfold S87
 have e0 : decide (((nd n).length : Int) > 200) = false := by simp; omega
 simp only [g87_0, g87_1, g87_2, g87_4, g87_5, g87, e0, brB_false]
theorem lofr {R : Type} (k : Int → List Int × Unit → List Int → Option R) (x : List Int × Unit) : ∀ (j n : Nat) (o : List Int) (m : Nat), n < 10000 ^ j → n ≤ 9223372036854775807 → j < m → o.length + j ≤ 1000 →
  l111_12 k m (n : Int) x o = k 0 x (o ++ nd n) := by
 intro j
 induction j with
 | zero =>
   intro n o m hn hb hm hj
   have : n = 0 := by simp at hn; omega
   subst this
   obtain ⟨m, rfl⟩ : ∃ j, m = j + 1 := ⟨m - 1, by omega⟩
   rw [l111_12]
   simp [g111_0, g111_1, g111_2, g111_4, g111_5, g111_9, g111_11, g111_12, g111_14, g111_15, g111, brB, nd_zero]
 | succ j ih =>
   intro n o m hn hb hm hj
   obtain ⟨m, rfl⟩ : ∃ j, m = j + 1 := ⟨m - 1, by omega⟩
   rw [l111_12]
   simp only [g111_0, g111_1, g111_2, g111_4, g111_5, g111_9, g111_11, g111_12, g111_14, g111_15, g111]
   by_cases h0 : n = 0
   ·subst h0; simp [brB, nd_zero]
   ·have e0 : decide ((n : Int) > 0) = true := by simp; omega
    have e1 : ∀ z : Int, o.length + [z].length ≤ 17592186044416 := fun z => by simp; omega
    rw [Nat.pow_succ] at hn
    have w : IntKind.i64.wrap (((n / 10000 : Nat)) : Int) = ((n / 10000 : Nat) : Int) := wN (by omega)
    simp only [e0, brB_true, tmN, tdN, if_pos (e1 _), w]
    rw [ih (n / 10000) _ m (by omega) (by omega) (by omega) (by simp; omega), nd_pos h0]
    simp
theorem v111 (n : Nat) (h : n ≤ 9223372036854775807) : S111 2000 (n : Int) = some ((nd n, ()), 0) := by
 unfold S111
 have e0 : decide ((n : Int) < 0) = false := by simp
 simp only [g111_0, g111_1, g111_2, g111_4, g111_5, g111_9, g111_11, g111_12, g111_14, g111_15, g111, e0, brB_false]
 rw [lofr _ _ 5 n [] 2000 (by omega) h (by omega) (by simp)]
 rfl
theorem v85 (n : Nat) (h : n ≤ 9223372036854775807) : S85 2000 (n : Int) = some (nd n, ()) := by
 unfold S85
 simp only [g85_3, g85_3b, g85, v111 n h, Option.bind_some]
theorem v53 (n : Nat) (h : n ≤ 9223372036854775807) : S53 2000 (n : Int) = some (nd n, ()) := by
 unfold S53
 have e : (if (0 : Int) > (n : Int) then (0 : Int) else (n : Int)) = (n : Int) := if_neg (by omega)
 simp only [g53_2, g53_2b, g53, e, v85 n h, Option.bind_some]
theorem v58 (a b : Nat) (ha : (nd a).length ≤ 200) (hb : (nd b).length ≤ 200) (h : (nd (a * b)).length ≤ 200) : S58 2000 (nd a, ()) (nd b, ()) = some ((nd (a * b), ()), 0) := by
 have hm := v88 (nd a) (nd b) (dig_nd a) (dig_nd b) (by omega) (by omega)
 rw [toN_nd, toN_nd] at hm
 unfold S58
 simp only [g58_0, g58_1, g58_2, g58_4, g58_5, g58, vV86 a ha, vV86 b hb, Option.bind_some, Bool.not_true, brB_false, hm, v87 _ h]
theorem v59 (a b : Nat) (ha : (nd a).length ≤ 200) (hb : (nd b).length ≤ 200) (h : (nd (a + b)).length ≤ 200) : S59 2000 (nd a, ()) (nd b, ()) = some ((nd (a + b), ()), 0) := by
 have hm := v89 (nd a) (nd b) (dig_nd a) (dig_nd b) (by omega) (by omega)
 rw [toN_nd, toN_nd] at hm
 unfold S59
 simp only [g59_0, g59_1, g59_2, g59_4, g59_5, g59, vV86 a ha, vV86 b hb, Option.bind_some, Bool.not_true, brB_false, hm, v87 _ h]
theorem v84 (a b : Nat) (ha : (nd a).length ≤ 200) (hb : (nd b).length ≤ 200) (h : 0 < b) : S84 2000 (nd a, ()) (nd b, ()) = some ((nd (a / b), ()), (nd (a % b), ()), 0) := by
 have hm := v110 (nd a) (dig_nd a) (by omega) h (by omega)
 rw [toN_nd] at hm
 have e0 : (((nd b).length : Int) == 0) = false := by
  have : nd b ≠ [] := fun e => by have := nd_nil.1 e; omega
  have := List.length_pos_iff.2 this
  simp; omega
 unfold S84
 simp only [g84_0, g84_1, g84_2, g84_4, g84_5, g84_9, g84_10, g84, vV86 a ha, vV86 b hb, Option.bind_some, Bool.not_true, brB_false, e0, hm]
theorem odd_cop {y : Nat} (h : y % 2 = 1) : Nat.Coprime 2 y := by
 have h1 := Nat.gcd_rec 2 y
 rw [h] at h1
 exact h1.trans (by decide)
theorem lgcdr (x0 : List Int × Unit) : ∀ (t a b x y : Nat), a + b = t → x < 2 ^ a → y < 2 ^ b → 0 < x → ∀ (tw : Nat), (nd x).length ≤ 800 → (nd y).length ≤ 800 → tw + t ≤ 100000 →
  ∃ (x' tw' : Nat), x' * 2 ^ tw' = Nat.gcd x y * 2 ^ tw ∧ tw' ≤ tw + t ∧ ∀ {R : Type} (k : List Int × Unit → List Int → List Int → Int → Option R) (m : Nat), 2 * t + 1 < m →
    l83_29 (S90 2000) (S91 2000) (S108 2000) (S109 2000) k m x0 (nd x) (nd y) (tw : Int) = k x0 (nd x') [] (tw' : Int) := by
 -- what a round makes of two numbers
 have stop : ∀ (x tw : Nat) {R : Type} (k : List Int × Unit → List Int → List Int → Int → Option R) (m : Nat), 0 < m → l83_29 (S90 2000) (S91 2000) (S108 2000) (S109 2000) k m x0 (nd x) [] (tw : Int) = k x0 (nd x) [] (tw : Int) := by
  intro x tw R k m hm
  obtain ⟨m, rfl⟩ : ∃ j, m = j + 1 := ⟨m - 1, by omega⟩
  rw [l83_29]
  simp [g83_0, g83_1, g83_2, g83_4, g83_5, g83_6, g83_8, g83_9, g83_11, g83_14, g83_15, g83_16, g83_17, g83_18, g83_19, g83_20, g83_21, g83_28, g83_29, g83_31, g83_32, g83_33, g83_35, g83_37, g83_38, g83_39, g83_41, g83_42, g83, brB]
 have pos : ∀ y : Nat, 0 < y → decide (((nd y).length : Int) > 0) = true := by
  intro y hy
  have : nd y ≠ [] := fun e => by have := nd_nil.1 e; omega
  have := List.length_pos_iff.2 this
  simp; omega
 have step : ∀ (x y tw : Nat), 0 < x → 0 < y → (nd x).length ≤ 800 → (nd y).length ≤ 800 → tw ≤ 1000000 → ∀ {R : Type} (k : List Int × Unit → List Int → List Int → Int → Option R) (m : Nat),
   l83_29 (S90 2000) (S91 2000) (S108 2000) (S109 2000) k (m + 1) x0 (nd x) (nd y) (tw : Int) =
   (if x % 2 = 0 ∧ y % 2 = 0 then l83_29 (S90 2000) (S91 2000) (S108 2000) (S109 2000) k m x0 (nd (x / 2)) (nd (y / 2)) ((tw + 1 : Nat) : Int)
   else if x % 2 = 0 then l83_29 (S90 2000) (S91 2000) (S108 2000) (S109 2000) k m x0 (nd (x / 2)) (nd y) (tw : Int)
   else if y % 2 = 0 then l83_29 (S90 2000) (S91 2000) (S108 2000) (S109 2000) k m x0 (nd x) (nd (y / 2)) (tw : Int)
   else if y < x then l83_29 (S90 2000) (S91 2000) (S108 2000) (S109 2000) k m x0 (nd y) (nd (x - y)) (tw : Int)
   else l83_29 (S90 2000) (S91 2000) (S108 2000) (S109 2000) k m x0 (nd x) (nd (y - x)) (tw : Int)) := by
  intro x y tw hx hy hxl hyl htw R k m
  have w1 : IntKind.i64.wrap ((tw : Int) + 1) = ((tw + 1 : Nat) : Int) := by rw [wrap_id (by omega)]; omega
  rw [l83_29]
  simp only [g83_0, g83_1, g83_2, g83_4, g83_5, g83_6, g83_8, g83_9, g83_11, g83_14, g83_15, g83_16, g83_17, g83_18, g83_19, g83_20, g83_21, g83_28, g83_29, g83_31, g83_32, g83_33, g83_35, g83_37, g83_38, g83_39, g83_41, g83_42, g83, pos y hy, brB_true, v108, v109 x (by omega), v109 y (by omega), Option.bind_some]
  by_cases h1 : x % 2 = 0
  ·by_cases h2 : y % 2 = 0
   ·simp only [h1, h2, decide_true, brB_true, and_self, if_true, w1]
   ·simp only [h1, h2, decide_true, decide_false, brB_true, brB_false, and_false, if_true, if_false]
  ·simp only [h1, decide_false, brB_false, false_and, if_false]
   by_cases h2 : y % 2 = 0
   ·simp only [h2, decide_true, brB_true, if_true]
   ·simp only [h2, decide_false, brB_false, if_false, v90 x y (by omega) (by omega), Option.bind_some]
    by_cases h3 : y < x
    ·have e : decide (cmpN x y > 0) = true := decide_eq_true (cmpN_gt.2 h3)
     have hl := v91 (nd x) (nd y) (dig_nd x) (dig_nd y) (by omega) (len_nd_mono (by omega)) (by rw [toN_nd, toN_nd]; omega)
     rw [toN_nd, toN_nd] at hl
     simp only [e, brB_true, hl, Option.bind_some, if_pos h3]
    ·have e : decide (cmpN x y > 0) = false := decide_eq_false fun hc => h3 (cmpN_gt.1 hc)
     have hl := v91 (nd y) (nd x) (dig_nd y) (dig_nd x) (by omega) (len_nd_mono (by omega)) (by rw [toN_nd, toN_nd]; omega)
     rw [toN_nd, toN_nd] at hl
     simp only [e, brB_false, hl, Option.bind_some, if_neg h3]
 have lh : ∀ z : Nat, (nd z).length ≤ 800 → (nd (z / 2)).length ≤ 800 := fun z h => Nat.le_trans (len_nd_mono (Nat.div_le_self ..)) h
 have ls : ∀ z u : Nat, (nd z).length ≤ 800 → (nd (z - u)).length ≤ 800 := fun z u h => Nat.le_trans (len_nd_mono (Nat.sub_le ..)) h
 intro t
 induction t using Nat.strongRecOn with
 | ind t ih =>
   intro a b x y hab hxa hyb hx tw hxl hyl htw
   by_cases hy0 : y = 0
   ·subst hy0
    refine ⟨x, tw, by rw [Nat.gcd_zero_right], by omega, fun {R} k m hm => ?_⟩
    rw [nd_zero]
    exact stop x tw k m (by omega)
   have hy : 0 < y := Nat.pos_of_ne_zero hy0
   obtain ⟨a, rfl⟩ : ∃ j, a = j + 1 := by
    cases a with
    | zero => simp at hxa; omega
    | succ j => exact ⟨j, rfl⟩
   obtain ⟨b, rfl⟩ : ∃ j, b = j + 1 := by
    cases b with
    | zero => simp at hyb; omega
    | succ j => exact ⟨j, rfl⟩
   rw [Nat.pow_succ] at hxa hyb
   by_cases h1 : x % 2 = 0
   ·by_cases h2 : y % 2 = 0
    ·obtain ⟨x', tw', g1, g2, g3⟩ := ih (a + b) (by omega) a b (x / 2) (y / 2) rfl (by omega) (by omega) (by omega) (tw + 1) (lh x hxl) (lh y hyl) (by omega)
     refine ⟨x', tw', ?_, by omega, fun {R} k m hm => ?_⟩
     ·rw [g1, Nat.pow_succ]
      have hx2 : x = 2 * (x / 2) := by omega
      have hy2 : y = 2 * (y / 2) := by omega
      conv => rhs; rw [hx2, hy2, Nat.gcd_mul_left]
      rw [Nat.mul_comm (2 ^ tw) 2, ← Nat.mul_assoc, Nat.mul_comm (Nat.gcd _ _) 2]
     ·obtain ⟨m, rfl⟩ : ∃ j, m = j + 1 := ⟨m - 1, by omega⟩
      rw [step x y tw hx hy hxl hyl (by omega), if_pos ⟨h1, h2⟩]
      exact g3 k m (by omega)
    ·obtain ⟨x', tw', g1, g2, g3⟩ := ih (a + (b + 1)) (by omega) a (b + 1) (x / 2) y rfl (by omega) (by rw [Nat.pow_succ]; exact hyb) (by omega) tw (lh x hxl) hyl (by omega)
     refine ⟨x', tw', ?_, by omega, fun {R} k m hm => ?_⟩
     ·rw [g1]
      have hx2 : x = 2 * (x / 2) := by omega
      conv => rhs; rw [hx2, Nat.Coprime.gcd_mul_left_cancel _ (odd_cop (by omega))]
     ·obtain ⟨m, rfl⟩ : ∃ j, m = j + 1 := ⟨m - 1, by omega⟩
      rw [step x y tw hx hy hxl hyl (by omega), if_neg (by omega), if_pos h1]
      exact g3 k m (by omega)
   ·by_cases h2 : y % 2 = 0
    ·obtain ⟨x', tw', g1, g2, g3⟩ := ih (a + 1 + b) (by omega) (a + 1) b x (y / 2) rfl (by rw [Nat.pow_succ]; exact hxa) (by omega) hx tw hxl (lh y hyl) (by omega)
     refine ⟨x', tw', ?_, by omega, fun {R} k m hm => ?_⟩
     ·rw [g1]
      have hy2 : y = 2 * (y / 2) := by omega
      conv => rhs; rw [Nat.gcd_comm, hy2, Nat.Coprime.gcd_mul_left_cancel _ (odd_cop (by omega)), Nat.gcd_comm]
     ·obtain ⟨m, rfl⟩ : ∃ j, m = j + 1 := ⟨m - 1, by omega⟩
      rw [step x y tw hx hy hxl hyl (by omega), if_neg (by omega), if_neg h1, if_pos h2]
      exact g3 k m (by omega)
    ·by_cases h3 : y < x
     ·-- both odd, the first one greater: two rounds
      obtain ⟨x', tw', g1, g2, g3⟩ := ih (b + 1 + a) (by omega) (b + 1) a y ((x - y) / 2) rfl (by rw [Nat.pow_succ]; exact hyb) (by omega) hy tw hyl (lh _ (ls x y hxl)) (by omega)
      refine ⟨x', tw', ?_, by omega, fun {R} k m hm => ?_⟩
      ·rw [g1]
       have hd : x - y = 2 * ((x - y) / 2) := by omega
       rw [Nat.gcd_comm x y, ← Nat.gcd_sub_self_right (m := y) (n := x) (by omega)]
       conv => rhs; rw [Nat.gcd_comm, hd, Nat.Coprime.gcd_mul_left_cancel _ (odd_cop (by omega)), Nat.gcd_comm]
      ·obtain ⟨m, rfl⟩ : ∃ j, m = j + 2 := ⟨m - 2, by omega⟩
       rw [step x y tw hx hy hxl hyl (by omega), if_neg (by omega), if_neg h1, if_neg h2, if_pos h3]
       rw [step y (x - y) tw hy (by omega) hyl (ls x y hxl) (by omega), if_neg (by omega), if_neg (by omega), if_pos (by omega)]
       exact g3 k m (by omega)
     ·obtain ⟨x', tw', g1, g2, g3⟩ := ih (a + 1 + b) (by omega) (a + 1) b x ((y - x) / 2) rfl (by rw [Nat.pow_succ]; exact hxa) (by omega) hx tw hxl (lh _ (ls y x hyl)) (by omega)
      refine ⟨x', tw', ?_, by omega, fun {R} k m hm => ?_⟩
      ·rw [g1]
       have hd : y - x = 2 * ((y - x) / 2) := by omega
       rw [← Nat.gcd_sub_self_right (m := x) (n := y) (by omega)]
       conv => rhs; rw [Nat.gcd_comm, hd, Nat.Coprime.gcd_mul_left_cancel _ (odd_cop (by omega)), Nat.gcd_comm]
      ·obtain ⟨m, rfl⟩ : ∃ j, m = j + 2 := ⟨m - 2, by omega⟩
       rw [step x y tw hx hy hxl hyl (by omega), if_neg (by omega), if_neg h1, if_neg h2, if_neg h3]
       by_cases hz : y - x = 0
       ·have e : (y - x) / 2 = 0 := by omega
        have g4 := g3 k (m + 1) (by omega)
        rw [e] at g4
        rw [hz]; exact g4
       ·rw [step x (y - x) tw hx (by omega) hxl (ls y x hyl) (by omega), if_neg (by omega), if_neg h1, if_pos (by omega)]
        exact g3 k m (by omega)
theorem ldouble (x0 : List Int × Unit) (tw : Nat) (ht : tw ≤ 100000) : ∀ (d i x : Nat), d + i = tw → (nd (x * 2 ^ d)).length ≤ 800 → ∀ {R : Type} (k : List Int × Unit → Int → List Int → Int → Option R) (m : Nat), d < m →
  l83_39 (S89 2000) k m x0 (tw : Int) (nd x) (i : Int) = k x0 (tw : Int) (nd (x * 2 ^ d)) (tw : Int) := by
 intro d
 induction d with
 | zero =>
   intro i x hd hl R k m hm
   have : i = tw := by omega
   subst this
   obtain ⟨m, rfl⟩ : ∃ j, m = j + 1 := ⟨m - 1, by omega⟩
   rw [l83_39]
   simp [g83_0, g83_1, g83_2, g83_4, g83_5, g83_6, g83_8, g83_9, g83_11, g83_14, g83_15, g83_16, g83_17, g83_18, g83_19, g83_20, g83_21, g83_28, g83_29, g83_31, g83_32, g83_33, g83_35, g83_37, g83_38, g83_39, g83_41, g83_42, g83, brB]
 | succ d ih =>
   intro i x hd hl R k m hm
   obtain ⟨m, rfl⟩ : ∃ j, m = j + 1 := ⟨m - 1, by omega⟩
   have e0 : decide ((i : Int) < (tw : Int)) = true := by simp; omega
   have w1 : IntKind.i64.wrap ((i : Int) + 1) = ((i + 1 : Nat) : Int) := by rw [wrap_id (by omega)]; omega
   have hx : x * 2 ^ (d + 1) = (x + x) * 2 ^ d := by rw [Nat.pow_succ, Nat.mul_comm (2 ^ d) 2, ← Nat.mul_assoc]; congr 1; omega
   have hxl : (nd x).length ≤ 800 := Nat.le_trans (len_nd_mono (Nat.le_mul_of_pos_right _ (Nat.pow_pos (by decide)))) hl
   have hs := v89 (nd x) (nd x) (dig_nd x) (dig_nd x) (by omega) (by omega)
   rw [toN_nd] at hs
   rw [l83_39]
   simp only [g83_0, g83_1, g83_2, g83_4, g83_5, g83_6, g83_8, g83_9, g83_11, g83_14, g83_15, g83_16, g83_17, g83_18, g83_19, g83_20, g83_21, g83_28, g83_29, g83_31, g83_32, g83_33, g83_35, g83_37, g83_38, g83_39, g83_41, g83_42, g83, e0, brB_true, hs, Option.bind_some, w1]
   rw [hx] at hl ⊢
   exact ih (i + 1) (x + x) (by omega) hl k m (by omega)
theorem v83 (a b x y : Nat) (ha : x < 2 ^ a) (hb : y < 2 ^ b) (hab : a + b ≤ 990) : S83 2000 (nd x, ()) (nd y, ()) = some ((nd (Nat.gcd x y), ()), 0) := by
 have h1 : (nd x).length ≤ 76 := by
  rw [len_nd_le]; exact Nat.lt_of_lt_of_le ha (Nat.le_trans (Nat.pow_le_pow_right (by decide) (by omega : a ≤ 990)) (by decide +kernel))
 have h2 : (nd y).length ≤ 76 := by
  rw [len_nd_le]; exact Nat.lt_of_lt_of_le hb (Nat.le_trans (Nat.pow_le_pow_right (by decide) (by omega : b ≤ 990)) (by decide +kernel))
 unfold S83
 simp only [g83_0, g83_1, g83_2, g83_4, g83_5, g83_6, g83_8, g83_9, g83_11, g83_14, g83_15, g83_16, g83_17, g83_18, g83_19, g83_20, g83_21, g83_28, g83_29, g83_31, g83_32, g83_33, g83_35, g83_37, g83_38, g83_39, g83_41, g83_42, g83, vV86 x (by omega), vV86 y (by omega), Option.bind_some, Bool.not_true, brB_false]
 by_cases h0 : x = 0
 ·subst h0
  simp [nd_zero, brB, Nat.gcd_zero_left]
  omega
 ·have e0 : (((nd x).length : Int) == 0) = false := by
   have : nd x ≠ [] := fun e => h0 (nd_nil.1 e)
   have := List.length_pos_iff.2 this
   simp; omega
  obtain ⟨x', tw, g1, g2, g3⟩ := lgcdr ([], ()) (a + b) a b x y rfl ha hb (by omega) 0 (by omega) (by omega) (by omega)
  rw [Nat.pow_zero, Nat.mul_one] at g1
  have hg : (nd (Nat.gcd x y)).length ≤ 76 := Nat.le_trans (len_nd_mono (Nat.le_of_dvd (Nat.pos_of_ne_zero h0) (Nat.gcd_dvd_left ..))) h1
  have hx' : (nd x').length ≤ 76 := Nat.le_trans (len_nd_mono (by rw [← g1]; exact Nat.le_mul_of_pos_right _ (Nat.pow_pos (by decide)))) hg
  simp only [e0, brB_false]
  have g4 := fun {R : Type} (k : List Int × Unit → List Int → List Int → Int → Option R) => g3 k 2000 (by omega)
  simp only [Int.natCast_zero] at g4
  refine (g4 _).trans ?_
  rw [if_pos (by simp; omega)]
  have d1 := fun {R : Type} (k : List Int × Unit → Int → List Int → Int → Option R) => ldouble ([], ()) tw (by omega) tw 0 x' (by omega) (by rw [g1]; omega) k 2000 (by omega)
  simp only [Int.natCast_zero] at d1
  rw [List.nil_append]
  refine (d1 _).trans ?_
  rw [g1]
end Go.Fw.L51
