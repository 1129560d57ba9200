/- Natural numbers: quotients, divisors, subsets. -/
import Derived.Test.YtnobiophckdjfaaFwHs51c
set_option linter.unusedVariables false
set_option linter.unusedSimpArgs false
namespace Go.Fw.L51
open Go Go.Fw
set_option maxRecDepth 100000
set_option linter.unusedSimpArgs false
set_option linter.unusedVariables false
theorem len_mul (x y : Nat) : (nd (x * y)).length ≤ (nd x).length + (nd y).length := by
 rw [len_nd_le, Nat.pow_add]
 exact Nat.mul_lt_mul'' (len_nd_le.1 (Nat.le_refl _)) (len_nd_le.1 (Nat.le_refl _))
theorem len_dig {n : Nat} (h : n < 10000) : (nd n).length ≤ 1 := by rw [len_nd_le]; simpa using h
theorem cmpN_le {a b : Nat} : cmpN a b ≤ 0 ↔ a ≤ b := by
 unfold cmpN
 split
 ·omega
 ·split <;> omega
theorem td2 (n : Nat) : Int.tdiv (n : Int) 2 = ((n / 2 : Nat) : Int) := by
 rw [Int.tdiv_eq_ediv_of_nonneg (by omega)]; omega
theorem toN_one (n : Nat) : toN [(n : Int)] = n := by simp [toN]
theorem lsearch {bn r : Nat} (hb : 0 < bn) (hbl : (nd bn).length ≤ 800) (hr : r < 10000 * bn) (q a : List Int) (i : Int) : ∀ (j low high : Nat), high - low < 2 ^ j → low ≤ high → high ≤ 9999 → low * bn ≤ r → r < (high + 1) * bn →
  ∀ {R : Type} (k : List Int → List Int → List Int → List Int → Int → Int → Int → Option R) (m : Nat), j < m →
    l115_17 (S96 2000) (S114 2000) k m a (nd bn) q (nd r) i (low : Int) (high : Int) = k a (nd bn) q (nd r) i ((r / bn : Nat) : Int) ((r / bn : Nat) : Int) := by
 have hrl : (nd r).length ≤ 801 := by
  have h1 := len_mul 10000 bn
  have h2 := len_nd_mono (Nat.le_of_lt hr)
  have h3 : (nd 10000).length ≤ 2 := by rw [len_nd_le]; decide
  have h4 : (nd r).length ≤ (nd bn).length + 1 := by
   rw [len_nd_le, Nat.pow_succ]
   have := len_nd_le.1 (Nat.le_refl (nd bn).length)
   omega
  omega
 intro j
 induction j with
 | zero =>
   intro low high h1 h2 h3 h4 h5 R k m hm
   have : low = high := by simp at h1; omega
   subst this
   obtain ⟨m, rfl⟩ : ∃ j, m = j + 1 := ⟨m - 1, by omega⟩
   unfold l115_17
   simp only [g115_33, g115_2, g115_3, g115_24, g115_7, g115_14, g115_11, g115_12, g115_16, g115_17, g115_19, g115_20, g115_22, g115_23, g115_26, g115_27, g115_28, g115_32, g115_33b, g115]
   have e0 : decide ((low : Int) < (low : Int)) = false := by simp
   have hq : r / bn = low := Nat.div_eq_of_lt_le (by rw [Nat.mul_comm] at h4; rw [Nat.mul_comm]; exact h4) (by simpa [Nat.mul_comm] using h5)
   simp only [e0, brB_false, hq]
 | succ j ih =>
   intro low high h1 h2 h3 h4 h5 R k m hm
   obtain ⟨m, rfl⟩ : ∃ j, m = j + 1 := ⟨m - 1, by omega⟩
   unfold l115_17
   simp only [g115_33, g115_2, g115_3, g115_24, g115_7, g115_14, g115_11, g115_12, g115_16, g115_17, g115_19, g115_20, g115_22, g115_23, g115_26, g115_27, g115_28, g115_32, g115_33b, g115]
   by_cases he : low = high
   ·subst he
    have e0 : decide ((low : Int) < (low : Int)) = false := by simp
    have hq : r / bn = low := Nat.div_eq_of_lt_le (by rw [Nat.mul_comm] at h4; rw [Nat.mul_comm]; exact h4) (by simpa [Nat.mul_comm] using h5)
    simp only [e0, brB_false, hq]
   ·have e0 : decide ((low : Int) < (high : Int)) = true := by simp; omega
    have w1 : IntKind.i64.wrap ((low : Int) + (high : Int)) = ((low + high : Nat) : Int) := by rw [← Int.natCast_add]; exact wN (by omega)
    have w2 : IntKind.i64.wrap (((low + high : Nat) : Int) + 1) = ((low + high + 1 : Nat) : Int) := by rw [wrap_id (by omega)]; omega
    have w3 : IntKind.i64.wrap (((low + high + 1) / 2 : Nat) : Int) = (((low + high + 1) / 2 : Nat) : Int) := wN (by omega)
    rw [Nat.pow_succ] at h1
    generalize hmid : (low + high + 1) / 2 = mid at *
    have hm1 : low < mid ∧ mid ≤ high := by omega
    have hmul := v114 (nd bn) [(mid : Int)] (dig_nd bn) (Dig.one (by omega)) (by omega) (by simp)
    rw [toN_nd, toN_one] at hmul
    have hcl : (nd (bn * mid)).length ≤ 1900 := by
     have h6 := len_mul bn mid
     have h7 := len_dig (n := mid) (by omega)
     omega
    have hcmp := v96 (bn * mid) r hcl (by omega)
    simp only [e0, brB_true, w1, w2, td2, hmid, w3, hmul, hcmp, Option.bind_some]
    by_cases hle : bn * mid ≤ r
    ·have e1 : decide (cmpN (bn * mid) r ≤ 0) = true := decide_eq_true (cmpN_le.2 hle)
     simp only [e1, brB_true]
     exact ih mid high (by omega) hm1.2 h3 (by rw [Nat.mul_comm]; exact hle) h5 k m (by omega)
    ·have e1 : decide (cmpN (bn * mid) r ≤ 0) = false := decide_eq_false fun h => hle (cmpN_le.1 h)
     have w4 : IntKind.i64.wrap ((mid : Int) - 1) = ((mid - 1 : Nat) : Int) := by rw [wrap_id (by omega)]; omega
     simp only [e1, brB_false, w4]
     refine ih low (mid - 1) (by omega) (by omega) (by omega) h4 ?_ k m (by omega)
     rw [show mid - 1 + 1 = mid by omega, Nat.mul_comm]; omega
theorem ldiv {a : List Int} (ha : Dig a) (hal : a.length ≤ 1800) {bn : Nat} (hb : 0 < bn) (hbl : (nd bn).length ≤ 800) : ∀ (n : Nat) (xs t q : List Int) (r : Nat), xs.length = n → a = xs ++ t → Dig q → q.length = t.length → r < bn → toN t = toN q.reverse * bn + r →
  ∃ (Q : List Int) (r' : Nat), Dig Q ∧ Q.length = a.length ∧ r' < bn ∧ toN a = toN Q.reverse * bn + r' ∧
    ∀ {R : Type} (k : List Int → List Int → List Int → List Int → Int → Option R) (m : Nat), n < m →
      l115_28 2000 (S96 2000) (S114 2000) (S118 2000) (S119 2000) k m a (nd bn) q (nd r) ((n : Int) - 1) = k a (nd bn) Q (nd r') (-1) := by
 intro n
 induction n with
 | zero =>
   intro xs t q r hx hat hq hql hr ht
   have : xs = [] := List.length_eq_zero_iff.1 hx
   subst this
   rw [List.nil_append] at hat
   subst hat
   refine ⟨q, r, hq, hql, hr, ht, fun {R} k m hm => ?_⟩
   obtain ⟨m, rfl⟩ : ∃ j, m = j + 1 := ⟨m - 1, by omega⟩
   unfold l115_28
   simp only [g115_33, g115_2, g115_3, g115_24, g115_7, g115_14, g115_11, g115_12, g115_16, g115_17, g115_19, g115_20, g115_22, g115_23, g115_26, g115_27, g115_28, g115_32, g115_33b, g115]
   have e0 : decide (((0 : Nat) : Int) - 1 ≥ 0) = false := by simp
   simp only [e0, brB_false]
   rfl
 | succ n ih =>
   intro xs t q r hx hat hq hql hr ht
   rcases snoc_cases xs with rfl | ⟨xs, d, rfl⟩
   ·simp at hx
   have hx' : xs.length = n := by simpa using hx
   subst hx'
   have hd := ha d (by rw [hat]; simp)
   obtain ⟨d, rfl⟩ := Int.eq_ofNat_of_zero_le hd.1
   have hd2 : d < 10000 := by omega
   have hal2 : a.length = xs.length + 1 + t.length := by rw [hat]; simp; omega
   have hlen : (nd r).length ≤ (nd bn).length := len_nd_mono (Nat.le_of_lt hr)
   have hr2 : d + 10000 * r < 10000 * bn := by omega
   have hdig : Dig ([(d : Int)] ++ nd r) := (Dig.one (by omega)).app (dig_nd r)
   have htrim := v118 ([(d : Int)] ++ nd r) hdig (by simp; omega)
   have hto : toN ([(d : Int)] ++ nd r) = d + 10000 * r := by simp [toN, toN_nd]
   rw [hto] at htrim
   generalize hR : d + 10000 * r = R' at *
   have hs := fun {R : Type} (k : List Int → List Int → List Int → List Int → Int → Int → Int → Option R) => lsearch hb hbl hr2 q a (xs.length : Int) 14 0 9999 (by decide) (by omega) (by omega) (by omega) (by omega) k 2000 (by omega)
   simp only [Int.natCast_zero] at hs
   have hlow : R' / bn < 10000 := by rw [Nat.div_lt_iff_lt_mul hb]; exact hr2
   have hsplit : R' = bn * (R' / bn) + R' % bn := (Nat.div_add_mod _ _).symm
   have hmod : R' % bn < bn := Nat.mod_lt _ hb
   generalize R' / bn = L at *
   generalize R' % bn = M at *
   obtain ⟨Q, r', k1, k2, k3, k4, k5⟩ := ih xs ((d : Int) :: t) (q ++ [(L : Int)]) M rfl (by rw [hat]; simp) (hq.app (Dig.one (by omega))) (by simp [hql]) hmod (by
    simp only [toN, List.reverse_append, List.reverse_cons, List.reverse_nil, List.nil_append, List.cons_append, Int.ofNat_eq_natCast, Int.toNat_natCast]
    rw [ht, Nat.add_mul]
    have h1 : 10000 * toN q.reverse * bn = 10000 * (toN q.reverse * bn) := Nat.mul_assoc ..
    have h2 : L * bn = bn * L := Nat.mul_comm ..
    omega)
   refine ⟨Q, r', k1, k2, k3, k4, fun {R} k m hm => ?_⟩
   obtain ⟨m, rfl⟩ : ∃ j, m = j + 1 := ⟨m - 1, by omega⟩
   unfold l115_28
   simp only [g115_33, g115_2, g115_3, g115_24, g115_7, g115_14, g115_11, g115_12, g115_16, g115_17, g115_19, g115_20, g115_22, g115_23, g115_26, g115_27, g115_28, g115_32, g115_33b, g115]
   have e00 : (((xs.length + 1 : Nat) : Int) - 1) = (xs.length : Int) := by omega
   have e0 : decide ((xs.length : Int) ≥ 0) = true := by simp
   have e1 : (0 ≤ (xs.length : Int) ∧ (xs.length : Int) < (a.length : Int)) := by omega
   have g1 : a.getD xs.length 0 = (d : Int) := by rw [hat]; simp
   have e2 : [(d : Int)].length + (nd r).length ≤ 17592186044416 := by simp; omega
   have e3 : ∀ z : Int, q.length + [z].length ≤ 17592186044416 := fun z => by simp; omega
   have w1 : IntKind.i64.wrap ((xs.length : Int) - 1) = (xs.length : Int) - 1 := wrap_id (by omega)
   simp only [e00, e0, brB_true, if_pos e1, Int.toNat_natCast, g1, Int.ofNat_eq_natCast, if_pos e2, htrim, Option.bind_some]
   refine (hs _).trans ?_
   by_cases hz : L = 0
   ·subst hz
    have e4 : decide (((0 : Nat) : Int) > 0) = false := by simp
    have hRm : M = R' := by omega
    subst hRm
    simp only [e4, brB_false, if_pos (e3 _), w1]
    exact k5 k m (by omega)
   ·have e4 : decide ((L : Int) > 0) = true := by simp; omega
    have hmul := v114 (nd bn) [(L : Int)] (dig_nd bn) (Dig.one (by omega)) (by omega) (by simp)
    rw [toN_nd, toN_one] at hmul
    have hle : bn * L ≤ R' := by omega
    have hRl : (nd R').length ≤ 801 := by
     have : (nd R').length ≤ (nd bn).length + 1 := by
      rw [len_nd_le, Nat.pow_succ]
      have := len_nd_le.1 (Nat.le_refl (nd bn).length)
      omega
     omega
    have hsub := v119 (nd R') (nd (bn * L)) (dig_nd _) (dig_nd _) (by omega) (len_nd_mono hle) (by rw [toN_nd, toN_nd]; exact hle)
    rw [toN_nd, toN_nd, show R' - bn * L = M by omega] at hsub
    simp only [e4, brB_true, hmul, hsub, Option.bind_some, if_pos (e3 _), w1]
    exact k5 k m (by omega)
theorem v115 (a : List Int) (ha : Dig a) (hal : a.length ≤ 1800) {bn : Nat} (hb : 0 < bn) (hbl : (nd bn).length ≤ 800) : S115 2000 a (nd bn) = some (nd (toN a / bn), nd (toN a % bn)) := by
 obtain ⟨Q, r', k1, k2, k3, k4, k5⟩ := ldiv ha hal hb hbl a.length a [] [] 0 rfl (by simp) Dig.nil rfl hb (by simp [toN])
 have hq : toN Q.reverse = toN a / bn := (Nat.div_eq_of_lt_le (by omega) (by rw [k4, Nat.add_mul]; omega)).symm
 have hr : r' = toN a % bn := by rw [k4, Nat.add_comm, Nat.add_mul_mod_self_right, Nat.mod_eq_of_lt k3]
 have hdr : Dig Q.reverse := fun x hx => k1 x (List.mem_reverse.1 hx)
 unfold S115
 simp only [g115_33, g115_2, g115_3, g115_24, g115_7, g115_14, g115_11, g115_12, g115_16, g115_17, g115_19, g115_20, g115_22, g115_23, g115_26, g115_27, g115_28, g115_32, g115_33b, g115]
 have w1 : IntKind.i64.wrap ((a.length : Int) - 1) = (a.length : Int) - 1 := wrap_id (by omega)
 rw [w1]
 have k6 := fun (k : List Int → List Int → List Int → List Int → Int → Option (List Int × List Int)) => k5 k 2000 (by omega)
 simp only [nd_zero] at k6
 refine (k6 _).trans ?_
 have hrev : S120 2000 Q = some Q.reverse := by unfold S120; rw [if_pos (by omega)]
 rw [hrev]
 simp only [Option.bind_some]
 rw [v118 Q.reverse hdr (by simp; omega), hq, hr]
 rfl
end Go.Fw.L51
