/- Fractions: the program's and the reference's. -/
import Derived.Test.YtnobiophckdjfaaFwHs51g
set_option linter.unusedVariables false
set_option linter.unusedSimpArgs false
namespace Go.Fw.L51
open Go Go.Fw
set_option maxRecDepth 100000
set_option linter.unusedSimpArgs false
set_option linter.unusedVariables false
abbrev Fra : Type := Bool × ((List Int × Unit) × ((List Int × Unit) × Unit))
def fr (n d : Nat) : Fra := (false, (nd n, ()), (nd d, ()), ())
def lo (n d : Nat) : Fra := fr (low n d).1 (low n d).2
abbrev L36 (n : Nat) : Prop := n < 10000 ^ 36
theorem L36.len {n : Nat} (h : L36 n) : (nd n).length ≤ 36 := len_nd_le.2 h
theorem L36.of {n : Nat} (h : (nd n).length ≤ 36) : L36 n := len_nd_le.1 h
theorem L36.bits {n : Nat} (h : L36 n) : n < 2 ^ 479 := Nat.lt_of_lt_of_le h (by decide +kernel)
theorem L36.sm {n : Nat} (h : L36 n) : Sm n := Nat.lt_of_lt_of_le h (by decide +kernel)
theorem L36.le {n m : Nat} (h : L36 n) (hm : m ≤ n) : L36 m := Nat.lt_of_le_of_lt hm h
theorem low_le1 (n d : Nat) : (low n d).1 ≤ n := Nat.div_le_self ..
theorem low_le2 (n d : Nat) : (low n d).2 ≤ d := Nat.div_le_self ..
theorem isnil (l : List Int) : ((l.length : Int) == 0) = decide (l = []) := by
 cases l with
 | nil => rfl
 | cons x l => simp; omega
theorem nd_dec (n : Nat) : decide (nd n = []) = decide (n = 0) := by
 by_cases h : n = 0
 ·simp [h, nd_zero]
 ·simp [h, mt nd_nil.1 h]
theorem vl76 (l : List Int) : S76 2000 (l, ()) = some (decide (l = [])) := by
 unfold S76
 simp only [g76_2, g76_2b, g76, isnil]
theorem v76 (n : Nat) : S76 2000 (nd n, ()) = some (decide (n = 0)) := by rw [vl76, nd_dec]
theorem vl56 (l : List Int) : S56 2000 (l, ()) = some (decide (l = [])) := by
 unfold S56
 simp only [g56_2, g56_2b, g56, isnil]
theorem v56 (n : Nat) : S56 2000 (nd n, ()) = some (decide (n = 0)) := by rw [vl56, nd_dec]
theorem v77 (s : Bool) (n d : Nat) (hn : L36 n) (hd : L36 d) (h : 0 < d) : S77 2000 s (nd n, ()) (nd d, ()) = some (s && !decide ((low n d).1 = 0), (nd (low n d).1, ()), (nd (low n d).2, ()), ()) := by
 have hg : 0 < Nat.gcd n d := Nat.gcd_pos_of_pos_right _ h
 have hgl : L36 (Nat.gcd n d) := hd.le (Nat.le_of_dvd h (Nat.gcd_dvd_right ..))
 have a := hn.len; have b := hd.len; have c := hgl.len
 unfold S77
 simp only [g77_5, g77_5b, g77, v101 n d hn.sm hd.sm, v102 n _ (by omega) (by omega) hg, v102 d _ (by omega) (by omega) hg, v76, Option.bind_some]
 cases s <;> rfl
theorem v52 (s : Bool) (n d : Nat) (hn : L36 n) (hd : L36 d) (h : 0 < d) : S52 2000 s (nd n, ()) (nd d, ()) = some (s && !decide ((low n d).1 = 0), (nd (low n d).1, ()), (nd (low n d).2, ()), ()) := by
 have hg : 0 < Nat.gcd n d := Nat.gcd_pos_of_pos_right _ h
 have hgl : L36 (Nat.gcd n d) := hd.le (Nat.le_of_dvd h (Nat.gcd_dvd_right ..))
 have a := hn.len; have b := hd.len; have c := hgl.len
 unfold S52
 simp only [g52_5, g52_5b, g52, v83 479 479 n d hn.bits hd.bits (by omega), v84 n _ (by omega) (by omega) hg, v84 d _ (by omega) (by omega) hg, v56, Option.bind_some]
 cases s <;> rfl
theorem v44 (n d : Nat) (hn : L36 n) (hd : L36 d) (h : 0 < d) : S44 2000 (nd n, ()) (nd d, ()) = some (lo n d, 0) := by
 have a := hn.len; have b := hd.len
 have e : decide (d = 0) = false := decide_eq_false (by omega)
 unfold S44
 simp only [g44_0, g44_1, g44_2, g44_4, g44_5, g44_7, g44_8, g44, vV75 n (by omega), vV75 d (by omega), v76, e, v77 false n d hn hd h, Option.bind_some, Bool.not_true, brB_false, Bool.false_and]
 rfl
def validF (s : Bool) (N D : List Int) : Bool := okN N && okN D && !decide (D = []) && !(decide (N = []) && s) && decide (Nat.gcd (toN N) (toN D) = 1)
theorem cmp1 (g : Nat) : (cmpN g 1 == (0 : Int)) = decide (g = 1) := by
 by_cases h : g = 1
 ·subst h; rfl
 ·have := mt cmpN_eq.1 h
  simp [h, this]
theorem v97 (s : Bool) (N D : List Int) (hND : okN N = true → okN D = true → N.length ≤ 36 ∧ D.length ≤ 36) : S97 2000 (s, (N, ()), (D, ()), ()) = some (validF s N D) := by
 unfold S97 validF
 simp only [g97_0, g97_1, g97_2, g97_6, g97_7, g97, v75 N, v75 D, vl76, Option.bind_some]
 cases h1 : okN N with
 | false => rfl
 | true =>
   cases h2 : okN D with
   | false => rfl
   | true =>
     obtain ⟨hN, hD⟩ := hND h1 h2
     obtain ⟨n, rfl, _⟩ := okN_some h1
     obtain ⟨d, rfl, _⟩ := okN_some h2
     have hn := L36.of hN; have hd := L36.of hD
     have hg := v101 n d hn.sm hd.sm
     have one := v95 1 (by omega)
     simp only [Int.natCast_one] at one
     simp only [hg, Option.bind_some, beq_self_eq_true, brB_true, one, toN_nd]
     by_cases h3 : nd d = []
     ·simp [h3, brB]
     ·have hdp : 0 < d := Nat.pos_of_ne_zero fun e => h3 (nd_nil.2 e)
      have hgl : L36 (Nat.gcd n d) := hd.le (Nat.le_of_dvd hdp (Nat.gcd_dvd_right ..))
      rw [v69 _ 1 (by have := hgl.len; omega) (by have := len_dig (n := 1) (by omega); omega)]
      simp only [h3, decide_false, Bool.not_true, brB_false, Option.bind_some, cmp1]
      cases decide (nd n = []) <;> cases s <;> simp [brB]
theorem v54 (s : Bool) (N D : List Int) (hND : okN N = true → okN D = true → N.length ≤ 36 ∧ D.length ≤ 36) : S54 2000 (s, (N, ()), (D, ()), ()) = some (validF s N D) := by
 unfold S54 validF
 simp only [g54_0, g54_1, g54_2, g54_6, g54_7, g54, v86 N, v86 D, vl56, Option.bind_some]
 cases h1 : okN N with
 | false => rfl
 | true =>
   cases h2 : okN D with
   | false => rfl
   | true =>
     obtain ⟨hN, hD⟩ := hND h1 h2
     obtain ⟨n, rfl, _⟩ := okN_some h1
     obtain ⟨d, rfl, _⟩ := okN_some h2
     have hn := L36.of hN; have hd := L36.of hD
     have hg := v83 479 479 n d hn.bits hd.bits (by omega)
     have one := v53 1 (by omega)
     simp only [Int.natCast_one] at one
     simp only [hg, Option.bind_some, one, toN_nd]
     by_cases h3 : nd d = []
     ·simp [h3, brB]
     ·have hdp : 0 < d := Nat.pos_of_ne_zero fun e => h3 (nd_nil.2 e)
      have hgl : L36 (Nat.gcd n d) := hd.le (Nat.le_of_dvd hdp (Nat.gcd_dvd_right ..))
      rw [v51 _ 1 (by have := hgl.len; omega) (by have := len_dig (n := 1) (by omega); omega)]
      simp only [h3, decide_false, Bool.not_true, brB_false, Option.bind_some]
      cases decide (nd n = []) <;> cases s <;> simp [brB]
theorem validF_fr {n d : Nat} (hn : L36 n) (hd : L36 d) (h : 0 < d) (hg : Nat.gcd n d = 1) : validF false (nd n) (nd d) = true := by
 have a := hn.len; have b := hd.len
 have : ¬ nd d = [] := fun e => by have := nd_nil.1 e; omega
 simp [validF, okN_nd (n := n) (by omega), okN_nd (n := d) (by omega), this, toN_nd, hg]
theorem vF54 {n d : Nat} (hn : L36 n) (hd : L36 d) (h : 0 < d) (hg : Nat.gcd n d = 1) : S54 2000 (fr n d) = some true := by
 unfold fr
 rw [v54 _ _ _ fun _ _ => ⟨hn.len, hd.len⟩, validF_fr hn hd h hg]
theorem small36 {n : Nat} (h : n ≤ 9223372036854775807) : L36 n := Nat.lt_of_le_of_lt h (by decide +kernel)
theorem v68 (n d : Nat) (hn : n ≤ 1000000000000000) (hd : d ≤ 1000000000000000) (h : 0 < d) : S68 2000 (n : Int) (d : Int) = some (lo n d, 0) := by
 have e1 : ((d : Int) == 0) = false := by simp; omega
 have e2 : decide ((if (d : Int) > (n : Int) then (d : Int) else (n : Int)) > 1000000000000000) = false := by apply decide_eq_false; split <;> omega
 have e3 : decide ((if (d : Int) < (n : Int) then (d : Int) else (n : Int)) < -1000000000000000) = false := by apply decide_eq_false; split <;> omega
 have w1 : IntKind.i64.wrap (0 - (n : Int)) = 0 - (n : Int) := wrap_id (by omega)
 have w2 : IntKind.i64.wrap (0 - (d : Int)) = 0 - (d : Int) := wrap_id (by omega)
 have m1 : (if 0 - (n : Int) > (n : Int) then 0 - (n : Int) else (n : Int)) = (n : Int) := if_neg (by omega)
 have m2 : (if 0 - (d : Int) > (d : Int) then 0 - (d : Int) else (d : Int)) = (d : Int) := if_neg (by omega)
 have s1 : decide ((n : Int) < 0) = false := by simp
 have s2 : decide ((d : Int) < 0) = false := by simp
 unfold S68
 simp only [g68_0, g68_1, g68_2, g68_4, g68_5, g68_7, g68_8, g68, e1, e2, e3, brB_false, w1, w2, m1, m2, v95 n (by omega), v95 d (by omega), s1, s2, Option.bind_some, beq_self_eq_true, Bool.not_true, v77 false n d (small36 (by omega)) (small36 (by omega)) h, Bool.false_and]
 rfl
theorem v23 (n d : Nat) (hn : n ≤ 1000000000000000) (hd : d ≤ 1000000000000000) (h : 0 < d) : S23 2000 (n : Int) (d : Int) = some (lo n d, 0) := by
 have e1 : ((d : Int) == 0) = false := by simp; omega
 have q1 : decide ((n : Int) < -1000000000000000) = false := decide_eq_false (by omega)
 have q2 : decide ((n : Int) > 1000000000000000) = false := decide_eq_false (by omega)
 have q3 : decide ((d : Int) < -1000000000000000) = false := decide_eq_false (by omega)
 have q4 : decide ((d : Int) > 1000000000000000) = false := decide_eq_false (by omega)
 have s1 : decide ((n : Int) < 0) = false := by simp
 have s2 : decide ((d : Int) < 0) = false := by simp
 unfold S23
 simp only [g23_0, g23_1, g23_2, g23_4, g23_5, g23_7, g23_8, g23_9, g23_11, g23_12, g23_13, g23_15, g23_16, g23_17, g23, e1, q1, q2, q3, q4, brB_false, v53 n (by omega), v53 d (by omega), s1, s2, Option.bind_some, beq_self_eq_true, Bool.not_true, v52 false n d (small36 (by omega)) (small36 (by omega)) h, Bool.false_and]
 rfl
theorem v21 (a b c d : Nat) (ha : (nd a).length ≤ 1900) (hb : (nd b).length ≤ 1900) (hc : (nd c).length ≤ 1900) (hd : (nd d).length ≤ 1900) : S21 2000 (fr a b) (fr c d) = some (decide (a = c) && decide (b = d)) := by
 unfold S21 fr
 simp only [g21_2, g21_2b, g21, beq_self_eq_true, brB_true, v51 a c ha hc, v51 b d hb hd, Option.bind_some]
 cases decide (a = c) <;> rfl
theorem vT21 (a b : Nat) (ha : (nd a).length ≤ 1900) (hb : (nd b).length ≤ 1900) : S21 2000 (fr a b) (fr a b) = some true := by
 rw [v21 a b a b ha hb ha hb]; simp
theorem vL21 (n d : Nat) (hn : L36 n) (hd : L36 d) : S21 2000 (lo n d) (lo n d) = some true := by
 have a := (hn.le (low_le1 n d)).len; have b := (hd.le (low_le2 n d)).len
 exact vT21 _ _ (by omega) (by omega)
end Go.Fw.L51
