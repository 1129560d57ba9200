/- Natural numbers: what the program's functions on digits answer. -/
import Derived.Test.YtnobiophckdjfaaFwMs51
import Derived.Test.YtnobiophckdjfaaFwB5
set_option linter.unusedVariables false
set_option linter.unusedSimpArgs false
namespace Go.Fw.L51
open Go Go.Fw
set_option maxRecDepth 100000
set_option linter.unusedSimpArgs false
set_option linter.unusedVariables false
theorem snoc_cases (l : List Int) : l = [] ∨ ∃ ys d, l = ys ++ [d] := by
 rcases List.eq_nil_or_concat l with h | ⟨ys, d, h⟩
 ·exact .inl h
 ·exact .inr ⟨ys, d, by rw [h, List.concat_eq_append]⟩
theorem getD_snoc (ys : List Int) (d : Int) (t : List Int) : (ys ++ d :: t).getD ys.length 0 = d := by simp
theorem wsub1 {n : Nat} (h : n ≤ 100000) : IntKind.i64.wrap (((n + 1 : Nat) : Int) - 1) = (n : Int) := by
 rw [wrap_id (by omega)]; omega
theorem top_snoc {ys : List Int} {d : Int} (h : d ≠ 0) : Top (ys ++ [d]) := by
 intro zs e he
 have := List.append_inj' he rfl
 simp only [List.cons.injEq, and_true] at this
 rw [← this.2]; exact h
theorem ltrim {R : Type} (k : List Int → Option R) : ∀ (m : Nat) (l : List Int), l.length < m → l.length ≤ 100000 → Dig l → l118_6 k m l = k (nd (toN l)) := by
 intro m
 induction m with
 | zero => intro l h; omega
 | succ m ih =>
   intro l hm hl hd
   unfold l118_6
   simp only [g118_0, g118_1, g118_3, g118_5, g118_6, g118_8, g118_9, g118]
   rcases snoc_cases l with rfl | ⟨ys, d, rfl⟩
   ·simp [brB, toN, nd_zero]
   ·have e0 : decide (((ys ++ [d]).length : Int) > 0) = true := by simp <;> omega
    have e1 : IntKind.i64.wrap (((ys ++ [d]).length : Int) - 1) = (ys.length : Int) := by
     rw [List.length_append]; exact wsub1 (by simp at hl; omega)
    have e2 : (0 ≤ (ys.length : Int) ∧ (ys.length : Int) < ((ys ++ [d]).length : Int)) := by simp <;> omega
    have e3 : (0 ≤ (0 : Int) ∧ (0 : Int) ≤ (ys.length : Int) ∧ (ys.length : Int) ≤ ((ys ++ [d]).length : Int) ∧ ((ys ++ [d]).length : Int) ≤ ((ys ++ [d]).length : Int)) := by simp <;> omega
    simp only [e0, brB_true, e1, if_pos e2, if_pos e3, Int.toNat_natCast, getD_snoc]
    by_cases h : d = 0
    ·subst h
     simp only [beq_self_eq_true, brB_true]
     have e4 : ((ys ++ [(0 : Int)]).drop (0 : Int).toNat).take (ys.length - (0 : Int).toNat) = ys := by simp
     rw [e4, ih ys (by simp at hm; omega) (by simp at hl; omega) hd.left, nd_snoc0]
    ·have e5 : (d == (0 : Int)) = false := by simpa using h
     simp only [e5, brB_false]
     rw [nd_toN hd (top_snoc h)]
theorem v118 (l : List Int) (hd : Dig l) (hl : l.length ≤ 1900) : S118 2000 l = some (nd (toN l)) := by
 unfold S118
 simp only [g118_0, g118_1, g118_3, g118_5, g118_6, g118_8, g118_9, g118]
 exact ltrim _ 2000 l (by omega) (by omega) hd
theorem v105 (l : List Int) (hd : Dig l) (hl : l.length ≤ 1900) : S105 2000 l = some (nd (toN l), ()) := by
 unfold S105
 simp only [g105_6, g105_2, g105_3, g105_5, g105_6b, g105, v118 l hd hl, Option.bind_some]
 by_cases h : toN l = 0
 ·rw [h, nd_zero]; simp [brB]
 ·have : (((nd (toN l)).length : Int) == 0) = false := by
   have : nd (toN l) ≠ [] := fun e => h (nd_nil.1 e)
   have := List.length_pos_iff.2 this
   simp; omega
  simp only [this, brB_false]
theorem top_lt {xs ys t : List Int} {d e : Int} (hx : Dig xs) (hl : xs.length = ys.length) (hd : 0 ≤ d) (h : d < e) : toN (xs ++ d :: t) < toN (ys ++ e :: t) := by
 rw [toN_app, toN_app, ← hl]
 have h1 := toN_lt hx
 simp only [toN]
 have h2 : 10000 ^ xs.length * (d.toNat + 10000 * toN t + 1) ≤ 10000 ^ xs.length * (e.toNat + 10000 * toN t) := Nat.mul_le_mul_left _ (by omega)
 rw [Nat.mul_add _ _ 1, Nat.mul_one] at h2
 omega
theorem lcmp {R : Type} (k : Int → Option R) (k1 : List Int → List Int → Int → Option R) (t : List Int) : ∀ (m : Nat) (xs ys : List Int), xs.length < m → xs.length ≤ 100000 → xs.length = ys.length → Dig xs → Dig ys →
  l96_19 k (fun a b i => k 0) m (xs ++ t) (ys ++ t) ((xs.length : Int) - 1) = k (cmpN (toN (xs ++ t)) (toN (ys ++ t))) := by
 intro m
 induction m generalizing t with
 | zero => intro xs ys h; omega
 | succ m ih =>
   intro xs ys hm hb hl hx hy
   unfold l96_19
   simp only [g96_0, g96_1, g96_2, g96_3, g96_5, g96_7, g96_8, g96_10, g96_11, g96_12, g96_14, g96_17, g96_18, g96_19, g96_21, g96_22, g96]
   rcases snoc_cases xs with rfl | ⟨xs, d, rfl⟩
   ·have : ys = [] := List.length_eq_zero_iff.1 (by simpa using hl.symm)
    subst this
    simp [brB, cmpN_self]
   ·rcases snoc_cases ys with rfl | ⟨ys, e, rfl⟩
    ·simp at hl
    ·have hl' : xs.length = ys.length := by simpa using hl
     have e0 : (((xs ++ [d]).length : Int) - 1) = (xs.length : Int) := by simp
     have e1 : decide ((xs.length : Int) ≥ 0) = true := by simp
     have e2 : (0 ≤ (xs.length : Int) ∧ (xs.length : Int) < ((xs ++ [d] ++ t).length : Int)) := by simp <;> omega
     have e3 : (0 ≤ (xs.length : Int) ∧ (xs.length : Int) < ((ys ++ [e] ++ t).length : Int)) := by simp <;> omega
     have g1 : (xs ++ [d] ++ t).getD xs.length 0 = d := by simp
     have g2 : (ys ++ [e] ++ t).getD xs.length 0 = e := by simp [hl']
     have hd := hx d (by simp); have he := hy e (by simp)
     simp only [e0, e1, brB_true, if_pos e2, if_pos e3, Int.toNat_natCast, g1, g2]
     simp only [List.append_assoc, List.cons_append, List.nil_append]
     by_cases h : d = e
     ·subst h
      have e4 : (d != d) = false := by simp
      have e5 : IntKind.i64.wrap ((xs.length : Int) - 1) = (xs.length : Int) - 1 := wrap_id (by simp at hb; omega)
      simp only [e4, brB_false, e5]
      exact ih (d :: t) xs ys (by simp at hm; omega) (by simp at hb; omega) hl' hx.left hy.left
     ·have e4 : (d != e) = true := by simpa using h
      simp only [e4, brB_true]
      by_cases hlt : d < e
      ·have := top_lt (t := t) hx.left hl' hd.1 hlt
       simp [hlt, brB, cmpN, this]
      ·have := top_lt (t := t) hy.left hl'.symm he.1 (by omega : e < d)
       simp [hlt, brB, cmpN, this, Nat.lt_asymm this]
theorem v96 (a b : Nat) (ha : (nd a).length ≤ 1900) (hb : (nd b).length ≤ 1900) : S96 2000 (nd a) (nd b) = some (cmpN a b) := by
 unfold S96
 simp only [g96_0, g96_1, g96_2, g96_3, g96_5, g96_7, g96_8, g96_10, g96_11, g96_12, g96_14, g96_17, g96_18, g96_19, g96_21, g96_22, g96]
 by_cases h : (nd a).length = (nd b).length
 ·have e1 : (((nd a).length : Int) != ((nd b).length : Int)) = false := by simp [h]
  have e2 : IntKind.i64.wrap (((nd a).length : Int) - 1) = ((nd a).length : Int) - 1 := wrap_id (by omega)
  simp only [e1, brB_false, e2]
  have := lcmp (R := Int) some (fun _ _ _ => none) [] 2000 (nd a) (nd b) (by omega) (by omega) h (dig_nd a) (dig_nd b)
  simpa [toN_nd] using this
 ·have e1 : (((nd a).length : Int) != ((nd b).length : Int)) = true := by simp <;> omega
  simp only [e1, brB_true]
  by_cases hlt : (nd a).length < (nd b).length
  ·have : a < b := Nat.lt_of_not_le fun hc => by have := len_nd_mono hc; omega
   have e2 : decide (((nd a).length : Int) < ((nd b).length : Int)) = true := by simp <;> omega
   simp only [e2, brB_true, cmpN, if_pos this]
  ·have : b < a := Nat.lt_of_not_le fun hc => by have := len_nd_mono hc; omega
   have e2 : decide (((nd a).length : Int) < ((nd b).length : Int)) = false := by simp <;> omega
   simp only [e2, brB_false, cmpN, if_neg (Nat.lt_asymm this), if_pos this]
theorem v69 (a b : Nat) (ha : (nd a).length ≤ 1900) (hb : (nd b).length ≤ 1900) : S69 2000 (nd a, ()) (nd b, ()) = some (cmpN a b) := by
 unfold S69
 simp only [g69_2, g69_2b, g69, v96 a b ha hb, Option.bind_some]
end Go.Fw.L51
