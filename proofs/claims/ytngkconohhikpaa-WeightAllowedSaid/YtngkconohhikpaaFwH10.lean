/- WeightAllowed: the law of plain values. -/
import Derived.Test.YtngkconohhikpaaFwH16
import Derived.Test.YtngkconohhikpaaFwQ
set_option linter.unusedVariables false
set_option linter.unusedSimpArgs false
namespace Go.Fw.L16
open Go Go.Fw
set_option maxRecDepth 100000
set_option linter.unusedSimpArgs false
set_option linter.unusedVariables false
theorem alw_more (ks : List Int) (more : Int) (x : Op3) (h : alw ks x = true) : alw (ks ++ [more]) x = true := by
  unfold alw at h ⊢
  rw [List.any_append]
  rcases Bool.eq_false_or_eq_true (x.2.2.1 == (0 : Int)) with h1 | h1 <;> simp_all

theorem filter_twice {p q : Op3 → Bool} (h : ∀ x, p x = true → q x = true) : ∀ (xs : List Op3), (xs.filter q).filter p = xs.filter p ∧ (xs.filter p).length ≤ (xs.filter q).length
  | [] => ⟨rfl, Nat.le_refl _⟩
  | x :: xs => by
    obtain ⟨h1, h2⟩ := filter_twice h xs
    rcases Bool.eq_false_or_eq_true (p x) with hp | hp
    · have hq := h x hp
      simp only [List.filter_cons, hp, hq, if_true, h1, List.length_cons]
      exact ⟨trivial, by omega⟩
    · rcases Bool.eq_false_or_eq_true (q x) with hq | hq
      · simp only [List.filter_cons, hp, hq, if_true, Bool.false_eq_true, if_false, h1, List.length_cons]
        exact ⟨trivial, by omega⟩
      · simp only [List.filter_cons, hp, hq, Bool.false_eq_true, if_false, h1]
        exact ⟨trivial, h2⟩

theorem main10 (l : List Op3) (ks : List Int) (more : Int) (hl : InR (.sl (.pair (.int .i64) (.pair (.int .i64) (.pair (.int .i64) .unit)))) l) (hk : InR (.sl (.int .i64)) ks) (_ : inR .i64 more) : S10 60 l ks more = some true := by
  by_cases h40 : (l.length : Int) > 40
  · have e : decide ((l.length : Int) > 40) = true := by simpa using h40
    simp only [S10, g10_0, g10_1, g10_2, g10_4, g10_5, g10_6, g10_7, g10_9, g10_10, g10, v11, Option.bind_some, Bool.not_true, brB_true, brB_false, e]
  · have e : decide ((l.length : Int) > 40) = false := by simpa using h40
    by_cases k40 : (ks.length : Int) > 40
    · have e2 : decide ((ks.length : Int) > 40) = true := by simpa using k40
      simp only [S10, g10_0, g10_1, g10_2, g10_4, g10_5, g10_6, g10_7, g10_9, g10_10, g10, v11, Option.bind_some, Bool.not_true, brB_true, brB_false, e, e2]
    · have e2 : decide ((ks.length : Int) > 40) = false := by simpa using k40
      have hlt : l.length < 60 := by omega
      have hkt : ks.length < 60 := by omega
      have c27 : S27 60 l = some l := by unfold S27; rw [if_pos (by omega)]
      have c28 : S28 60 ks = some ks := by unfold S28; rw [if_pos (by omega)]
      have hmt : (ks ++ [more]).length < 60 := by simp only [List.length_append, List.length_cons, List.length_nil]; omega
      have ha : (l.filter (alw ks)).length < 60 := Nat.lt_of_le_of_lt (List.length_filter_le _ _) hlt
      have hb : (l.filter (alw (ks ++ [more]))).length < 60 := Nat.lt_of_le_of_lt (List.length_filter_le _ _) hlt
      have c1 : ks.length + [more].length ≤ 17592186044416 := by simp only [List.length_cons, List.length_nil]; omega
      obtain ⟨t1, t2⟩ := filter_twice (p := alw ks) (q := alw (ks ++ [more])) (fun x h => alw_more ks more x h) l
      obtain ⟨t3, _⟩ := filter_twice (p := alw ks) (q := alw ks) (fun x h => h) l
      have e3 : decide (((l.filter (alw (ks ++ [more]))).length : Int) ≥ ((l.filter (alw ks)).length : Int)) = true := by
        simp only [ge_iff_le, decide_eq_true_eq]; omega
      simp only [S10, g10_0, g10_1, g10_2, g10_4, g10_5, g10_6, g10_7, g10_9, g10_10, g10, v11, Option.bind_some, Bool.not_true, Bool.not_false, brB_true, brB_false, e, e2, c27, c28, c1, if_true, v25 l ks hlt hkt, v25 l (ks ++ [more]) hlt hmt, v29 l ks hlt hkt, v14 _ ha, v25 _ ks ha hkt, v25 _ ks hb hkt, t1, t3, e3]
end Go.Fw.L16
