/- Ends and beginnings of words: the reference. -/
import Derived.Test.YtggppceiapjadaaGreatFwHp19a
set_option linter.unusedVariables false
set_option linter.unusedSimpArgs false
namespace Go.Fw.L19
open Go Go.Fw
set_option maxRecDepth 100000
set_option linter.unusedSimpArgs false
set_option linter.unusedVariables false
theorem v43 (l : List Snd) (hb : l.length ≤ BIG) : S43 2000 l = some (endsOf l) := by
  unfold S43
  simp only [g43_0, g43_1, g43_2, g43_3, g43_5, g43_6, g43_8, g43_9, g43, v71, endsOf]
  by_cases h0 : 0 < l.length
  · have w1 := wsub (n := l.length) (k := 1) (by omega) hb
    have i1 : (0 : Int) ≤ ((l.length - 1 : Nat) : Int) ∧ ((l.length - 1 : Nat) : Int) < (l.length : Int) := by omega
    have d0 : decide ((l.length : Int) > 0) = true := by simpa using h0
    simp only [d0, brB_true, Int.natCast_one] at w1 ⊢
    rw [w1]
    simp only [if_pos i1, Int.toNat_natCast, Option.bind_some]
    cases hn : nuc (l.getD (l.length - 1) s0) with
    | true => simp only [brB_true, h0, and_self, if_true]
    | false =>
      simp only [brB_false, Bool.false_eq_true, and_false, if_false]
      by_cases h1 : 1 < l.length
      · have w2 := wsub (n := l.length) (k := 2) (by omega) hb
        have i2 : (0 : Int) ≤ ((l.length - 2 : Nat) : Int) ∧ ((l.length - 2 : Nat) : Int) < (l.length : Int) := by omega
        have d1 : decide ((l.length : Int) > 1) = true := by simp; omega
        simp only [d1, brB_true] at w2 ⊢
        rw [show ((2 : Nat) : Int) = (2 : Int) from rfl] at w2
        rw [w2]
        simp only [if_pos i2, Int.toNat_natCast, Option.bind_some]
        cases hn2 : nuc (l.getD (l.length - 2) s0) with
        | false => simp only [brB_false, Bool.false_eq_true, and_false, false_and, if_false]
        | true =>
          simp only [brB_true, h1, true_and]
          by_cases h5 : (l.getD (l.length - 1) s0).1 = 5
          · simp only [h5, beq_self_eq_true, brB_true, true_and]
            by_cases h6 : (l.getD (l.length - 1) s0).2.2.1 = [109]
            · simp only [h6, beq_self_eq_true, brB_true, if_true]
            · have : ((l.getD (l.length - 1) s0).2.2.1 == ([109] : List UInt8)) = false := by simpa using h6
              simp only [this, brB_false, h6, if_false]
          · have : ((l.getD (l.length - 1) s0).1 == (5 : Int)) = false := by simpa using h5
            simp only [this, brB_false, h5, false_and, if_false]
      · have d1 : decide ((l.length : Int) > 1) = false := decide_eq_false (by omega)
        simp only [d1, brB_false, h1, false_and, if_false]
  · have d0 : decide ((l.length : Int) > 0) = false := decide_eq_false (by omega)
    have d1 : decide ((l.length : Int) > 1) = false := decide_eq_false (by omega)
    have h1 : ¬ 1 < l.length := by omega
    simp only [d0, d1, brB_false, h0, h1, false_and, if_false]
theorem lfirst {R : Type} (k0 : Int → Option R) (k1 : List Snd → Int → Option R) :
    ∀ (ys pre : List Snd) (m : Nat), ys.length < m → (pre ++ ys).length ≤ BIG → (∀ a b, k1 a b = k0 (-1)) →
      l56_13 (S71 2000) k0 k1 m (pre ++ ys) (pre.length : Int) = k0 (begAt ys pre.length) := by
  intro ys
  induction ys with
  | nil =>
    intro pre m hm hb hk
    cases m with
    | zero => simp at hm
    | succ m =>
      unfold l56_13
      simp only [g56_0, g56_1, g56_2, g56_4, g56_5, g56_7, g56_8, g56_11, g56_12, g56_13, g56_15, g56_16, g56, lt_nil, brB_false, begAt, hk]
  | cons y ys ih =>
    intro pre m hm hb hk
    cases m with
    | zero => simp at hm
    | succ m =>
      unfold l56_13
      simp only [g56_0, g56_1, g56_2, g56_4, g56_5, g56_7, g56_8, g56_11, g56_12, g56_13, g56_15, g56_16, g56, lt_cons, in_cons, at_cons, if_true, brB_true, v71, Option.bind_some, begAt]
      cases nuc y with
      | true => simp only [brB_true, if_true]
      | false =>
        simp only [brB_false, Bool.false_eq_true, if_false]
        change brB (nb y) _ _ = _
        cases nb y with
        | true => simp only [brB_true, if_true]
        | false =>
          simp only [brB_false, Bool.false_eq_true, if_false, wrap_snoc pre ys y hb]
          rw [app_cons pre ys y, ih (pre ++ [y]) m (by simpa using hm) (by rw [← app_cons]; exact hb) hk]
          simp
theorem v56 (l : List Snd) (h : l.length < 2000) : S56 2000 l = some (begAt l 0) := by
  unfold S56
  have := lfirst (R := Int) some (fun _ _ => some (-1)) l [] 2000 h (by unfold BIG; simp; omega) (fun _ _ => rfl)
  simp only [g56_0, g56_1, g56_2, g56_4, g56_5, g56_7, g56_8, g56_11, g56_12, g56_13, g56_15, g56_16, g56]
  simpa using this
theorem v68 (l : List Snd) (h : l.length < 2000) : S68 2000 l = some (begins l) := by
  unfold S68
  simp only [g68_0, g68_1, g68_2, g68, v56 l h, Option.bind_some, begins]
end Go.Fw.L19
