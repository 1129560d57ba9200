/- BinomialHyper. -/
import Derived.Test.YtnobiophckdjfaaFwHhy51i
set_option linter.unusedVariables false
set_option linter.unusedSimpArgs false
namespace Go.Fw.L51
open Go Go.Fw
set_option maxRecDepth 100000
set_option linter.unusedSimpArgs false
set_option linter.unusedVariables false
theorem main7 (u : Int × (Int × (Int × (Int × Unit)))) : S7 2000 u = some true := by
  obtain ⟨t, m, d, k, _⟩ := u
  have e8 : S11 2000 = some true := rfl
  have key : ∀ b : Bool, badD t m d k = b → ∃ (a c : Fra) (e g : Int), S27 2000 t m d k = some (a, e) ∧ S28 2000 t m d k = some (a, e) ∧ S29 2000 t m d k = some (c, g) ∧ S30 2000 t m d k = some (c, g) ∧
      S21 2000 a a = some true ∧ S21 2000 c c = some true := by
    intro b hb
    cases b with
    | true => exact ⟨zf, zf, 6, 6, vb27 t m d k hb, vb28 t m d k hb, vb29 t m d k hb, vb30 t m d k hb, vE21, vE21⟩
    | false =>
      obtain ⟨t, m, d, k, rfl, rfl, rfl, rfl, h1, h2, h3, h4⟩ := badD_nat hb
      exact ⟨_, _, 0, 0, v27 t m d k h1 h2 h3 h4 hb, v28 t m d k h1 h2 h3 h4 hb, v29 t m d k h1 h2 h3 h4 hb, v30 t m d k h1 h2 h3 h4 hb,
        vL21 _ _ ((ch36 h1 d).le (hy_le h2 h4)) (ch36 h1 d), vL21 _ _ ((ch36 h1 d).le (hy_part h2 k (d + 1 - k) (by omega))) (ch36 h1 d)⟩
  obtain ⟨a, c, e, g, q1, q2, q3, q4, q5, q6⟩ := key _ rfl
  unfold S7
  simp only [g7_0, g7_1, g7_2, g7_9, g7_10, g7, e8, q1, q2, q3, q4, q5, q6, Option.bind_some, Bool.not_true, brB_false, brB_true, beq_self_eq_true]
  cases decide (t > 60) <;> cases decide (t ≤ 400) <;> rfl
end Go.Fw.L51
