/- A step, apart from what follows it. -/
import Derived.Test.YtggppceiapjadaaFwC
set_option linter.unusedVariables false
set_option linter.unusedSimpArgs false
namespace Go.Fw
open Go Go.RowKit
theorem bcong {α β : Type} (x : Option α) (f g : α → Option β) (h : ∀ y, f y = g y) : x.bind f = x.bind g := by cases x <;> simp [h]
set_option maxHeartbeats 1000000
theorem step_bind (cl : Cal) (i : AI) (env : Env) {R : Type} (K : Kont R) : step cl i env K = (step cl i env (some : Kont Env)).bind K := by
  obtain ⟨d, op, g⟩ := i
  unfold step
  cases op <;> simp only [Option.bind_assoc, Option.bind_some, Cal.eqn]
  case pick => congr 1; funext q; cases q <;> rfl
  case nxt =>
    split
    · rename_i s pos _; cases decide (pos < s.length) <;> rfl
    · rfl
  all_goals first | rfl | skip
  all_goals repeat' first | rfl | (refine bcong _ _ _ fun _ => ?_) | split | (rw [Option.bind_assoc])
  all_goals first | rfl | (simp_all [Option.bind_assoc]; done) | skip
end Go.Fw
