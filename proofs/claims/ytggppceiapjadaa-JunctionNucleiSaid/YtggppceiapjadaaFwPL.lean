/- Plain facts for loops over lists by a number. -/
import Derived.Test.YtggppceiapjadaaFwP
import Derived.IntWalk
set_option linter.unusedVariables false
set_option linter.unusedSimpArgs false
namespace Go.Fw
open Go

/-- no list of the machine is longer -/
abbrev BIG : Nat := 4611686018427387904

theorem wrap_id {n : Int} (h : -9223372036854775808 ≤ n ∧ n ≤ 9223372036854775807) : IntKind.i64.wrap n = n := IntWalk.i64_in n h

section
variable {α : Type} (pre ys : List α) (y d : α)
theorem at_cons : (pre ++ y :: ys).getD (Int.toNat (pre.length : Int)) d = y := by simp
theorem lt_cons : (decide ((pre.length : Int) < ((pre ++ y :: ys).length : Int))) = true := by simp; omega
theorem lt_nil : (decide ((pre.length : Int) < ((pre ++ ([] : List α)).length : Int))) = false := by simp
theorem in_cons : (0 ≤ (pre.length : Int) ∧ (pre.length : Int) < ((pre ++ y :: ys).length : Int)) = True := by simp; omega
theorem app_cons : pre ++ y :: ys = (pre ++ [y]) ++ ys := by simp
theorem wrap_snoc (h : (pre ++ y :: ys).length ≤ BIG) : IntKind.i64.wrap ((pre.length : Int) + 1) = ((pre ++ [y]).length : Int) := by
  rw [wrap_id]
  · simp
  · simp only [List.length_append, List.length_cons, BIG] at h; omega
theorem len_snoc : ((pre ++ [y]).length : Int) = (pre.length : Int) + 1 := by simp
end
end Go.Fw
