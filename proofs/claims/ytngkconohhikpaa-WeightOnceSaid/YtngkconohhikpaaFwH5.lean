/- WeightOnce: a finite law. -/
import Derived.Test.YtngkconohhikpaaFwZ16
import Derived.KernelRfl
set_option linter.unusedVariables false
set_option linter.unusedSimpArgs false
namespace Go.Fw.L16
open Go Go.Fw
set_option maxRecDepth 100000
set_option linter.unusedSimpArgs false
theorem v11 : S11 60 = some true := by kernel_rfl
theorem f5 (q c : Int) (b : Bool) : ∀ x ∈ ([0, 1, 2] : List Int), ∀ y ∈ ([0, 1, 2, 3] : List Int), q.tmod 3 = x → c.tmod 4 = y → S5 60 q c b = some true := by
  simp only [List.mem_cons, List.not_mem_nil, or_false]
  simp only [S5, v11, g5_0, g5_1, g5_2, g5_4, g5_5, g5_6, g5_7, g5_9, g5_10, g5_12, g5_13, g5_14, g5_16, g5_17, g5_18, g5_20, g5_21, g5_22, g5_25, g5_26, g5_27, g5_30, g5_31, g5_32, g5_35, g5_36, g5_37, g5_39, g5_40, g5, g5_0, g5_1, g5_2, g5_4, g5_5, g5_6, g5_7, g5_9, g5_10, g5_12, g5_13, g5_14, g5_16, g5_17, g5_18, g5_20, g5_21, g5_22, g5_25, g5_26, g5_27, g5_30, g5_31, g5_32, g5_35, g5_36, g5_37, g5_39, g5_40, g5, Option.bind_some]
  intro x hx y hy h1 h2
  rw [h1, h2]
  rcases hx with rfl | rfl | rfl <;> rcases hy with rfl | rfl | rfl | rfl <;> cases b <;> kernel_rfl
theorem main5 (q c : Int) (b : Bool) (hq : inR .u8 q) (hc : inR .u8 c) (_ : True) : S5 60 q c b = some true := by
  have a1 : (0:Int) ≤ q := hq.1
  have a2 : (0:Int) ≤ c := hc.1
  have h2 : 0 ≤ q.tmod 3 := Int.tmod_nonneg 3 a1
  have h3 : q.tmod 3 < 3 := Int.tmod_lt_of_pos q (by decide)
  have h4 : 0 ≤ c.tmod 4 := Int.tmod_nonneg 4 a2
  have h5 : c.tmod 4 < 4 := Int.tmod_lt_of_pos c (by decide)
  exact f5 q c b (q.tmod 3) (by simp; omega) (c.tmod 4) (by simp; omega) rfl rfl
end Go.Fw.L16
