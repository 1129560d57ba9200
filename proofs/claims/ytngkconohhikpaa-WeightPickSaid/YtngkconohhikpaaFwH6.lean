/- WeightPick: the law of plain values. -/
import Derived.Test.YtngkconohhikpaaFwH16
import Derived.Test.YtngkconohhikpaaFwQ
set_option linter.unusedVariables false
set_option linter.unusedSimpArgs false
namespace Go.Fw.L16
open Go Go.Fw
set_option maxRecDepth 100000
set_option linter.unusedSimpArgs false
theorem main6 (l : List Op3) (w : Int) (hl : InR (.sl (.pair (.int .i64) (.pair (.int .i64) (.pair (.int .i64) .unit)))) l) (_ : inR .i64 w) : S6 60 l w = some true := by
  by_cases h40 : (l.length : Int) > 40
  · have e : decide ((l.length : Int) > 40) = true := by simpa using h40
    simp only [S6, g6_0, g6_1, g6_2, g6_4, g6_5, g6_6, g6_7, g6_8, g6_9, g6_10, g6, v11, Option.bind_some, Bool.not_true, brB_true, brB_false, e]
  · have e : decide ((l.length : Int) > 40) = false := by simpa using h40
    have hlt : l.length < 60 := by omega
    simp only [S6, g6_0, g6_1, g6_2, g6_4, g6_5, g6_6, g6_7, g6_8, g6_9, g6_10, g6, v11, Option.bind_some, Bool.not_true, brB_true, brB_false, e, v17 l _ hlt, v18 l _ hlt, v19 l hlt, v20 l hlt]
    have a1 : decide (fi (fun x : Op3 => x.1 == w) l 0 ≥ 0) = (if fi (fun x : Op3 => x.1 == w) l 0 = -1 then ((0 : Int), false) else (fi (fun x : Op3 => x.1 == w) l 0, true)).2 := by
      rcases fi_any (p := fun x : Op3 => x.1 == w) l 0 (by omega) with ⟨q, _⟩ | ⟨q, _⟩
      · rw [q]; rfl
      · rw [if_neg (by omega)]; simpa using q
    have a2 : (if (0 : Int) > fi (fun x : Op3 => x.1 == w) l 0 then 0 else fi (fun x : Op3 => x.1 == w) l 0) = (if fi (fun x : Op3 => x.1 == w) l 0 = -1 then ((0 : Int), false) else (fi (fun x : Op3 => x.1 == w) l 0, true)).1 := by
      rcases fi_any (p := fun x : Op3 => x.1 == w) l 0 (by omega) with ⟨q, _⟩ | ⟨q, _⟩
      · rw [q]; rfl
      · rw [if_neg (by omega), if_neg (by omega)]
    have c1 : decide (fi (fun x : Op3 => x.1 == 1) l 0 ≥ 0) = decide (bits BinOp.and IntKind.i64 (wt l) 1 > 0) := by
      have : decide (fi (fun x : Op3 => x.1 == 1) l 0 ≥ 0) = l.any (fun x => x.1 == 1) := by
        rcases fi_any (p := fun x : Op3 => x.1 == 1) l 0 (by omega) with ⟨q, q2⟩ | ⟨q, q2⟩
        · rw [q, q2]; rfl
        · rw [q2]; simpa using q
      rw [this]; unfold wt
      cases l.any (fun x => x.1 == 1) <;> cases l.any (fun x => x.1 == 2) <;> first | rfl | decide +kernel
    have c2 : decide (fi (fun x : Op3 => x.1 == 2) l 0 ≥ 0) = decide (bits BinOp.and IntKind.i64 (wt l) 2 > 0) := by
      have : decide (fi (fun x : Op3 => x.1 == 2) l 0 ≥ 0) = l.any (fun x => x.1 == 2) := by
        rcases fi_any (p := fun x : Op3 => x.1 == 2) l 0 (by omega) with ⟨q, q2⟩ | ⟨q, q2⟩
        · rw [q, q2]; rfl
        · rw [q2]; simpa using q
      rw [this]; unfold wt
      cases l.any (fun x => x.1 == 1) <;> cases l.any (fun x => x.1 == 2) <;> first | rfl | decide +kernel
    rw [a1, a2, c1, c2]
    simp only [beq_self_eq_true, brB_true]
end Go.Fw.L16
