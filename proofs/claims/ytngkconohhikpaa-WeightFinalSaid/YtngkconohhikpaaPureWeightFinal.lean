/- The pure statement of the law WeightFinal: for every quantity, and whether consonants follow or not, the program's options of the last syllable and the reference's are the same, with the same error. No condition but that the quantity is of the kind int. -/
import Derived.Test.YtngkconohhikpaaPWeightFinalx3
namespace Go.Proofs.Ytngkconohhikpaa.Pure
open Go.RowKit Go.Proofs.Ytngkconohhikpaa.PWeightFinal Go.Proofs.YtngkconohhikpaaW.PrintWords Go.Proofs.YtngkconohhikpaaW.PrintLast

theorem finalAwake : ancepslaw16_awake.f 20 = some true := by kernel_rfl

theorem finalNone (a0 : Int) (a1 : Bool) (h : a0 < 1 ∨ 3 < a0) : weight_Final.f 20 a0 a1 = some ([], 6) ∧ ancepsref16_Final.f 20 a0 a1 = some ([], 6) := by
  rcases h with h | h
  · constructor
    · unfold weight_Final.f; rw [if_pos h]; rfl
    · unfold ancepsref16_Final.f; rw [if_pos h]; rfl
  · constructor
    · unfold weight_Final.f; rw [if_neg (by omega), decide_eq_true (by omega)]; rfl
    · unfold ancepsref16_Final.f; rw [if_neg (by omega), decide_eq_true (by omega)]; rfl

theorem finalCases : (([1, 2, 3] : List Int).all fun q => [true, false].all fun b => ancepslaw16_WeightFinal.f 20 q b == some true) = true := by decide +kernel
theorem finalCase (a0 : Int) (a1 : Bool) (h : a0 = 1 ∨ a0 = 2 ∨ a0 = 3) : ancepslaw16_WeightFinal.f 20 a0 a1 = some true := by
  have hq := List.all_eq_true.mp finalCases a0 (by simpa using h)
  have hb := List.all_eq_true.mp hq a1 (by cases a1 <;> simp)
  simpa using hb

theorem WeightFinal : ancepslaw16_WeightFinal.Pure := by
  intro a0 a1 _
  refine ⟨20, ?_⟩
  by_cases h : a0 < 1 ∨ 3 < a0
  · unfold ancepslaw16_WeightFinal.f
    rw [finalAwake, (finalNone a0 a1 h).1, (finalNone a0 a1 h).2]; rfl
  · have h3 : a0 = 1 ∨ a0 = 2 ∨ a0 = 3 := by omega
    exact finalCase a0 a1 h3
end Go.Proofs.Ytngkconohhikpaa.Pure
