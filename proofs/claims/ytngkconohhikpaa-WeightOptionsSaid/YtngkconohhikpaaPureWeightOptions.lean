/- The pure statement of the law WeightOptions: for every quantity and class the program's options and the reference's are the same, with the same error. No condition but that both are of the kind int. -/
import Derived.Test.YtngkconohhikpaaPWeightOptionsx4
namespace Go.Proofs.Ytngkconohhikpaa.Pure
open Go.RowKit Go.Proofs.Ytngkconohhikpaa.PWeightOptions Go.Proofs.YtngkconohhikpaaW.PrintWords Go.Proofs.YtngkconohhikpaaW.PrintLast

theorem part (a : Int) : a < 1 ∨ 4 < a ∨ a = 1 ∨ a = 2 ∨ a = 3 ∨ a = 4 := by omega

theorem awake_yes : ancepslaw16_awake.f 20 = some true := by kernel_rfl

theorem lowQ (a1 : Int) (a0 : Int) (h : a0 < 1) : weight_Options.f 20 a0 a1 = some ([], 6) ∧ ancepsref16_Options.f 20 a0 a1 = some ([], 6) := by
  constructor
  · unfold weight_Options.f; rw [if_pos h]; rfl
  · unfold ancepsref16_Options.f; rw [if_pos h]; rfl

theorem highQ (a1 : Int) (a0 : Int) (h : 3 < a0) : weight_Options.f 20 a0 a1 = some ([], 6) ∧ ancepsref16_Options.f 20 a0 a1 = some ([], 6) := by
  constructor
  · unfold weight_Options.f; rw [if_neg (by omega), decide_eq_true (by omega)]; rfl
  · unfold ancepsref16_Options.f; rw [if_neg (by omega), if_pos (by omega)]; rfl

theorem wrongC (a1 : Int) (a0 : Int) (h : 1 ≤ a0) (h' : a0 ≤ 3) (hc : a1 < 1 ∨ 4 < a1) : weight_Options.f 20 a0 a1 = some ([], 6) ∧ ancepsref16_Options.f 20 a0 a1 = some ([], 6) := by
  constructor
  · unfold weight_Options.f
    rw [if_neg (by omega), decide_eq_false (by omega)]
    simp only [weight_Options.j0]
    rw [if_neg (by decide), if_neg (by omega), if_neg (by omega), if_neg (by omega), if_neg (by omega)]
  · unfold ancepsref16_Options.f
    rw [if_neg (by omega), if_neg (by omega)]
    rcases hc with hc | hc
    · rw [if_pos hc]; rfl
    · rw [if_neg (by omega), decide_eq_true hc]; rfl

theorem none_same (a0 a1 : Int) (h : weight_Options.f 20 a0 a1 = some ([], 6) ∧ ancepsref16_Options.f 20 a0 a1 = some ([], 6)) : ancepslaw16_WeightOptions.f 20 a0 a1 = some true := by
  unfold ancepslaw16_WeightOptions.f
  rw [awake_yes, h.1, h.2]; rfl

theorem WeightOptions : ancepslaw16_WeightOptions.Pure := by
  intro a0 a1 _ _
  refine ⟨20, ?_⟩
  rcases part a0 with h | h | h | h | h | h
  · exact none_same _ _ (lowQ a1 a0 h)
  · exact none_same _ _ (highQ a1 a0 (by omega))
  · rcases part a1 with g | g | g | g | g | g
    · exact none_same _ _ (wrongC a1 a0 (by omega) (by omega) (by omega))
    · exact none_same _ _ (wrongC a1 a0 (by omega) (by omega) (by omega))
    all_goals rw [h, g]; kernel_rfl
  · rcases part a1 with g | g | g | g | g | g
    · exact none_same _ _ (wrongC a1 a0 (by omega) (by omega) (by omega))
    · exact none_same _ _ (wrongC a1 a0 (by omega) (by omega) (by omega))
    all_goals rw [h, g]; kernel_rfl
  · rcases part a1 with g | g | g | g | g | g
    · exact none_same _ _ (wrongC a1 a0 (by omega) (by omega) (by omega))
    · exact none_same _ _ (wrongC a1 a0 (by omega) (by omega) (by omega))
    all_goals rw [h, g]; kernel_rfl
  · exact none_same _ _ (highQ a1 a0 (by omega))
end Go.Proofs.Ytngkconohhikpaa.Pure
