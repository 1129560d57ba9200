/- The pure statement of the law WeightTexts: for any two numbers the program's texts of the reason and of the kind are the reference's, and different kinds have different names. No condition but that both are of the kind int. -/
import Derived.Test.YtngkconohhikpaaPWeightTextsx3
namespace Go.Proofs.Ytngkconohhikpaa.Pure
open Go.RowKit Go.Proofs.Ytngkconohhikpaa.PWeightTexts Go.Proofs.YtngkconohhikpaaW.PrintWords Go.Proofs.YtngkconohhikpaaW.PrintLast

theorem textsAwake : ancepslaw16_awake.f 20 = some true := by kernel_rfl

/-- a number is one of the listed ones, or has no name -/
theorem inTexts (a : Int) : (a < 1 ∨ 12 < a) ∨ a = 1 ∨ a = 2 ∨ a = 3 ∨ a = 4 ∨ a = 5 ∨ a = 6 ∨ a = 7 ∨ a = 8 ∨ a = 9 ∨ a = 10 ∨ a = 11 ∨ a = 12 := by omega

theorem kindNone (a : Int) (h : a < 1 ∨ 12 < a) : weight_Kind.f a = some ⟨#[]⟩ ∧ ancepsref16_Kind.f a = some ⟨#[]⟩ := by
  constructor
  · unfold weight_Kind.f weight_kinds.f
    simp only [Option.bind_some, weight_name.f]
    by_cases h0 : a < 0
    · rw [if_pos h0]; rfl
    · rw [if_neg h0]
      by_cases h1 : a = 0
      · rw [h1]; rfl
      · rw [if_pos (by simp; omega)]; rfl
  · unfold ancepsref16_Kind.f
    rcases h with h | h
    · rw [if_pos h]
    · rw [if_neg (by omega), if_pos (by omega)]

theorem explainNone (a : Int) (h : a < 1 ∨ 12 < a) : weight_Explain.f a = some ⟨#[]⟩ ∧ ancepsref16_Explain.f a = some ⟨#[]⟩ := by
  constructor
  · unfold weight_Explain.f weight_reasons.f
    simp only [Option.bind_some, weight_name.f]
    by_cases h0 : a < 0
    · rw [if_pos h0]; rfl
    · rw [if_neg h0]
      by_cases h1 : a = 0
      · rw [h1]; rfl
      · rw [if_pos (by simp; omega)]; rfl
  · unfold ancepsref16_Explain.f
    rw [if_neg (by omega), if_neg (by omega), if_neg (by omega), if_neg (by omega), if_neg (by omega), if_neg (by omega), if_neg (by omega)]

theorem listed (a : Int) (h : ¬ (a < 1 ∨ 12 < a)) : ∃ i, i < 12 ∧ a = ((i + 1 : Nat) : Int) := ⟨(a - 1).toNat, by omega, by omega⟩

theorem explainAll : ((List.range 12).all fun i => decide (weight_Explain.f ((i + 1 : Nat) : Int) = ancepsref16_Explain.f ((i + 1 : Nat) : Int)) && (weight_Explain.f ((i + 1 : Nat) : Int)).isSome) = true := by decide +kernel
theorem kindAll : ((List.range 12).all fun i => decide (weight_Kind.f ((i + 1 : Nat) : Int) = ancepsref16_Kind.f ((i + 1 : Nat) : Int)) && (weight_Kind.f ((i + 1 : Nat) : Int)).isSome) = true := by decide +kernel

theorem both {x y : Option ByteArray} (h : (decide (x = y) && x.isSome) = true) : ∃ s, x = some s ∧ y = some s := by
  simp only [Bool.and_eq_true, decide_eq_true_eq] at h
  obtain ⟨s, hs⟩ := Option.isSome_iff_exists.mp h.2
  exact ⟨s, hs, h.1.symm.trans hs⟩

theorem explainSame (a : Int) : ∃ s, weight_Explain.f a = some s ∧ ancepsref16_Explain.f a = some s := by
  by_cases h : a < 1 ∨ 12 < a
  · exact ⟨_, explainNone a h⟩
  · obtain ⟨i, hi, rfl⟩ := listed a h
    exact both (List.all_eq_true.mp explainAll i (List.mem_range.mpr hi))

theorem kindSame (a : Int) : ∃ s, weight_Kind.f a = some s ∧ ancepsref16_Kind.f a = some s := by
  by_cases h : a < 1 ∨ 12 < a
  · exact ⟨_, kindNone a h⟩
  · obtain ⟨i, hi, rfl⟩ := listed a h
    exact both (List.all_eq_true.mp kindAll i (List.mem_range.mpr hi))

/-- the bytes of a kind's name -/
def kindBytes (a : Int) : Option (List UInt8) := (weight_Kind.f a).map ByteArray.toList
theorem kindsApart : ((List.range 12).all fun i => (List.range 12).all fun j => decide (i = j) || decide (kindBytes ((i + 1 : Nat) : Int) ≠ kindBytes ((j + 1 : Nat) : Int))) = true := by decide +kernel
theorem kindsNamed : ((List.range 12).all fun i => decide (kindBytes ((i + 1 : Nat) : Int) ≠ some [])) = true := by decide +kernel
theorem kindBytesNone (a : Int) (h : a < 1 ∨ 12 < a) : kindBytes a = some [] := by
  unfold kindBytes; rw [(kindNone a h).1]; decide +kernel

theorem kindsDiffer (a b : Int) (h1 : ¬ (a < 1 ∨ 12 < a)) (h : a ≠ b) : kindBytes a ≠ kindBytes b := by
  obtain ⟨i, hi, rfl⟩ := listed a h1
  have hn := of_decide_eq_true (List.all_eq_true.mp kindsNamed i (List.mem_range.mpr hi))
  by_cases g : b < 1 ∨ 12 < b
  · rw [kindBytesNone b g]; exact hn
  · obtain ⟨j, hj, rfl⟩ := listed b g
    have ht := List.all_eq_true.mp (List.all_eq_true.mp kindsApart i (List.mem_range.mpr hi)) j (List.mem_range.mpr hj)
    rw [Bool.or_eq_true, decide_eq_true_eq, decide_eq_true_eq] at ht
    rcases ht with ht | ht
    · exact absurd (by rw [ht]) h
    · exact ht

theorem WeightTexts : ancepslaw16_WeightTexts.Pure := by
  intro a b _ _
  refine ⟨20, ?_⟩
  obtain ⟨x, h1, h2⟩ := kindSame a
  obtain ⟨y, h3, _⟩ := kindSame b
  obtain ⟨z, h5, h6⟩ := explainSame a
  unfold ancepslaw16_WeightTexts.f
  rw [textsAwake, h1, h2, h3, h5, h6]
  simp only [Option.bind_some, if_true]
  by_cases e : a = b
  · rw [if_pos e]
  · rw [if_neg e]
    by_cases g : a < 1 ∨ 12 < a
    · have q := kindBytesNone a g
      unfold kindBytes at q; rw [h1] at q
      rw [if_pos (Option.some.inj q)]
    · have d := kindsDiffer a b g e
      unfold kindBytes at d; rw [h1, h3] at d
      split
      · rfl
      · rw [bne_iff_ne.mpr (fun q => d (congrArg some q))]
end Go.Proofs.Ytngkconohhikpaa.Pure
