/- JunctionEnds: the law of plain values. -/
import Derived.Test.YtggppceiapjadaaFwH19a
set_option linter.unusedVariables false
set_option linter.unusedSimpArgs false
namespace Go.Fw.L19
open Go Go.Fw
set_option maxRecDepth 100000
set_option linter.unusedSimpArgs false
set_option linter.unusedVariables false

def few (l : List Snd) (n : Int) : Bool := decide ((l.length : Int) ≤ n) && l.all fun s => decide (s.2.2.1.length ≤ 40)
theorem lfew {R : Type} (k0 : Bool → Option R) (k1 : List Snd → Int → Option R) :
    ∀ (ys pre : List Snd) (m : Nat), ys.length < m → (pre ++ ys).length ≤ BIG → (∀ a b, k1 a b = k0 true) →
      l22_13 k0 k1 m (pre ++ ys) (pre.length : Int) = k0 (ys.all fun s => decide (s.2.2.1.length ≤ 40)) := by
  intro ys
  induction ys with
  | nil =>
    intro pre m hm hb hk
    cases m with
    | zero => simp at hm
    | succ m =>
      unfold l22_13
      simp only [g22_0, g22_1, g22_2, g22_4, g22_5, g22_7, g22_8, g22_11, g22_12, g22_13, g22_15, g22_16, g22, lt_nil, brB_false, hk, List.all_nil]
  | cons y ys ih =>
    intro pre m hm hb hk
    cases m with
    | zero => simp at hm
    | succ m =>
      unfold l22_13
      simp only [g22_0, g22_1, g22_2, g22_4, g22_5, g22_7, g22_8, g22_11, g22_12, g22_13, g22_15, g22_16, g22, lt_cons, in_cons, at_cons, if_true, brB_true, List.all_cons]
      by_cases h : y.2.2.1.length ≤ 40
      · have e : decide ((y.2.2.1.length : Int) > 40) = false := by simp; omega
        simp only [e, brB_false, h, decide_true, Bool.true_and, wrap_snoc pre ys y hb]
        rw [app_cons pre ys y, ih (pre ++ [y]) m (by simpa using hm) (by rw [← app_cons]; exact hb) hk]
      · have e : decide ((y.2.2.1.length : Int) > 40) = true := by simp; omega
        simp only [e, brB_true, h, decide_false, Bool.false_and]

theorem v22 (l : List Snd) (n : Int) (hn : n < 1000) : S22 1000 l n = some (few l n) := by
  unfold S22
  unfold few
  by_cases h : (l.length : Int) ≤ n
  · have e : decide ((l.length : Int) > n) = false := by simp; omega
    have := lfew (R := Bool) some (fun _ _ => some true) l [] 1000 (by omega) (by unfold BIG; simp; omega) (fun _ _ => rfl)
    simp only [g22_0, g22_1, g22_2, g22_4, g22_5, g22_7, g22_8, g22_11, g22_12, g22_13, g22_15, g22_16, g22, e, brB_false, h, decide_true, Bool.true_and]
    simpa using this
  · have e : decide ((l.length : Int) > n) = true := by simp; omega
    simp only [g22_0, g22_1, g22_2, g22_4, g22_5, g22_7, g22_8, g22_11, g22_12, g22_13, g22_15, g22_16, g22, e, brB_true, h, decide_false, Bool.false_and]

theorem v26 (k : Int) : ∃ t, S26 1000 k = some t ∧ S27 1000 k = some t := by
  by_cases h : k < 0 ∨ 5 ≤ k
  · refine ⟨[], ?_⟩
    unfold S26 S27
    have e0 : (k == 0) = false := by simp; omega
    have e1 : (k == 1) = false := by simp; omega
    have e2 : (k == 2) = false := by simp; omega
    have e3 : (k == 3) = false := by simp; omega
    have e4 : (k == 4) = false := by simp; omega
    simp only [g26_0, g26_1, g26_2, g26_3, g26_4, g26_5, g26_6, g26_7, g26_8, g26_9, g26_10, g26_11, g26_18, g26_19, g26, g27_0, g27_1, g27_2, g27_3, g27_5, g27_6, g27, e0, e1, e2, e3, e4, brB_false, true_and]
    by_cases hk : k < 0
    · simp only [hk, decide_true, brB_true]
    · have hk5 : k ≥ 5 := by omega
      simp [hk, hk5, brB_true, brB_false]
  · have hc : k = 0 ∨ k = 1 ∨ k = 2 ∨ k = 3 ∨ k = 4 := by omega
    rcases hc with rfl | rfl | rfl | rfl | rfl <;> exact ⟨_, rfl, rfl⟩

theorem main6 (l : List Snd) (k : Int) : S6 1000 l k = some true := by
  unfold S6
  have e8 : S8 1000 = some true := rfl
  simp only [g6_0, g6_1, g6_2, g6_4, g6_5, g6, e8, Option.bind_some, Bool.not_true, brB_false, v22 l 210 (by omega)]
  cases hf : few l 210 with
  | false => simp only [Bool.not_false, brB_true]
  | true =>
    have hl : l.length ≤ 210 := by
      unfold few at hf
      simp only [Bool.and_eq_true, decide_eq_true_eq] at hf
      omega
    have hb : l.length ≤ BIG := by unfold BIG; omega
    have ec : S23 1000 l = some l := if_pos (by omega)
    obtain ⟨t, h1, h2⟩ := v26 k
    simp only [Bool.not_true, brB_false, ec, Option.bind_some, v14 l hb, v24 l hb, v13 l (by omega), v25 l (by omega), beq_self_eq_true, brB_true, h1, h2]
end Go.Fw.L19
