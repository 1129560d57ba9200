/- JunctionApply: the law of plain values. -/
import Derived.Test.YtggppceiapjadaaFwHs19b
import Derived.Test.YtggppceiapjadaaFwHs19e
import Derived.Test.YtggppceiapjadaaFwHs19g
set_option linter.unusedVariables false
set_option linter.unusedSimpArgs false
namespace Go.Fw.L19
open Go Go.Fw
set_option maxRecDepth 100000
set_option linter.unusedSimpArgs false
set_option linter.unusedVariables false
theorem bytesLess_same : ∀ s : List UInt8, Op.bytesLess s s = false
  | [] => rfl
  | b :: s => by
    simp only [Op.bytesLess]
    simp [bytesLess_same s]
theorem v64 (a : Int) : S64 2000 a a = some 0 := by
  unfold S64
  have h1 : decide (a < a) = false := decide_eq_false (by omega)
  have h2 : decide (a > a) = false := decide_eq_false (by omega)
  simp only [g64_0, g64_1, g64_2, g64_4, g64_5, g64_7, g64_8, g64, h1, h2, brB_false]
theorem v48 (s : Snd) : S48 2000 s s = some 0 := by
  unfold S48
  have e0 : ((0 : Int) != 0) = false := rfl
  simp only [g48_0, g48_1, g48_2, g48_3, g48_5, g48_6, g48_7, g48_9, g48_10, g48_12, g48_13, g48_15, g48_16, g48, v64, Option.bind_some, e0, brB_false, bytesLess_same, beq_self_eq_true, Bool.or_true, Bool.not_true]
theorem lsameS {R : Type} (k0 : Bool → Option R) (k1 : List Snd → List Snd → Int → Option R) (hk : ∀ a b c, k1 a b c = k0 true) :
    ∀ (ys pre : List Snd) (m : Nat), ys.length < m → (pre ++ ys).length ≤ BIG → l29_13 (S48 2000) k0 k1 m (pre ++ ys) (pre ++ ys) (pre.length : Int) = k0 true := by
  intro ys
  induction ys with
  | nil =>
    intro pre m hm hb
    cases m with
    | zero => simp at hm
    | succ m =>
      unfold l29_13
      simp only [g29_0, g29_1, g29_2, g29_4, g29_5, g29_7, g29_8, g29_11, g29_12, g29_13, g29_15, g29_16, g29, lt_nil, brB_false, hk]
  | cons y ys ih =>
    intro pre m hm hb
    cases m with
    | zero => simp at hm
    | succ m =>
      have e0 : ((0 : Int) != 0) = false := rfl
      unfold l29_13
      simp only [g29_0, g29_1, g29_2, g29_4, g29_5, g29_7, g29_8, g29_11, g29_12, g29_13, g29_15, g29_16, g29, lt_cons, in_cons, at_cons, if_true, brB_true, v48, Option.bind_some, e0, brB_false, wrap_snoc pre ys y hb]
      rw [app_cons pre ys y, ih (pre ++ [y]) m (by simpa using hm) (by rw [← app_cons]; exact hb)]
theorem v29 (l : List Snd) (hl : l.length < 2000) : S29 2000 l l = some true := by
  unfold S29
  have := lsameS (R := Bool) some (fun _ _ _ => some true) (fun _ _ _ => rfl) l [] 2000 hl (by unfold BIG; simp; omega)
  have e : ((l.length : Int) != (l.length : Int)) = false := by simp
  simp only [g29_0, g29_1, g29_2, g29_4, g29_5, g29_7, g29_8, g29_11, g29_12, g29_13, g29_15, g29_16, g29, e, brB_false]
  simpa using this
def errA (l r : List Snd) (k : Int) : Int := if bothE l r ≠ 0 then bothE l r else (appl l r k).2.2.2
theorem appl_err (l r : List Snd) (k : Int) : (appl l r k).2.2.2 = if k < 0 ∨ 4 < k then 6 else if (poss l r).contains k = false then 8 else 0 := by
  unfold appl
  split
  · rfl
  · split
    · rfl
    · split
      · rfl
      · split
        · rfl
        · split <;> rfl
theorem beg_of {r : List Snd} (h : begins r = true) : begAt r 0 = firstOf r := by
  have h0 := h
  unfold begins at h0
  have h1 := beg_first r 0
  rw [h1] at h0 ⊢
  split at h0
  · rename_i h2
    rw [if_pos h2]
    have hf : firstOf r = fidx nb r 0 := by unfold firstOf; rw [if_neg (by omega)]
    rw [hf]
  · simp at h0
theorem set_last : ∀ (l : List Snd) (x : Snd), 0 < l.length → l.set (l.length - 1) x = l.take (l.length - 1) ++ [x] := by
  intro l x h
  rcases List.eq_nil_or_concat l with rfl | ⟨p, z, rfl⟩
  · simp at h
  · simp
def app3 (l r : List Snd) (k : Int) : List Snd × List Snd × List Snd × Int := if errA l r k ≠ 0 then ([], [], [], errA l r k) else appl l r k
theorem appl_nil {l r : List Snd} {k : Int} (h : (appl l r k).2.2.2 ≠ 0) : appl l r k = ([], [], [], (appl l r k).2.2.2) := by
  have h2 := h
  rw [appl_err] at h2
  unfold appl
  split
  · rfl
  · rename_i h3
    rw [if_neg h3] at h2
    split
    · rfl
    · rename_i h4
      rw [if_neg h4] at h2
      exact absurd rfl h2
theorem vc44 (l r : List Snd) (k : Int) : S44 2000 l r k = some (app3 l r k) := by
  by_cases h0 : bothE l r = 0
  · obtain ⟨h1, h2⟩ := both_len h0
    rw [v44 l r k h1 h2 (by rw [vs36, h0])]
    have he : errA l r k = (appl l r k).2.2.2 := by unfold errA; rw [if_neg (by simpa using h0)]
    unfold app3
    rw [he]
    by_cases h3 : (appl l r k).2.2.2 = 0
    · rw [if_neg (by simpa using h3)]
    · rw [if_pos h3, ← appl_nil h3]
  · have he : errA l r k = bothE l r := by unfold errA; rw [if_pos h0]
    have e1 : (bothE l r != 0) = true := by simpa using h0
    unfold app3
    rw [he, if_pos h0]
    unfold S44
    simp only [g44_0, g44_1, g44_2, g44_3, g44_5, g44_6, g44_8, g44_9, g44_11, g44_12, g44_13, g44_14, g44_15, g44_16, g44_17, g44_18, g44_19, g44_20, g44_21, g44_22, g44_27, g44_28, g44_28b, g44_29, g44, vs36, Option.bind_some, e1, brB_true]
theorem vb16 (l r : List Snd) (k : Int) : S16 2000 l r k = some ((app3 l r k).1, (app3 l r k).2.1, (app3 l r k).2.2.2) := by
  unfold S16
  simp only [g16_0, g16_1, g16_2, g16_3, g16, vc44 l r k, Option.bind_some]
theorem vb28 (l r : List Snd) (k : Int) : S28 2000 l r k = some ((app3 l r k).2.2.1, (app3 l r k).2.2.2) := by
  unfold S28
  simp only [g28_0, g28_1, g28_2, g28_3, g28, vc44 l r k, Option.bind_some]
theorem app3_ok {l r : List Snd} {k : Int} (h : errA l r k = 0) : app3 l r k = ((appl l r k).1, (appl l r k).2.1, (appl l r k).2.2.1, 0) := by
  unfold app3
  rw [if_neg (by simpa using h)]
  have : (appl l r k).2.2.2 = 0 := by
    unfold errA at h
    split at h
    · rename_i h1; exact absurd h h1
    · exact h
  rw [← this]
theorem app3_len (l r : List Snd) (k : Int) : (app3 l r k).1.length < 2000 ∧ (app3 l r k).2.1.length < 2000 ∧ (app3 l r k).2.2.1.length < 2000 := by
  unfold app3
  by_cases h : errA l r k = 0
  case neg => rw [if_pos h]; simp
  rw [if_neg (by simpa using h)]
  have hb0 : bothE l r = 0 := by
    unfold errA at h
    split at h
    · rename_i h1; exact absurd h h1
    · rename_i h1; simpa using h1
  obtain ⟨h1, h2⟩ := both_len hb0
  unfold appl
  split
  · simp
  · split
    · simp
    · split
      · simp only [List.length_take, List.length_drop]; omega
      · split
        · simp only [List.length_take, List.length_drop]; omega
        · split
          · simp only [List.length_set, List.length_nil]; omega
          · simp only [List.length_nil]; omega
end Go.Fw.L19
