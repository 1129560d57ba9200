/- Licences: words, rules, their errors: program and reference. -/
import Derived.Test.YtggppceiapjadaaGreatFwHj19c
set_option linter.unusedVariables false
set_option linter.unusedSimpArgs false
namespace Go.Fw.L19
open Go Go.Fw
set_option maxRecDepth 100000
set_option linter.unusedSimpArgs false
set_option linter.unusedVariables false
theorem lhas {R : Type} (k0 : Bool → Option R) (k1 : List (List UInt8) → List UInt8 → Int → Option R) (v : List UInt8) :
    ∀ (ys pre : List (List UInt8)) (m : Nat), ys.length < m → (pre ++ ys).length ≤ BIG → (∀ a b c, k1 a b c = k0 false) →
      l70_10 k0 k1 m (pre ++ ys) v (pre.length : Int) = k0 (ys.contains v) := by
  intro ys
  induction ys with
  | nil =>
    intro pre m hm hb hk
    cases m with
    | zero => simp at hm
    | succ m =>
      unfold l70_10
      simp only [g70_0, g70_1, g70_2, g70_4, g70_5, g70_8, g70_9, g70_10, g70_12, g70_13, g70, lt_nil, brB_false, hk]
      rfl
  | cons y ys ih =>
    intro pre m hm hb hk
    cases m with
    | zero => simp at hm
    | succ m =>
      unfold l70_10
      simp only [g70_0, g70_1, g70_2, g70_4, g70_5, g70_8, g70_9, g70_10, g70_12, g70_13, g70, lt_cons, in_cons, at_cons, if_true, brB_true]
      have hcm : (y == v) = (v == y) := by
        rw [Bool.eq_iff_iff]; simp only [beq_iff_eq]; exact eq_comm
      rw [List.contains_cons, hcm]
      cases hv : (v == y) with
      | true => simp only [brB_true, Bool.true_or]
      | false =>
        simp only [brB_false, Bool.false_or, wrap_snoc pre ys y hb]
        rw [app_cons pre ys y, ih (pre ++ [y]) m (by simpa using hm) (by rw [← app_cons]; exact hb) hk]
theorem v70 (l : List (List UInt8)) (v : List UInt8) (hl : l.length < 2000) : S70 2000 l v = some (l.contains v) := by
  have := lhas (R := Bool) some (fun _ _ _ => some false) v l [] 2000 hl (by unfold BIG; simp; omega) (fun _ _ _ => rfl)
  unfold S70
  simp only [g70_0, g70_1, g70_2, g70_4, g70_5, g70_8, g70_9, g70_10, g70_12, g70_13, g70]
  simpa using this
theorem lindexS {R : Type} (k0 : Int → Option R) (k1 : List (List UInt8) → List UInt8 → Int → Int → Option R) (v : List UInt8) :
    ∀ (ys pre : List (List UInt8)) (m : Nat), ys.length < m → (pre ++ ys).length ≤ BIG → (∀ a b c d, k1 a b c d = k0 (-1)) →
      ∃ j : Int, l96_11 k0 k1 m (pre ++ ys) v ((pre ++ ys).length : Int) (pre.length : Int) = k0 j ∧ (decide (0 ≤ j) = ys.contains v) := by
  intro ys
  induction ys with
  | nil =>
    intro pre m hm hb hk
    cases m with
    | zero => simp at hm
    | succ m =>
      refine ⟨-1, ?_, rfl⟩
      unfold l96_11
      simp only [g96_0, g96_1, g96_2, g96_4, g96_5, g96_6, g96_9, g96_10, g96_11, g96_13, g96_14, g96, lt_nil, brB_false, hk]
  | cons y ys ih =>
    intro pre m hm hb hk
    cases m with
    | zero => simp at hm
    | succ m =>
      unfold l96_11
      simp only [g96_0, g96_1, g96_2, g96_4, g96_5, g96_6, g96_9, g96_10, g96_11, g96_13, g96_14, g96, lt_cons, in_cons, at_cons, if_true, brB_true]
      cases hv : (v == y) with
      | true => exact ⟨(pre.length : Int), by simp only [brB_true], by rw [List.contains_cons, hv]; simp⟩
      | false =>
        obtain ⟨j, h1, h2⟩ := ih (pre ++ [y]) m (by simpa using hm) (by rw [← app_cons]; exact hb) hk
        refine ⟨j, ?_, by rw [h2, List.contains_cons, hv]; simp⟩
        simp only [brB_false, wrap_snoc pre ys y hb]
        rw [app_cons pre ys y, h1]
theorem v84 (l : List (List UInt8)) (v : List UInt8) (hl : l.length < 2000) : S84 2000 l v = some (l.contains v) := by
  obtain ⟨j, h1, h2⟩ := lindexS (R := Int) some (fun _ _ _ _ => some (-1)) v l [] 2000 hl (by unfold BIG; simp; omega) (fun _ _ _ _ => rfl)
  have hi : S96 2000 l v = some j := by
    unfold S96
    simp only [g96_0, g96_1, g96_2, g96_4, g96_5, g96_6, g96_9, g96_10, g96_11, g96_13, g96_14, g96]
    simpa using h1
  unfold S84
  simp only [g84_0, g84_1, g84_2, g84, hi, Option.bind_some, ge_iff_le, h2]
def bad (w : List UInt8) : Bool := w.any fun b => !lett (b.toNat : Int)
def wd (w : List UInt8) : Int := if 16 < w.length then 3 else if w = [] ∨ fold w ≠ w ∨ bad w = true then 2 else 0
theorem lbytes {R : Type} (f : Int × Unit → Option Bool) (p : UInt8 → Bool) (hf : ∀ b : UInt8, f ((b.toNat : Int), ()) = some (p b)) (k0 : Int → Option R) (k1 : List Int → (Int × Unit → Option Bool) → Int → Int → Option R) :
    ∀ (ys : List UInt8) (pre : List Int) (m : Nat), ys.length < m → (pre ++ ys.map fun b => (b.toNat : Int)).length ≤ BIG → (∀ a b c d, k1 a b c d = k0 (-1)) →
      ∃ j : Int, l113_11 k0 k1 m (pre ++ ys.map fun b => (b.toNat : Int)) f ((pre ++ ys.map fun b => (b.toNat : Int)).length : Int) (pre.length : Int) = k0 j ∧ (decide (0 ≤ j) = ys.any p) := by
  intro ys
  induction ys with
  | nil =>
    intro pre m hm hb hk
    cases m with
    | zero => simp at hm
    | succ m =>
      refine ⟨-1, ?_, rfl⟩
      unfold l113_11
      simp only [g113_0, g113_1, g113_2, g113_4, g113_5, g113_6, g113_9, g113_10, g113_11, g113_13, g113_14, g113, List.map_nil, lt_nil, brB_false, hk]
  | cons y ys ih =>
    intro pre m hm hb hk
    cases m with
    | zero => simp at hm
    | succ m =>
      rw [List.map_cons] at hb ⊢
      unfold l113_11
      simp only [g113_0, g113_1, g113_2, g113_4, g113_5, g113_6, g113_9, g113_10, g113_11, g113_13, g113_14, g113, lt_cons, in_cons, at_cons, if_true, brB_true, hf, Option.bind_some]
      cases hv : p y with
      | true => exact ⟨(pre.length : Int), by simp only [brB_true], by rw [List.any_cons, hv]; simp⟩
      | false =>
        obtain ⟨j, h1, h2⟩ := ih (pre ++ [(y.toNat : Int)]) m (by simpa using hm) (by rw [← app_cons]; exact hb) hk
        refine ⟨j, ?_, by rw [h2, List.any_cons, hv]; simp⟩
        simp only [brB_false, wrap_snoc pre _ _ hb]
        rw [app_cons pre _ _, h1]
theorem v107 (f : Int × Unit → Option Bool) (p : UInt8 → Bool) (hf : ∀ b : UInt8, f ((b.toNat : Int), ()) = some (p b)) (w : List UInt8) (hw : w.length < 2000) : S107 2000 (w.map fun b => (b.toNat : Int)) f = some (w.any p) := by
  obtain ⟨j, h1, h2⟩ := lbytes f p hf (R := Int) some (fun _ _ _ _ => some (-1)) w [] 2000 hw (by unfold BIG; simp; omega) (fun _ _ _ _ => rfl)
  have hi : S113 2000 (w.map fun b => (b.toNat : Int)) f = some j := by
    unfold S113
    simp only [g113_0, g113_1, g113_2, g113_4, g113_5, g113_6, g113_9, g113_10, g113_11, g113_13, g113_14, g113]
    simpa using h1
  unfold S107
  simp only [g107_0, g107_1, g107_2, g107, hi, Option.bind_some, ge_iff_le, h2]
theorem v108 (b : UInt8) : S108 2000 (b.toNat : Int) = some (!lett (b.toNat : Int)) := by
  unfold S108
  simp only [g108_0, g108_1, g108_2, g108, (vlett b).1, Option.bind_some]
theorem v95 (w : List UInt8) (hw : w.length ≤ 16) : S95 2000 [w] = some (if w = [] then ([], 7) else if bad w = true then ([], 2) else (w, 0)) := by
  unfold S95
  have e1 : decide ((0 : Int) < (([w] : List (List UInt8)).length : Int)) = true := rfl
  have e2 : ((0 : Int) ≤ 0 ∧ (0 : Int) < (([w] : List (List UInt8)).length : Int)) = True := by simp
  have e3 : IntKind.i64.wrap ((0 : Int) + 1) = 1 := rfl
  have e4 : decide ((1 : Int) < (([w] : List (List UInt8)).length : Int)) = false := rfl
  have e5 : ([w] : List (List UInt8)).getD (Int.toNat 0) [] = w := rfl
  have ej : S110 2000 [w] [32] = some w := rfl
  have e6 : decide ((w.length : Int) > 120) = false := decide_eq_false (by omega)
  have ec := v107 (fun x => ((S108 2000 x.1).bind fun b => some [.v .bool b]).bind (unE .bool)) (fun b => !lett (b.toNat : Int)) (fun b => by simp only [v108, Option.bind_some]; rfl) w (by omega)
  have l1 : ∀ (m : Nat) {R : Type} (k0 : List UInt8 → Int → Option R) (k1 : List (List UInt8) → List (List UInt8) → Int → Int → Option R), l95_14 (S107 2000) (S108 2000) k0 k1 (m + 2) [w] [w] 1 0 = if w = [] then k0 [] 7 else if bad w = true then k0 [] 2 else k1 [w] [w] 1 1 := by
    intro m R k0 k1
    unfold l95_14
    have f1 : decide ((0 : Int) < 1) = true := rfl
    simp only [g95_0, g95_1, g95_2, g95_4, g95_5, g95_6, g95_8, g95_9, g95_12, g95_13, g95_14, g95_16, g95_17, g95_18, g95_20, g95_21, g95, f1, brB_true, e2, if_true, e5]
    by_cases h0 : w = []
    · have : (w == ([] : List UInt8)) = true := by simpa using h0
      simp only [this, brB_true, if_pos h0]
    · have : (w == ([] : List UInt8)) = false := by simpa using h0
      simp only [this, brB_false, if_neg h0]
      rw [ec]
      simp only [Option.bind_some]
      change brB (bad w) _ _ = _
      cases hb : bad w with
      | true => simp only [brB_true, if_true]
      | false =>
        simp only [brB_false, Bool.false_eq_true, if_false, e3]
        unfold l95_14
        have f2 : decide ((1 : Int) < 1) = false := rfl
        simp only [g95_0, g95_1, g95_2, g95_4, g95_5, g95_6, g95_8, g95_9, g95_12, g95_13, g95_14, g95_16, g95_17, g95_18, g95_20, g95_21, g95, f2, brB_false]
  simp only [g95_0, g95_1, g95_2, g95_4, g95_5, g95_6, g95_8, g95_9, g95_12, g95_13, g95_14, g95_16, g95_17, g95_18, g95_20, g95_21, g95]
  have el : (([w] : List (List UInt8)).length : Int) = 1 := rfl
  rw [el, l1 1998]
  by_cases h0 : w = []
  · simp only [if_pos h0]
  · simp only [if_neg h0]
    cases hb : bad w with
    | true => simp only [if_true]
    | false => simp only [Bool.false_eq_true, if_false, ej, Option.bind_some, e6, brB_false]
theorem v83 (w : List UInt8) : S83 2000 w = some (wd w) := by
  unfold S83 wd
  simp only [g83_0, g83_1, g83_2, g83_4, g83_5, g83_6, g83_8, g83_9, g83]
  by_cases h1 : 16 < w.length
  · have d : decide ((w.length : Int) > 16) = true := decide_eq_true (by omega)
    simp only [d, brB_true, if_pos h1]
  · have d : decide ((w.length : Int) > 16) = false := decide_eq_false (by omega)
    simp only [d, brB_false, if_neg h1, v95 w (by omega), Option.bind_some, v62 w (by omega)]
    by_cases h2 : w = []
    · simp only [if_pos h2, h2, true_or, if_true]
      rfl
    · simp only [if_neg h2]
      cases hb : bad w with
      | true =>
        simp only [if_true, h2, false_or, or_true]
        rfl
      | false =>
        simp only [Bool.false_eq_true, if_false, h2, false_or, or_false]
        have e0 : ((0 : Int) != 0) = false := rfl
        simp only [e0, brB_false]
        by_cases h3 : fold w = w
        · have : (fold w != w) = false := by simpa using h3
          rw [if_neg (by simpa using h3)]
          simp only [this, brB_false]
        · have : (fold w != w) = true := by simpa using h3
          rw [if_pos h3]
          simp only [this, brB_true]
theorem lword {R : Type} (k0 : Int → Option R) (k1 : List UInt8 → Int → Option R) :
    ∀ (ys pre : List UInt8) (m : Nat), ys.length < m → (pre ++ ys).length ≤ BIG → (∀ a b, k1 a b = k0 0) →
      l87_16 (S103 2000) k0 k1 m (pre ++ ys) (pre.length : Int) = k0 (if bad ys = true then 2 else 0) := by
  intro ys
  induction ys with
  | nil =>
    intro pre m hm hb hk
    cases m with
    | zero => simp at hm
    | succ m =>
      unfold l87_16
      simp only [g87_0, g87_1, g87_2, g87_4, g87_5, g87_7, g87_8, g87_10, g87_11, g87_14, g87_15, g87_16, g87_18, g87_19, g87, lt_nil, brB_false, hk]
      rfl
  | cons y ys ih =>
    intro pre m hm hb hk
    cases m with
    | zero => simp at hm
    | succ m =>
      unfold l87_16
      simp only [g87_0, g87_1, g87_2, g87_4, g87_5, g87_7, g87_8, g87_10, g87_11, g87_14, g87_15, g87_16, g87_18, g87_19, g87, lt_cons, in_cons, at_cons, if_true, brB_true, (vlett y).2, Option.bind_some]
      have hbc : bad (y :: ys) = (!lett (y.toNat : Int) || bad ys) := rfl
      rw [hbc]
      cases hv : lett (y.toNat : Int) with
      | false => simp only [Bool.not_false, brB_true, Bool.true_or, if_true]
      | true =>
        simp only [Bool.not_true, brB_false, Bool.false_or, wrap_snoc pre ys y hb]
        rw [app_cons pre ys y, ih (pre ++ [y]) m (by simpa using hm) (by rw [← app_cons]; exact hb) hk]
theorem v87 (w : List UInt8) : S87 2000 w = some (wd w) := by
  unfold S87 wd
  simp only [g87_0, g87_1, g87_2, g87_4, g87_5, g87_7, g87_8, g87_10, g87_11, g87_14, g87_15, g87_16, g87_18, g87_19, g87]
  by_cases h1 : 16 < w.length
  · have d : decide ((w.length : Int) > 16) = true := decide_eq_true (by omega)
    simp only [d, brB_true, if_pos h1]
  · have d : decide ((w.length : Int) > 16) = false := decide_eq_false (by omega)
    have hl := lword (R := Int) some (fun _ _ => some 0) w [] 2000 (by omega) (by unfold BIG; simp; omega) (fun _ _ => rfl)
    simp only [List.nil_append, List.length_nil, Int.natCast_zero] at hl
    simp only [d, brB_false, if_neg h1, v69 w (by omega), Option.bind_some]
    by_cases h2 : w = []
    · have : (w == ([] : List UInt8)) = true := by simpa using h2
      simp only [this, brB_true]
      rw [if_pos (.inl h2)]
    · have : (w == ([] : List UInt8)) = false := by simpa using h2
      simp only [this, brB_false]
      by_cases h3 : fold w = w
      · have : (fold w != w) = false := by simpa using h3
        simp only [this, brB_false, hl]
        cases hb : bad w with
        | true => rw [if_pos rfl, if_pos (.inr (.inr rfl))]
        | false => rw [if_neg (by simp), if_neg (by simp [h2, h3])]
      · have : (fold w != w) = true := by simpa using h3
        simp only [this, brB_true]
        rw [if_pos (.inr (.inl h3))]
def rlw : List (List UInt8) → List (List UInt8) → Int
  | [], _ => 0
  | w :: ws, pre => if wd w ≠ 0 then wd w else if pre.contains w = true then 5 else rlw ws (pre ++ [w])
def rul (r : Rul) : Int := if r.1 < 1 ∨ 12 < r.1 ∨ r.2.1 < 0 ∨ 999 < r.2.1 then 6 else if 20 < r.2.2.1.length then 3 else rlw r.2.2.1 []
theorem take_pre {α : Type} (pre ys : List α) : ((pre ++ ys).drop (0 : Int).toNat).take ((pre.length : Int).toNat - (0 : Int).toNat) = pre := by simp
theorem lrule {R : Type} (k0 : Int → Option R) (k1 : Rul → List (List UInt8) → Int → Int → Option R) (a b : Int) :
    ∀ (ys pre : List (List UInt8)) (m : Nat), ys.length < m → (pre ++ ys).length ≤ 20 → (∀ a b c d, k1 a b c d = k0 0) →
      l59_22 (S83 2000) (S84 2000) k0 k1 m (a, b, (pre ++ ys), ()) (pre ++ ys) ((pre ++ ys).length : Int) (pre.length : Int) = k0 (rlw ys pre) := by
  intro ys
  induction ys with
  | nil =>
    intro pre m hm hb hk
    cases m with
    | zero => simp at hm
    | succ m =>
      unfold l59_22
      simp only [g59_0, g59_1, g59_2, g59_3, g59_4, g59_8, g59_9, g59_11, g59_12, g59_13, g59_14, g59_16, g59_17, g59_20, g59_21, g59_22, g59_24, g59_25, g59, lt_nil, brB_false, hk, rlw]
  | cons y ys ih =>
    intro pre m hm hb hk
    cases m with
    | zero => simp at hm
    | succ m =>
      have hb2 : (pre ++ y :: ys).length ≤ BIG := by unfold BIG; omega
      have hq : (0 : Int) ≤ 0 ∧ (0 : Int) ≤ (pre.length : Int) ∧ (pre.length : Int) ≤ ((pre ++ y :: ys).length : Int) ∧ ((pre ++ y :: ys).length : Int) ≤ ((pre ++ y :: ys).length : Int) := by simp; omega
      have hpl : pre.length < 2000 := by simp at hb; omega
      unfold l59_22
      simp only [g59_0, g59_1, g59_2, g59_3, g59_4, g59_8, g59_9, g59_11, g59_12, g59_13, g59_14, g59_16, g59_17, g59_20, g59_21, g59_22, g59_24, g59_25, g59, lt_cons, in_cons, at_cons, if_true, brB_true, v83, Option.bind_some, rlw]
      by_cases h1 : wd y = 0
      · have e1 : (wd y != 0) = false := by simpa using h1
        simp only [e1, brB_false, if_pos hq, take_pre, v84 pre y hpl, Option.bind_some]
        rw [if_neg (by simpa using h1)]
        cases hc : pre.contains y with
        | true => simp only [brB_true, if_true]
        | false =>
          simp only [brB_false, Bool.false_eq_true, if_false, wrap_snoc pre ys y hb2]
          rw [app_cons pre ys y, ih (pre ++ [y]) m (by simpa using hm) (by rw [← app_cons]; exact hb) hk]
      · have e1 : (wd y != 0) = true := by simpa using h1
        simp only [e1, brB_true]
        rw [if_pos h1]
theorem v59 (r : Rul) : S59 2000 r = some (rul r) := by
  obtain ⟨a, b, ws, u⟩ := r
  unfold S59 rul
  simp only [g59_0, g59_1, g59_2, g59_3, g59_4, g59_8, g59_9, g59_11, g59_12, g59_13, g59_14, g59_16, g59_17, g59_20, g59_21, g59_22, g59_24, g59_25, g59]
  by_cases h1 : a < 1
  · simp only [h1, decide_true, brB_true, true_or, if_true]
  by_cases h2 : a > 12
  · simp only [h1, h2, decide_true, decide_false, brB_true, brB_false, true_or, or_true, if_true, false_or]
  by_cases h3 : b < 0
  · simp only [h1, h2, h3, decide_true, decide_false, brB_true, brB_false, true_or, or_true, if_true, false_or]
  by_cases h4 : b > 999
  · simp only [h1, h2, h3, h4, decide_true, decide_false, brB_true, brB_false, true_or, or_true, if_true, false_or]
  rw [if_neg (by omega)]
  simp only [h1, h2, h3, h4, decide_false, brB_false]
  by_cases h5 : 20 < ws.length
  · have d : decide ((ws.length : Int) > 20) = true := decide_eq_true (by omega)
    simp only [d, brB_true, if_pos h5]
  · have d : decide ((ws.length : Int) > 20) = false := decide_eq_false (by omega)
    have := lrule (R := Int) some (fun _ _ _ _ => some 0) a b ws [] 2000 (by omega) (by simpa using h5) (fun _ _ _ _ => rfl)
    simp only [d, brB_false, if_neg h5]
    simpa using this
theorem lruler {R : Type} (k0 : Int → Option R) (k1 : Rul → Int → Option R) (a b : Int) :
    ∀ (ys pre : List (List UInt8)) (m : Nat), ys.length < m → (pre ++ ys).length ≤ 20 → (∀ a b, k1 a b = k0 0) →
      l66_20 (S70 2000) (S87 2000) k0 k1 m (a, b, (pre ++ ys), ()) (pre.length : Int) = k0 (rlw ys pre) := by
  intro ys
  induction ys with
  | nil =>
    intro pre m hm hb hk
    cases m with
    | zero => simp at hm
    | succ m =>
      unfold l66_20
      simp only [g66_0, g66_1, g66_2, g66_4, g66_5, g66_7, g66_8, g66_10, g66_11, g66_12, g66_14, g66_15, g66_18, g66_19, g66_20, g66_22, g66_23, g66, lt_nil, brB_false, hk, rlw]
  | cons y ys ih =>
    intro pre m hm hb hk
    cases m with
    | zero => simp at hm
    | succ m =>
      have hb2 : (pre ++ y :: ys).length ≤ BIG := by unfold BIG; omega
      have hq : (0 : Int) ≤ 0 ∧ (0 : Int) ≤ (pre.length : Int) ∧ (pre.length : Int) ≤ ((pre ++ y :: ys).length : Int) ∧ ((pre ++ y :: ys).length : Int) ≤ ((pre ++ y :: ys).length : Int) := by simp; omega
      have hpl : pre.length < 2000 := by simp at hb; omega
      unfold l66_20
      simp only [g66_0, g66_1, g66_2, g66_4, g66_5, g66_7, g66_8, g66_10, g66_11, g66_12, g66_14, g66_15, g66_18, g66_19, g66_20, g66_22, g66_23, g66, lt_cons, in_cons, at_cons, if_true, brB_true, v87, Option.bind_some, rlw]
      by_cases h1 : wd y = 0
      · have e1 : (wd y != 0) = false := by simpa using h1
        simp only [e1, brB_false, if_pos hq, take_pre, v70 pre y hpl, Option.bind_some]
        rw [if_neg (by simpa using h1)]
        cases hc : pre.contains y with
        | true => simp only [brB_true, if_true]
        | false =>
          simp only [brB_false, Bool.false_eq_true, if_false, wrap_snoc pre ys y hb2]
          rw [app_cons pre ys y, ih (pre ++ [y]) m (by simpa using hm) (by rw [← app_cons]; exact hb) hk]
      · have e1 : (wd y != 0) = true := by simpa using h1
        simp only [e1, brB_true]
        rw [if_pos h1]
theorem v66 (r : Rul) : S66 2000 r = some (rul r) := by
  obtain ⟨a, b, ws, u⟩ := r
  unfold S66 rul
  simp only [g66_0, g66_1, g66_2, g66_4, g66_5, g66_7, g66_8, g66_10, g66_11, g66_12, g66_14, g66_15, g66_18, g66_19, g66_20, g66_22, g66_23, g66]
  by_cases h1 : a < 1
  · simp only [h1, decide_true, brB_true, true_or, if_true]
  by_cases h2 : a > 12
  · simp only [h1, h2, decide_true, decide_false, brB_true, brB_false, true_or, or_true, if_true, false_or]
  by_cases h3 : b < 0
  · simp only [h1, h2, h3, decide_true, decide_false, brB_true, brB_false, true_or, or_true, if_true, false_or]
  by_cases h4 : b > 999
  · simp only [h1, h2, h3, h4, decide_true, decide_false, brB_true, brB_false, true_or, or_true, if_true, false_or]
  rw [if_neg (by omega)]
  simp only [h1, h2, h3, h4, decide_false, brB_false]
  by_cases h5 : 20 < ws.length
  · have d : decide ((ws.length : Int) > 20) = true := decide_eq_true (by omega)
    simp only [d, brB_true, if_pos h5]
  · have d : decide ((ws.length : Int) > 20) = false := decide_eq_false (by omega)
    have := lruler (R := Int) some (fun _ _ => some 0) a b ws [] 2000 (by omega) (by simpa using h5) (fun _ _ => rfl)
    simp only [d, brB_false, if_neg h5]
    simpa using this
def rls : List Rul → Int
  | [] => 0
  | r :: rs => if rul r ≠ 0 then rul r else rls rs
def isNm (s : List UInt8) : Bool := match S65 2000 s with | some b => b | none => false
def lic (x : Lic) : Int := if isNm x.1 = false then 2 else if 30 < x.2.1.length then 3 else rls x.2.1
theorem vname (s : List UInt8) : S58 2000 s = some (isNm s) ∧ S65 2000 s = some (isNm s) := by
  obtain ⟨b, h1, h2⟩ := v58 s
  have : isNm s = b := by unfold isNm; rw [h2]
  rw [this]; exact ⟨h1, h2⟩
theorem llic {R : Type} (k0 : Int → Option R) (k1 : List Rul → Int → Int → Option R) :
    ∀ (ys pre : List Rul) (m : Nat), ys.length < m → (pre ++ ys).length ≤ BIG → (∀ a b c, k1 a b c = k0 0) →
      l32_19 (S59 2000) k0 k1 m (pre ++ ys) ((pre ++ ys).length : Int) (pre.length : Int) = k0 (rls ys) := by
  intro ys
  induction ys with
  | nil =>
    intro pre m hm hb hk
    cases m with
    | zero => simp at hm
    | succ m =>
      unfold l32_19
      simp only [g32_0, g32_1, g32_2, g32_3, g32_4, g32_8, g32_9, g32_11, g32_12, g32_13, g32_14, g32_17, g32_18, g32_19, g32_21, g32_22, g32, lt_nil, brB_false, hk, rls]
  | cons y ys ih =>
    intro pre m hm hb hk
    cases m with
    | zero => simp at hm
    | succ m =>
      unfold l32_19
      simp only [g32_0, g32_1, g32_2, g32_3, g32_4, g32_8, g32_9, g32_11, g32_12, g32_13, g32_14, g32_17, g32_18, g32_19, g32_21, g32_22, g32, lt_cons, in_cons, at_cons, if_true, brB_true, v59, Option.bind_some, rls]
      by_cases h1 : rul y = 0
      · have e1 : (rul y != 0) = false := by simpa using h1
        simp only [e1, brB_false, wrap_snoc pre ys y hb]
        rw [if_neg (by simpa using h1), app_cons pre ys y, ih (pre ++ [y]) m (by simpa using hm) (by rw [← app_cons]; exact hb) hk]
      · have e1 : (rul y != 0) = true := by simpa using h1
        simp only [e1, brB_true]
        rw [if_pos h1]
theorem v32 (x : Lic) : S32 2000 x = some (lic x) := by
  unfold S32 lic
  simp only [g32_0, g32_1, g32_2, g32_3, g32_4, g32_8, g32_9, g32_11, g32_12, g32_13, g32_14, g32_17, g32_18, g32_19, g32_21, g32_22, g32, (vname x.1).1, Option.bind_some]
  cases isNm x.1 with
  | false => simp only [Bool.not_false, brB_true, if_true]
  | true =>
    simp only [Bool.not_true, brB_false, Bool.true_eq_false, if_false]
    by_cases h5 : 30 < x.2.1.length
    · have d : decide ((x.2.1.length : Int) > 30) = true := decide_eq_true (by omega)
      simp only [d, brB_true, if_pos h5]
    · have d : decide ((x.2.1.length : Int) > 30) = false := decide_eq_false (by omega)
      have := llic (R := Int) some (fun _ _ _ => some 0) x.2.1 [] 2000 (by omega) (by unfold BIG; simp; omega) (fun _ _ _ => rfl)
      simp only [d, brB_false, if_neg h5]
      simpa using this
theorem llicr {R : Type} (k0 : Int → Option R) (k1 : Lic → Int → Option R) (nm : List UInt8) :
    ∀ (ys pre : List Rul) (m : Nat), ys.length < m → (pre ++ ys).length ≤ BIG → (∀ a b, k1 a b = k0 0) →
      l38_17 (S66 2000) k0 k1 m (nm, (pre ++ ys), ()) (pre.length : Int) = k0 (rls ys) := by
  intro ys
  induction ys with
  | nil =>
    intro pre m hm hb hk
    cases m with
    | zero => simp at hm
    | succ m =>
      unfold l38_17
      simp only [g38_0, g38_1, g38_2, g38_4, g38_5, g38_7, g38_8, g38_10, g38_11, g38_12, g38_15, g38_16, g38_17, g38_19, g38_20, g38, lt_nil, brB_false, hk, rls]
  | cons y ys ih =>
    intro pre m hm hb hk
    cases m with
    | zero => simp at hm
    | succ m =>
      unfold l38_17
      simp only [g38_0, g38_1, g38_2, g38_4, g38_5, g38_7, g38_8, g38_10, g38_11, g38_12, g38_15, g38_16, g38_17, g38_19, g38_20, g38, lt_cons, in_cons, at_cons, if_true, brB_true, v66, Option.bind_some, rls]
      by_cases h1 : rul y = 0
      · have e1 : (rul y != 0) = false := by simpa using h1
        simp only [e1, brB_false, wrap_snoc pre ys y hb]
        rw [if_neg (by simpa using h1), app_cons pre ys y, ih (pre ++ [y]) m (by simpa using hm) (by rw [← app_cons]; exact hb) hk]
      · have e1 : (rul y != 0) = true := by simpa using h1
        simp only [e1, brB_true]
        rw [if_pos h1]
theorem v38 (x : Lic) : S38 2000 x = some (lic x) := by
  obtain ⟨nm, rs, u⟩ := x
  unfold S38 lic
  simp only [g38_0, g38_1, g38_2, g38_4, g38_5, g38_7, g38_8, g38_10, g38_11, g38_12, g38_15, g38_16, g38_17, g38_19, g38_20, g38, (vname nm).2, Option.bind_some]
  cases isNm nm with
  | false => simp only [Bool.not_false, brB_true, if_true]
  | true =>
    simp only [Bool.not_true, brB_false, Bool.true_eq_false, if_false]
    by_cases h5 : 30 < rs.length
    · have d : decide ((rs.length : Int) > 30) = true := decide_eq_true (by omega)
      simp only [d, brB_true, if_pos h5]
    · have d : decide ((rs.length : Int) > 30) = false := decide_eq_false (by omega)
      have := llicr (R := Int) some (fun _ _ => some 0) nm rs [] 2000 (by omega) (by unfold BIG; simp; omega) (fun _ _ => rfl)
      simp only [d, brB_false, if_neg h5]
      simpa using this
theorem rlw_len : ∀ (ws : List (List UInt8)) (pre : List (List UInt8)), rlw ws pre = 0 → ∀ w ∈ ws, w.length ≤ 16
  | [], _, _, w, hw => by simp at hw
  | y :: ws, pre, h, w, hw => by
    simp only [rlw] at h
    split at h
    · rename_i h1; exact absurd h h1
    · split at h
      · simp at h
      · rename_i h1 _
        rcases List.mem_cons.1 hw with rfl | hw
        · have h1 : wd w = 0 := by simpa using h1
          unfold wd at h1
          split at h1
          · simp at h1
          · omega
        · exact rlw_len ws _ h w hw
theorem rls_ok : ∀ (rs : List Rul), rls rs = 0 → ∀ r ∈ rs, r.2.2.1.length ≤ 20
  | [], _, r, hr => by simp at hr
  | y :: rs, h, r, hr => by
    simp only [rls] at h
    split at h
    · rename_i h1; exact absurd h h1
    · rename_i h1
      rcases List.mem_cons.1 hr with rfl | hr
      · have h1 : rul r = 0 := by simpa using h1
        unfold rul at h1
        split at h1
        · simp at h1
        · split at h1
          · simp at h1
          · omega
      · exact rls_ok rs h r hr
theorem lic_ok {x : Lic} (h : lic x = 0) : x.2.1.length ≤ 30 ∧ ∀ r ∈ x.2.1, r.2.2.1.length ≤ 20 := by
  unfold lic at h
  split at h
  · simp at h
  · split at h
    · simp at h
    · exact ⟨by omega, rls_ok _ h⟩
end Go.Fw.L19
