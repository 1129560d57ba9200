/- JunctionSilent: the law of plain values. -/
import Derived.Test.YtggppceiapjadaaFwHs19p
set_option linter.unusedVariables false
set_option linter.unusedSimpArgs false
namespace Go.Fw.L19
open Go Go.Fw
set_option maxRecDepth 100000
set_option linter.unusedSimpArgs false
set_option linter.unusedVariables false
theorem lcat1 {R : Type} (k0 : List (List Snd) → Int → List (List Snd) → Int → Int → Option R) (x0 : List (List Snd)) :
    ∀ (ys pre : List (List Snd)) (m : Nat) (sz : Int), ys.length < m → (pre ++ ys).length ≤ BIG → 0 ≤ sz → sz + (ys.flatten.length : Int) ≤ 2000 →
      l30_13 k0 m x0 sz (pre ++ ys) ((pre ++ ys).length : Int) (pre.length : Int) = k0 x0 (sz + (ys.flatten.length : Int)) (pre ++ ys) ((pre ++ ys).length : Int) ((pre ++ ys).length : Int) := by
  intro ys
  induction ys with
  | nil =>
    intro pre m sz hm hb h0 h1
    cases m with
    | zero => simp at hm
    | succ m =>
      unfold l30_13
      simp only [g30_0, g30_1, g30_2, g30_3, g30_5, g30_6, g30_7, g30_8, g30_11, g30_12, g30_13, g30_15, g30_16, g30_17, g30_19, g30_20, g30_22, g30_23, g30_24, g30_26, g30_27, g30, lt_nil, brB_false]
      simp
  | cons y ys ih =>
    intro pre m sz hm hb h0 h1
    cases m with
    | zero => simp at hm
    | succ m =>
      rw [List.flatten_cons, List.length_append] at h1
      have w : IntKind.i64.wrap (sz + (y.length : Int)) = sz + (y.length : Int) := wrap_id (by omega)
      have d : decide (sz + (y.length : Int) < 0) = false := decide_eq_false (by omega)
      unfold l30_13
      simp only [g30_0, g30_1, g30_2, g30_3, g30_5, g30_6, g30_7, g30_8, g30_11, g30_12, g30_13, g30_15, g30_16, g30_17, g30_19, g30_20, g30_22, g30_23, g30_24, g30_26, g30_27, g30, lt_cons, in_cons, at_cons, if_true, brB_true, w, d, brB_false, wrap_snoc pre ys y hb]
      rw [app_cons pre ys y, ih (pre ++ [y]) m (sz + (y.length : Int)) (by simpa using hm) (by rw [← app_cons]; exact hb) (by omega) (by omega)]
      congr 1
      rw [List.flatten_cons, List.length_append]; omega
theorem lcat2 {R : Type} (k0 : List Snd → List (List Snd) → Int → Int → Option R) :
    ∀ (ys pre : List (List Snd)) (m : Nat) (acc : List Snd), ys.length < m → (pre ++ ys).length ≤ BIG → acc.length + ys.flatten.length ≤ 2000 →
      l30_24 k0 m acc (pre ++ ys) ((pre ++ ys).length : Int) (pre.length : Int) = k0 (acc ++ ys.flatten) (pre ++ ys) ((pre ++ ys).length : Int) ((pre ++ ys).length : Int) := by
  intro ys
  induction ys with
  | nil =>
    intro pre m acc hm hb h1
    cases m with
    | zero => simp at hm
    | succ m =>
      unfold l30_24
      simp only [g30_0, g30_1, g30_2, g30_3, g30_5, g30_6, g30_7, g30_8, g30_11, g30_12, g30_13, g30_15, g30_16, g30_17, g30_19, g30_20, g30_22, g30_23, g30_24, g30_26, g30_27, g30, lt_nil, brB_false]
      simp
  | cons y ys ih =>
    intro pre m acc hm hb h1
    cases m with
    | zero => simp at hm
    | succ m =>
      rw [List.flatten_cons, List.length_append] at h1
      have hl : acc.length + y.length ≤ 4398046511104 := by omega
      unfold l30_24
      simp only [g30_0, g30_1, g30_2, g30_3, g30_5, g30_6, g30_7, g30_8, g30_11, g30_12, g30_13, g30_15, g30_16, g30_17, g30_19, g30_20, g30_22, g30_23, g30_24, g30_26, g30_27, g30, lt_cons, in_cons, at_cons, if_true, brB_true, if_pos hl, wrap_snoc pre ys y hb]
      rw [app_cons pre ys y, ih (pre ++ [y]) m (acc ++ y) (by simpa using hm) (by rw [← app_cons]; exact hb) (by rw [List.length_append]; omega)]
      rw [List.flatten_cons, List.append_assoc]
theorem v49 (n : Int) (h : 0 ≤ n ∧ n ≤ 2000) : S49 2000 n = some [] := if_pos (by omega)
theorem v30 (l : List (List Snd)) (hl : l.length < 100) (hf : l.flatten.length ≤ 2000) : S30 2000 l = some l.flatten := by
  unfold S30
  have h1 := fun (k0 : List (List Snd) → Int → List (List Snd) → Int → Int → Option (List Snd)) => lcat1 (R := List Snd) k0 l l [] 2000 0 (by omega) (by unfold BIG; simp; omega) (by omega) (by omega)
  have h2 := lcat2 (R := List Snd) (fun a _ _ _ => some a) l [] 2000 [] (by omega) (by unfold BIG; simp; omega) (by simpa using hf)
  simp only [List.nil_append, List.length_nil, Int.natCast_zero, Int.zero_add] at h1 h2
  simp only [g30_0, g30_1, g30_2, g30_3, g30_5, g30_6, g30_7, g30_8, g30_11, g30_12, g30_13, g30_15, g30_16, g30_17, g30_19, g30_20, g30_22, g30_23, g30_24, g30_26, g30_27, g30, h1, v49 _ ⟨Int.natCast_nonneg _, (by omega : (l.flatten.length : Int) ≤ 2000)⟩, Option.bind_some]
  exact h2
theorem vz28 (l r : List Snd) (k : Int) (hl : l.length ≤ 200) (hr : r.length ≤ 200) (hv : S36 2000 l r = some 0) : S28 2000 l r k = some ((appl l r k).2.2.1, (appl l r k).2.2.2) := by
  unfold S28
  simp only [g28_0, g28_1, g28_2, g28_3, g28, v44 l r k hl hr hv, Option.bind_some]
theorem main7 (left right : List Int) (kind : Int) (i0 : InR (.sl (.int .u8)) left) (i1 : InR (.sl (.int .u8)) right) (i2 : InR (.int .u8) kind) :
    S7 2000 left right kind = some true := by
  unfold S7
  have e8 : S8 2000 = some true := rfl
  have r1 : ∀ y ∈ left, 0 ≤ y ∧ y ≤ 255 := fun y hy => i0.2 y hy
  have r2 : ∀ y ∈ right, 0 ≤ y ∧ y ≤ 255 := fun y hy => i1.2 y hy
  have r3 : 0 ≤ kind ∧ kind ≤ 255 := i2
  simp only [g7_0, g7_1, g7_2, g7_4, g7_5, g7_6, g7_7, g7_8, g7_10, g7_11, g7_12, g7_14, g7_15, g7, e8, Option.bind_some, Bool.not_true, brB_false]
  by_cases h1 : left.length ≤ 60
  case neg =>
    have d1 : decide ((left.length : Int) > 60) = true := decide_eq_true (by omega)
    simp only [d1, brB_true]
  by_cases h2 : right.length ≤ 60
  case neg =>
    have d1 : decide ((left.length : Int) > 60) = false := decide_eq_false (by omega)
    have d2 : decide ((right.length : Int) > 60) = true := decide_eq_true (by omega)
    simp only [d1, d2, brB_true, brB_false]
  have d1 : decide ((left.length : Int) > 60) = false := decide_eq_false (by omega)
  have d2 : decide ((right.length : Int) > 60) = false := decide_eq_false (by omega)
  simp only [d1, d2, brB_false, v10 left (by omega) r1, v10 right (by omega) r2, Option.bind_some]
  have hll : (left.map mk).length ≤ 60 := by simpa using h1
  have hlr : (right.map mk).length ≤ 60 := by simpa using h2
  have hdl := des_map left
  have hdr := des_map right
  generalize left.map mk = l at *
  generalize right.map mk = r at *
  have hv := v36 l r (by omega) (by omega) hdl hdr
  have hk : IntKind.i64.wrap (Int.tmod kind 5) = kind % 5 := by
    rw [Int.tmod_eq_emod_of_nonneg r3.1]
    exact wrap_id (by omega)
  have hk4 : 0 ≤ kind % 5 ∧ kind % 5 ≤ 4 := by omega
  simp only [hk]
  generalize kind % 5 = k at *
  simp only [v16 l r k (by omega) (by omega) hv, vz28 l r k (by omega) (by omega) hv, Option.bind_some]
  have herr := appl_err l r k
  rw [if_neg (by omega)] at herr
  by_cases hc : (poss l r).contains k = false
  · rw [if_pos hc] at herr
    have e1 : ((8 : Int) != 0) = true := rfl
    have e2 : ((8 : Int) == 8) = true := rfl
    simp only [herr, e1, e2, brB_true]
  rw [if_neg hc] at herr
  have hct : (poss l r).contains k = true := by simpa using hc
  have e0 : ((0 : Int) != 0) = false := rfl
  simp only [herr, e0, brB_false]
  have hap : appl l r k = (if k = 1 then (l.take (l.length - (endsOf l).toNat), r, l.drop (l.length - (endsOf l).toNat), 0)
    else if k = 2 then (l, r.drop ((firstOf r).toNat + 1), r.take ((firstOf r).toNat + 1), 0)
    else if k = 4 then (l.set (l.length - 1) (1, (1, (l.getD (l.length - 1) s0).2.2)), r, [], 0)
    else (l, r, [], 0)) := by
    unfold appl
    rw [if_neg (by omega), if_neg hc]
  by_cases h4 : k = 4
  · subst h4
    obtain ⟨h5, h6⟩ := poss_4 hct
    have hp := ends_pos (l := l) (by omega)
    have c4 : ((4 : Int) == 4) = true := rfl
    have c41 : ¬ ((4 : Int) = 1) := by omega
    have c42 : ¬ ((4 : Int) = 2) := by omega
    rw [if_neg c41, if_neg c42, if_pos rfl] at hap
    rw [hap]
    have w1 : IntKind.i64.wrap ((l.length : Int) - 1) = ((l.length - 1 : Nat) : Int) := by
      rw [wrap_id (by omega)]; omega
    have w2 : IntKind.i64.wrap (((l.length - 1 : Nat) : Int) + 1) = (l.length : Int) := by
      rw [wrap_id (by omega)]; omega
    have d5 : decide (((l.length - 1 : Nat) : Int) ≥ 0) = true := decide_eq_true (by omega)
    have q1 : (0 : Int) ≤ 0 ∧ (0 : Int) ≤ ((l.length - 1 : Nat) : Int) ∧ ((l.length - 1 : Nat) : Int) ≤ (l.length : Int) ∧ (l.length : Int) ≤ (l.length : Int) := by omega
    have q2 : (0 : Int) ≤ ((l.length - 1 : Nat) : Int) ∧ ((l.length - 1 : Nat) : Int) < (l.length : Int) := by omega
    have q3 : l.length - 1 < l.length := by omega
    have g1 : ∀ z : Snd, (l.set (l.length - 1) z).getD (l.length - 1) s0 = z := by
      intro z; simp [q3]
    have g2 : ∀ z : Snd, (l.set (l.length - 1) z).take (l.length - 1) = l.take (l.length - 1) := by
      intro z
      rw [set_last l z hp, List.take_append_of_le_length (by rw [List.length_take]; omega), List.take_take, Nat.min_self]
    have e1 : ((1 : Int) == 1) = true := rfl
    have e00 : ((([] : List Snd).length : Int) == 0) = true := rfl
    simp only [c4, brB_true, w1, w2, d5, List.length_set, beq_self_eq_true, if_pos q1, if_pos q2, if_pos q3, Int.toNat_natCast, Int.toNat_zero, List.drop_zero, Nat.sub_zero, g1, g2, v29 (l.take (l.length - 1)) (by rw [List.length_take]; omega), v29 r (by omega), Option.bind_some, e1, e00]
  · have c4 : (k == 4) = false := by simpa using h4
    have hall : (appl l r k).1 ++ ((appl l r k).2.2.1 ++ (appl l r k).2.1) = l ++ r := by
      rw [hap]
      split
      · rw [← List.append_assoc, List.take_append_drop]
      · split
        · simp only; rw [List.take_append_drop]
        · simp
    have hflat : [(appl l r k).1, (appl l r k).2.2.1, (appl l r k).2.1].flatten = l ++ r := by
      simp only [List.flatten_cons, List.flatten_nil, List.append_nil]
      exact hall
    have hflat2 : [l, r].flatten = l ++ r := by simp
    simp only [c4, brB_false]
    rw [v30 _ (by simp) (by rw [hflat, List.length_append]; omega), hflat]
    simp only [Option.bind_some]
    rw [v30 _ (by simp) (by rw [hflat2, List.length_append]; omega), hflat2]
    simp only [Option.bind_some]
    rw [v29 (l ++ r) (by rw [List.length_append]; omega)]
    rfl
end Go.Fw.L19
