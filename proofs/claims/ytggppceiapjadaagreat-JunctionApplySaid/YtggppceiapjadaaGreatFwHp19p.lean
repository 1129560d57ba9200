/- JunctionApply: the law of plain values. -/
import Derived.Test.YtggppceiapjadaaGreatFwHp19b
import Derived.Test.YtggppceiapjadaaGreatFwHp19e
import Derived.Test.YtggppceiapjadaaGreatFwHp19g
set_option linter.unusedVariables false
set_option linter.unusedSimpArgs false
namespace Go.Fw.L19
open Go Go.Fw
set_option maxRecDepth 100000
set_option linter.unusedSimpArgs false
set_option linter.unusedVariables false
theorem bytesLess_same : ∀ s : List UInt8, Op.bytesLess s s = false
  | [] => rfl
  | b :: s => by
    simp only [Op.bytesLess]
    simp [bytesLess_same s]
theorem v57 (a : Int) : S57 2000 a a = some 0 := by
  unfold S57
  have h1 : decide (a < a) = false := decide_eq_false (by omega)
  have h2 : decide (a > a) = false := decide_eq_false (by omega)
  simp only [g57_0, g57_1, g57_2, g57_4, g57_5, g57_7, g57_8, g57, h1, h2, brB_false]
theorem v30 (s : Snd) : S30 2000 s s = some 0 := by
  unfold S30
  have e0 : ((0 : Int) != 0) = false := rfl
  simp only [g30_0, g30_1, g30_2, g30_3, g30_5, g30_6, g30_7, g30_9, g30_10, g30_12, g30_13, g30_15, g30_16, g30, v57, Option.bind_some, e0, brB_false, bytesLess_same, beq_self_eq_true, Bool.or_true, Bool.not_true]
theorem lsameS {R : Type} (k0 : Bool → Option R) (k1 : List Snd → List Snd → Int → Option R) (hk : ∀ a b c, k1 a b c = k0 true) :
    ∀ (ys pre : List Snd) (m : Nat), ys.length < m → (pre ++ ys).length ≤ BIG → l13_13 (S30 2000) k0 k1 m (pre ++ ys) (pre ++ ys) (pre.length : Int) = k0 true := by
  intro ys
  induction ys with
  | nil =>
    intro pre m hm hb
    cases m with
    | zero => simp at hm
    | succ m =>
      unfold l13_13
      simp only [g13_0, g13_1, g13_2, g13_4, g13_5, g13_7, g13_8, g13_11, g13_12, g13_13, g13_15, g13_16, g13, lt_nil, brB_false, hk]
  | cons y ys ih =>
    intro pre m hm hb
    cases m with
    | zero => simp at hm
    | succ m =>
      have e0 : ((0 : Int) != 0) = false := rfl
      unfold l13_13
      simp only [g13_0, g13_1, g13_2, g13_4, g13_5, g13_7, g13_8, g13_11, g13_12, g13_13, g13_15, g13_16, g13, lt_cons, in_cons, at_cons, if_true, brB_true, v30, Option.bind_some, e0, brB_false, wrap_snoc pre ys y hb]
      rw [app_cons pre ys y, ih (pre ++ [y]) m (by simpa using hm) (by rw [← app_cons]; exact hb)]
theorem v13 (l : List Snd) (hl : l.length < 2000) : S13 2000 l l = some true := by
  unfold S13
  have := lsameS (R := Bool) some (fun _ _ _ => some true) (fun _ _ _ => rfl) l [] 2000 hl (by unfold BIG; simp; omega)
  have e : ((l.length : Int) != (l.length : Int)) = false := by simp
  simp only [g13_0, g13_1, g13_2, g13_4, g13_5, g13_7, g13_8, g13_11, g13_12, g13_13, g13_15, g13_16, g13, e, brB_false]
  simpa using this
theorem lsome {R : Type} (k0 : List Snd → Int → List Snd → Int → Option R) :
    ∀ (ys pre zs : List Snd) (m : Nat) (acc : List Snd), ys.length < m → (pre ++ ys ++ zs).length ≤ 2000 → acc.length ≤ pre.length →
      l55_9 k0 m (pre ++ ys ++ zs) (((pre ++ ys).length : Nat) : Int) acc (pre.length : Int) = k0 (pre ++ ys ++ zs) (((pre ++ ys).length : Nat) : Int) (acc ++ ys) (((pre ++ ys).length : Nat) : Int) := by
  intro ys
  induction ys with
  | nil =>
    intro pre zs m acc hm hb ha
    cases m with
    | zero => simp at hm
    | succ m =>
      unfold l55_9
      simp only [g55_0, g55_1, g55_2, g55_3, g55_5, g55_7, g55_8, g55_9, g55_11, g55_12, g55, lt_nil, brB_false]
      simp
  | cons y ys ih =>
    intro pre zs m acc hm hb ha
    cases m with
    | zero => simp at hm
    | succ m =>
      have hb2 : (pre ++ y :: (ys ++ zs)).length ≤ BIG := by
        simp only [List.length_append, List.length_cons] at hb ⊢
        unfold BIG; omega
      have hl : acc.length + [y].length ≤ 4398046511104 := by
        simp only [List.length_append, List.length_cons, List.length_nil] at hb ⊢; omega
      have ea : pre ++ y :: ys ++ zs = pre ++ y :: (ys ++ zs) := by simp
      have hw : IntKind.i64.wrap ((pre.length : Int) + 1) = ((pre ++ [y]).length : Int) := wrap_snoc pre (ys ++ zs) y hb2
      unfold l55_9
      simp only [g55_0, g55_1, g55_2, g55_3, g55_5, g55_7, g55_8, g55_9, g55_11, g55_12, g55, lt_cons, brB_true]
      rw [ea]
      simp only [in_cons, at_cons, if_true, if_pos hl, hw]
      have := ih (pre ++ [y]) zs m (acc ++ [y]) (by simpa using hm) (by simpa using hb) (by simpa using ha)
      simp only [List.append_assoc, List.cons_append, List.nil_append] at this ⊢
      exact this
theorem v55 (l : List Snd) (a b : Nat) (hl : l.length ≤ 210) (ha : a ≤ b) (hb : b ≤ l.length) : S55 2000 l (a : Int) (b : Int) = some ((l.drop a).take (b - a)) := by
  unfold S55
  have e : l = l.take a ++ (l.drop a).take (b - a) ++ l.drop b := by
    rw [List.append_assoc]
    have h1 : (l.drop a).take (b - a) ++ l.drop b = l.drop a := by
      have := List.take_append_drop (b - a) (l.drop a)
      rw [List.drop_drop] at this
      rwa [show a + (b - a) = b by omega] at this
    rw [h1, List.take_append_drop]
  have l1 : (l.take a).length = a := by rw [List.length_take]; omega
  have l2 : (l.take a ++ (l.drop a).take (b - a)).length = b := by
    rw [List.length_append, l1, List.length_take, List.length_drop]; omega
  have := lsome (R := List Snd) (fun _ _ r _ => some r) ((l.drop a).take (b - a)) (l.take a) (l.drop b) 2000 [] (by rw [List.length_take]; omega) (by rw [← e]; omega) (by simp)
  rw [← e, l2, l1] at this
  simp only [g55_0, g55_1, g55_2, g55_3, g55_5, g55_7, g55_8, g55_9, g55_11, g55_12, g55]
  simpa using this
theorem lin {R : Type} (k0 : Bool → Option R) (k1 : List Int → Int → Int → Option R) (v : Int) (hk : ∀ a b c, k1 a b c = k0 false) :
    ∀ (ys pre : List Int) (m : Nat), ys.length < m → (pre ++ ys).length ≤ BIG →
      l54_10 k0 k1 m (pre ++ ys) v (pre.length : Int) = k0 (ys.contains v) := by
  intro ys
  induction ys with
  | nil =>
    intro pre m hm hb
    cases m with
    | zero => simp at hm
    | succ m =>
      unfold l54_10
      simp only [g54_0, g54_1, g54_2, g54_4, g54_5, g54_8, g54_9, g54_10, g54_12, g54_13, g54, lt_nil, brB_false, hk]
      rfl
  | cons y ys ih =>
    intro pre m hm hb
    cases m with
    | zero => simp at hm
    | succ m =>
      have hcm : (y == v) = (v == y) := by
        rw [Bool.eq_iff_iff]; simp only [beq_iff_eq]; exact eq_comm
      unfold l54_10
      simp only [g54_0, g54_1, g54_2, g54_4, g54_5, g54_8, g54_9, g54_10, g54_12, g54_13, g54, lt_cons, in_cons, at_cons, if_true, brB_true, hcm]
      rw [List.contains_cons]
      cases hv : (v == y) with
      | true => simp only [brB_true, Bool.true_or]
      | false =>
        simp only [brB_false, Bool.false_or, wrap_snoc pre ys y hb]
        rw [app_cons pre ys y, ih (pre ++ [y]) m (by simpa using hm) (by rw [← app_cons]; exact hb)]
theorem v54 (l : List Int) (v : Int) (hl : l.length < 2000) : S54 2000 l v = some (l.contains v) := by
  unfold S54
  have := lin (R := Bool) some (fun _ _ _ => some false) v (fun _ _ _ => rfl) l [] 2000 hl (by unfold BIG; simp; omega)
  simp only [g54_0, g54_1, g54_2, g54_4, g54_5, g54_8, g54_9, g54_10, g54_12, g54_13, g54]
  simpa using this
theorem vr40 (l r : List Snd) (hl : l.length < 2000) (hr : r.length < 2000) : S40 2000 l r = some (poss l r) := by
  unfold S40
  simp only [g40_0, g40_1, g40_2, g40_3, g40_5, g40_6, g40_8, g40_9, g40_10, g40_12, g40_13, g40_14, g40, v43 l (by unfold BIG; omega), v68 r hr, Option.bind_some]
  cases hb : begins r with
  | false =>
    have hp : poss l r = [0] := by unfold poss; rw [if_pos (.inr hb)]
    rw [hp]
    simp only [Bool.not_false, brB_true]
  | true =>
    simp only [Bool.not_true, brB_false]
    by_cases h0 : endsOf l = 0
    · have hp : poss l r = [0] := by unfold poss; rw [if_pos (.inl h0)]
      rw [hp, h0]; rfl
    · have e0 : (endsOf l == 0) = false := by simpa using h0
      have hn : ¬ (endsOf l = 0 ∨ begins r = false) := by simp [h0, hb]
      simp only [e0, brB_false]
      by_cases h2 : endsOf l = 2
      · have e2 : (endsOf l == 2) = true := by simpa using h2
        have hp : poss l r = [1, 3] := by unfold poss; rw [if_neg hn, if_pos h2]
        rw [hp]
        simp only [e2, brB_true]
      · have e2 : (endsOf l == 2) = false := by simpa using h2
        simp only [e2, brB_false]
        have hpos := ends_pos h0
        have w : IntKind.i64.wrap ((l.length : Int) - 1) = (l.length : Int) - 1 := wrap_id (by omega)
        have q : 0 ≤ (l.length : Int) - 1 ∧ (l.length : Int) - 1 < (l.length : Int) := by omega
        simp only [w, if_pos q]
        have t : ((l.length : Int) - 1).toNat = l.length - 1 := by omega
        rw [t]
        have hp : poss l r = if (l.getD (l.length - 1) s0).2.1 = 1 then [1, 2, 3] else [1, 2, 3, 4] := by
          unfold poss; rw [if_neg hn, if_neg h2]
        rw [hp]
        by_cases hq : (l.getD (l.length - 1) s0).2.1 = 1
        · have e3 : ((l.getD (l.length - 1) s0).2.1 != 1) = false := by simpa using hq
          rw [if_pos hq]
          simp only [e3, brB_false]
        · have e3 : ((l.getD (l.length - 1) s0).2.1 != 1) = true := by simpa using hq
          rw [if_neg hq]
          simp only [e3, brB_true]
          rfl
def errA (l r : List Snd) (k : Int) : Int := if bothE l r ≠ 0 then bothE l r else (appl l r k).2.2.2
theorem appl_err (l r : List Snd) (k : Int) : (appl l r k).2.2.2 = if k < 0 ∨ 4 < k then 6 else if (poss l r).contains k = false then 8 else 0 := by
  unfold appl
  split
  · rfl
  · split
    · rfl
    · split
      · rfl
      · split
        · rfl
        · split <;> rfl
theorem v28 (l r : List Snd) (k : Int) : S28 2000 l r k = some (errA l r k) := by
  unfold S28 errA
  simp only [g28_0, g28_1, g28_2, g28_3, g28_5, g28_6, g28_8, g28_9, g28_11, g28_12, g28, v39, Option.bind_some]
  by_cases h0 : bothE l r = 0
  case neg =>
    have e1 : (bothE l r != 0) = true := by simpa using h0
    rw [if_pos h0]
    simp only [e1, brB_true]
  obtain ⟨h1, h2⟩ := both_len h0
  have e1 : (bothE l r != 0) = false := by simpa using h0
  rw [if_neg (by simpa using h0), appl_err]
  simp only [e1, brB_false]
  by_cases hk : k < 0 ∨ 4 < k
  · rw [if_pos hk]
    by_cases h3 : k < 0
    · simp only [h3, decide_true, brB_true]
    · have h4 : k > 4 := by omega
      simp only [h3, h4, decide_false, decide_true, brB_true, brB_false]
  · rw [if_neg hk]
    have h3 : decide (k < 0) = false := decide_eq_false (by omega)
    have h4 : decide (k > 4) = false := decide_eq_false (by omega)
    simp only [h3, h4, brB_false, vr40 l r (by omega) (by omega), v54 _ k (poss_len l r), Option.bind_some]
    cases (poss l r).contains k with
    | false => simp only [Bool.not_false, brB_true, if_true]
    | true => simp only [Bool.not_true, brB_false, Bool.true_eq_false, if_false]
theorem beg_of {r : List Snd} (h : begins r = true) : begAt r 0 = firstOf r := by
  have h0 := h
  unfold begins at h0
  have h1 := beg_first r 0
  rw [h1] at h0 ⊢
  split at h0
  · rename_i h2
    rw [if_pos h2]
    have hf : firstOf r = fidx nb r 0 := by unfold firstOf; rw [if_neg (by omega)]
    rw [hf]
  · simp at h0
theorem set_last : ∀ (l : List Snd) (x : Snd), 0 < l.length → l.set (l.length - 1) x = l.take (l.length - 1) ++ [x] := by
  intro l x h
  rcases List.eq_nil_or_concat l with rfl | ⟨p, z, rfl⟩
  · simp at h
  · simp
theorem v29 (l r : List Snd) (k : Int) (h0 : errA l r k = 0) : S29 2000 l r k = some ((appl l r k).1, (appl l r k).2.1, (appl l r k).2.2.1) := by
  have hb0 : bothE l r = 0 := by
    unfold errA at h0
    split at h0
    · rename_i h; exact absurd h0 h
    · rename_i h; simpa using h
  obtain ⟨h1, h2⟩ := both_len hb0
  have ha : (appl l r k).2.2.2 = 0 := by
    unfold errA at h0
    rw [if_neg (by simpa using hb0)] at h0; exact h0
  rw [appl_err] at ha
  split at ha
  · cases ha
  rename_i hk
  split at ha
  · cases ha
  rename_i hc
  have hc : (poss l r).contains k = true := by simpa using hc
  have hbl : l.length ≤ BIG := by unfold BIG; omega
  have hap : appl l r k = (if k = 1 then (l.take (l.length - (endsOf l).toNat), r, l.drop (l.length - (endsOf l).toNat), 0)
    else if k = 2 then (l, r.drop ((firstOf r).toNat + 1), r.take ((firstOf r).toNat + 1), 0)
    else if k = 4 then (l.set (l.length - 1) (1, (1, (l.getD (l.length - 1) s0).2.2)), r, [], 0)
    else (l, r, [], 0)) := by
    unfold appl
    rw [if_neg hk, if_neg (by rw [hc]; simp)]
  rw [hap]
  unfold S29
  have all : ∀ x : List Snd, x.length ≤ 200 → S55 2000 x 0 (x.length : Int) = some x := by
    intro x hx
    have := v55 x 0 x.length (by omega) (by omega) (by omega)
    simpa using this
  have hc5 : k = 0 ∨ k = 1 ∨ k = 2 ∨ k = 3 ∨ k = 4 := by omega
  rcases hc5 with rfl | rfl | rfl | rfl | rfl
  · have c1 : ((0 : Int) == 1) = false := rfl
    have c2 : ((0 : Int) == 2) = false := rfl
    have c4 : ((0 : Int) == 4) = false := rfl
    simp only [g29_0, g29_1, g29_2, g29_3, g29_4, g29_5, g29_6, g29_7, g29_8, g29_9, g29_10, g29_15, g29_16, g29, c1, c2, c4, brB_false, all l h1, all r h2, Option.bind_some]
    rfl
  · obtain ⟨h5, h6⟩ := ends_le l
    have c1 : ((1 : Int) == 1) = true := rfl
    have w : IntKind.i64.wrap ((l.length : Int) - endsOf l) = ((l.length - (endsOf l).toNat : Nat) : Int) := by
      rw [wrap_id (by omega)]; omega
    have s1 := v55 l 0 (l.length - (endsOf l).toNat) (by omega) (by omega) (by omega)
    have s2 := v55 l (l.length - (endsOf l).toNat) l.length (by omega) (by omega) (by omega)
    simp only [Int.natCast_zero, List.drop_zero, Nat.sub_zero] at s1
    rw [List.take_of_length_le (by rw [List.length_drop]; omega)] at s2
    simp only [g29_0, g29_1, g29_2, g29_3, g29_4, g29_5, g29_6, g29_7, g29_8, g29_9, g29_10, g29_15, g29_16, g29, c1, brB_true, v43 l hbl, Option.bind_some, w, s1, s2, all r h2]
    rfl
  · obtain ⟨h5, h6⟩ := poss_2 hc
    obtain ⟨f1, f2, _⟩ := begins_first h6
    have c1 : ((2 : Int) == 1) = false := rfl
    have c2 : ((2 : Int) == 2) = true := rfl
    have w : IntKind.i64.wrap (firstOf r + 1) = (((firstOf r).toNat + 1 : Nat) : Int) := by
      rw [wrap_id (by omega)]; omega
    have s1 := v55 r 0 ((firstOf r).toNat + 1) (by omega) (by omega) (by omega)
    have s2 := v55 r ((firstOf r).toNat + 1) r.length (by omega) (by omega) (by omega)
    simp only [Int.natCast_zero, List.drop_zero, Nat.sub_zero] at s1
    rw [List.take_of_length_le (by rw [List.length_drop]; omega)] at s2
    simp only [g29_0, g29_1, g29_2, g29_3, g29_4, g29_5, g29_6, g29_7, g29_8, g29_9, g29_10, g29_15, g29_16, g29, c1, c2, brB_true, brB_false, v56 r (by omega), beg_of h6, Option.bind_some, w, s1, s2, all l h1]
    rfl
  · have c1 : ((3 : Int) == 1) = false := rfl
    have c2 : ((3 : Int) == 2) = false := rfl
    have c4 : ((3 : Int) == 4) = false := rfl
    simp only [g29_0, g29_1, g29_2, g29_3, g29_4, g29_5, g29_6, g29_7, g29_8, g29_9, g29_10, g29_15, g29_16, g29, c1, c2, c4, brB_false, all l h1, all r h2, Option.bind_some]
    rfl
  · obtain ⟨h5, h6⟩ := poss_4 hc
    have hp := ends_pos (l := l) (by omega)
    have w : IntKind.i64.wrap ((l.length : Int) - 1) = ((l.length - 1 : Nat) : Int) := by
      rw [wrap_id (by omega)]; omega
    have i1 : (0 : Int) ≤ ((l.length - 1 : Nat) : Int) ∧ ((l.length - 1 : Nat) : Int) < (l.length : Int) := by omega
    have c1 : ((4 : Int) == 1) = false := rfl
    have c2 : ((4 : Int) == 2) = false := rfl
    have c4 : ((4 : Int) == 4) = true := rfl
    have s1 := v55 l 0 (l.length - 1) (by omega) (by omega) (by omega)
    simp only [Int.natCast_zero, List.drop_zero, Nat.sub_zero] at s1
    have hlim : ∀ z : Snd, (l.take (l.length - 1)).length + [z].length ≤ 4398046511104 := by
      intro z
      rw [List.length_take]; simp; omega
    simp only [g29_0, g29_1, g29_2, g29_3, g29_4, g29_5, g29_6, g29_7, g29_8, g29_9, g29_10, g29_15, g29_16, g29, c1, c2, c4, brB_true, brB_false, w, s1, Option.bind_some, if_pos i1, Int.toNat_natCast, if_pos (hlim _), all r h2]
    rw [set_last l _ hp]
    rfl
def app3 (l r : List Snd) (k : Int) : List Snd × List Snd × List Snd × Int := if errA l r k ≠ 0 then ([], [], [], errA l r k) else appl l r k
theorem appl_nil {l r : List Snd} {k : Int} (h : (appl l r k).2.2.2 ≠ 0) : appl l r k = ([], [], [], (appl l r k).2.2.2) := by
  have h2 := h
  rw [appl_err] at h2
  unfold appl
  split
  · rfl
  · rename_i h3
    rw [if_neg h3] at h2
    split
    · rfl
    · rename_i h4
      rw [if_neg h4] at h2
      exact absurd rfl h2
theorem vc27 (l r : List Snd) (k : Int) : S27 2000 l r k = some (app3 l r k) := by
  by_cases h0 : bothE l r = 0
  · obtain ⟨h1, h2⟩ := both_len h0
    rw [v27 l r k h1 h2 (by rw [vs33, h0])]
    have he : errA l r k = (appl l r k).2.2.2 := by unfold errA; rw [if_neg (by simpa using h0)]
    unfold app3
    rw [he]
    by_cases h3 : (appl l r k).2.2.2 = 0
    · rw [if_neg (by simpa using h3)]
    · rw [if_pos h3, ← appl_nil h3]
  · have he : errA l r k = bothE l r := by unfold errA; rw [if_pos h0]
    have e1 : (bothE l r != 0) = true := by simpa using h0
    unfold app3
    rw [he, if_pos h0]
    unfold S27
    simp only [g27_0, g27_1, g27_2, g27_3, g27_5, g27_6, g27_8, g27_9, g27_11, g27_12, g27_13, g27_14, g27_15, g27_16, g27_17, g27_18, g27_19, g27_20, g27_21, g27_22, g27_27, g27_28, g27_28b, g27_29, g27, vs33, Option.bind_some, e1, brB_true]
theorem vb8 (l r : List Snd) (k : Int) : S8 2000 l r k = some ((app3 l r k).1, (app3 l r k).2.1, (app3 l r k).2.2.2) := by
  unfold S8
  simp only [g8_0, g8_1, g8_2, g8_3, g8, vc27 l r k, Option.bind_some]
theorem vb11 (l r : List Snd) (k : Int) : S11 2000 l r k = some ((app3 l r k).2.2.1, (app3 l r k).2.2.2) := by
  unfold S11
  simp only [g11_0, g11_1, g11_2, g11_3, g11, vc27 l r k, Option.bind_some]
theorem app3_ok {l r : List Snd} {k : Int} (h : errA l r k = 0) : app3 l r k = ((appl l r k).1, (appl l r k).2.1, (appl l r k).2.2.1, 0) := by
  unfold app3
  rw [if_neg (by simpa using h)]
  have : (appl l r k).2.2.2 = 0 := by
    unfold errA at h
    split at h
    · rename_i h1; exact absurd h h1
    · exact h
  rw [← this]
theorem vb10 (l r : List Snd) (k : Int) : S10 2000 l r k = some ((app3 l r k).1, (app3 l r k).2.1, (app3 l r k).2.2.2) := by
  unfold S10
  simp only [g10_0, g10_1, g10_2, g10_3, g10_5, g10_6, g10_7, g10, v28, Option.bind_some]
  by_cases h : errA l r k = 0
  · have e1 : (errA l r k != 0) = false := by simpa using h
    simp only [e1, brB_false, v29 l r k h, Option.bind_some, app3_ok h]
  · have e1 : (errA l r k != 0) = true := by simpa using h
    unfold app3
    rw [if_pos h]
    simp only [e1, brB_true]
theorem vb12 (l r : List Snd) (k : Int) : S12 2000 l r k = some ((app3 l r k).2.2.1, (app3 l r k).2.2.2) := by
  unfold S12
  simp only [g12_0, g12_1, g12_2, g12_3, g12_5, g12_6, g12_7, g12, v28, Option.bind_some]
  by_cases h : errA l r k = 0
  · have e1 : (errA l r k != 0) = false := by simpa using h
    simp only [e1, brB_false, v29 l r k h, Option.bind_some, app3_ok h]
  · have e1 : (errA l r k != 0) = true := by simpa using h
    unfold app3
    rw [if_pos h]
    simp only [e1, brB_true]
theorem app3_len (l r : List Snd) (k : Int) : (app3 l r k).1.length < 2000 ∧ (app3 l r k).2.1.length < 2000 ∧ (app3 l r k).2.2.1.length < 2000 := by
  unfold app3
  by_cases h : errA l r k = 0
  case neg => rw [if_pos h]; simp
  rw [if_neg (by simpa using h)]
  have hb0 : bothE l r = 0 := by
    unfold errA at h
    split at h
    · rename_i h1; exact absurd h h1
    · rename_i h1; simpa using h1
  obtain ⟨h1, h2⟩ := both_len hb0
  unfold appl
  split
  · simp
  · split
    · simp
    · split
      · simp only [List.length_take, List.length_drop]; omega
      · split
        · simp only [List.length_take, List.length_drop]; omega
        · split
          · simp only [List.length_set, List.length_nil]; omega
          · simp only [List.length_nil]; omega
theorem main3 (l r : List Snd) (k : Int) (i0 : InR (.sl (.pair (.int .i64) (.pair (.int .i64) (.pair .str .unit)))) l) (i1 : InR (.sl (.pair (.int .i64) (.pair (.int .i64) (.pair .str .unit)))) r) (i2 : InR (.int .i64) k) :
    S3 2000 l r k = some true := by
  unfold S3
  have e8 : S6 2000 = some true := rfl
  obtain ⟨c, hc, hcl⟩ := v7 l
  obtain ⟨d, hd, hdl⟩ := v7 r
  simp only [g3_0, g3_1, g3_2, g3_4, g3_5, g3_6, g3_7, g3_8, g3_9, g3, e8, hc, Option.bind_some, Bool.not_true, brB_false]
  cases c with
  | false => simp only [Bool.not_false, brB_true]
  | true =>
  simp only [Bool.not_true, brB_false, hd, Option.bind_some]
  cases d with
  | false => simp only [Bool.not_false, brB_true]
  | true =>
  have q3 := hcl rfl
  have q4 := hdl rfl
  obtain ⟨a1, a2, a3⟩ := app3_len l r k
  simp only [Bool.not_true, brB_false, vclone l (by omega), vclone r (by omega), vb8, vb11, vb10, vb12, Option.bind_some, beq_self_eq_true, brB_true, v13 _ a1, v13 _ a2, v13 _ a3]
end Go.Fw.L19
