/- Described sounds, and what becomes of two words: plain functions. -/
import Derived.Test.YtggppceiapjadaaFwHs19a
import Derived.Test.YtggppceiapjadaaFwB5
set_option linter.unusedVariables false
set_option linter.unusedSimpArgs false
namespace Go.Fw.L19
open Go Go.Fw
set_option maxRecDepth 100000
set_option linter.unusedSimpArgs false
set_option linter.unusedVariables false
def MADE : List Snd := [((1 : Int), (3 : Int), ([97] : List UInt8), ()), ((1 : Int), (1 : Int), ([101] : List UInt8), ()), ((1 : Int), (2 : Int), ([111] : List UInt8), ()), ((1 : Int), (3 : Int), ([105] : List UInt8), ()), ((2 : Int), (2 : Int), ([97, 101] : List UInt8), ()), ((3 : Int), (0 : Int), ([116] : List UInt8), ()), ((3 : Int), (0 : Int), ([98] : List UInt8), ()), ((4 : Int), (0 : Int), ([114] : List UInt8), ()), ((4 : Int), (0 : Int), ([108] : List UInt8), ()), ((5 : Int), (0 : Int), ([109] : List UInt8), ()), ((5 : Int), (0 : Int), ([110] : List UInt8), ()), ((6 : Int), (0 : Int), ([115] : List UInt8), ()), ((7 : Int), (0 : Int), ([120] : List UInt8), ()), ((8 : Int), (0 : Int), ([118] : List UInt8), ()), ((9 : Int), (0 : Int), ([104] : List UInt8), ()), ((1 : Int), (3 : Int), ([117] : List UInt8), ())]
def mk (x : Int) : Snd := MADE.getD (x % 16).toNat s0
theorem mk_mem (x : Int) : mk x ∈ MADE := by
  unfold mk
  have h : (x % 16).toNat < MADE.length := by
    have : MADE.length = 16 := rfl
    omega
  rw [List.getD_eq_getElem?_getD, List.getElem?_eq_getElem h]
  exact List.getElem_mem h
theorem v34 (x : Int) (h : 0 ≤ x ∧ x ≤ 255) : S34 2000 x = some (mk x) := by
  unfold S34
  simp only [g34_0, g34_1, g34_2, g34_3, g34]
  have w : IntKind.i64.wrap x = x := wrap_id (by omega)
  have e : Int.tmod x 16 = x % 16 := by rw [Int.tmod_eq_emod_of_nonneg h.1]
  change (if (16 : Int) = 0 then none else if 0 ≤ Int.tmod (IntKind.i64.wrap x) 16 ∧ Int.tmod (IntKind.i64.wrap x) 16 < 16 then if (Int.tmod (IntKind.i64.wrap x) 16).toNat < 16 then some (MADE.getD (Int.tmod (IntKind.i64.wrap x) 16).toNat s0) else none else none) = _
  rw [w, e, if_neg (by decide), if_pos (by omega), if_pos (by omega)]
  rfl
theorem lall {R : Type} (k0 : List Int → List Snd → Int → Option R) :
    ∀ (ys pre : List Int) (m : Nat) (acc : List Snd), ys.length < m → (pre ++ ys).length ≤ 2000 → acc.length = pre.length → (∀ y ∈ ys, 0 ≤ y ∧ y ≤ 255) →
      l10_9 (S34 2000) k0 m (pre ++ ys) acc (pre.length : Int) = k0 (pre ++ ys) (acc ++ ys.map mk) ((pre ++ ys).length : Int) := by
  intro ys
  induction ys with
  | nil =>
    intro pre m acc hm hb ha hr
    cases m with
    | zero => simp at hm
    | succ m =>
      unfold l10_9
      simp only [g10_0, g10_1, g10_2, g10_3, g10_5, g10_7, g10_8, g10_9, g10_11, g10_12, g10, lt_nil, brB_false]
      simp
  | cons y ys ih =>
    intro pre m acc hm hb ha hr
    cases m with
    | zero => simp at hm
    | succ m =>
      have hb2 : (pre ++ y :: ys).length ≤ BIG := by unfold BIG; omega
      have hl : acc.length + [mk y].length ≤ 4398046511104 := by
        simp only [List.length_append, List.length_cons, List.length_nil] at hb ⊢; omega
      unfold l10_9
      simp only [g10_0, g10_1, g10_2, g10_3, g10_5, g10_7, g10_8, g10_9, g10_11, g10_12, g10, lt_cons, in_cons, at_cons, if_true, brB_true, v34 y (hr y (by simp)), Option.bind_some, if_pos hl, wrap_snoc pre ys y hb2]
      rw [app_cons pre ys y, ih (pre ++ [y]) m (acc ++ [mk y]) (by simpa using hm) (by rw [← app_cons]; exact hb) (by simp [ha]) (fun z hz => hr z (by simp [hz]))]
      simp
theorem v10 (l : List Int) (hl : l.length < 2000) (hr : ∀ y ∈ l, 0 ≤ y ∧ y ≤ 255) : S10 2000 l = some (l.map mk) := by
  unfold S10
  have := lall (R := List Snd) (fun _ r _ => some r) l [] 2000 [] hl (by simp; omega) rfl hr
  simp only [g10_0, g10_1, g10_2, g10_3, g10_5, g10_7, g10_8, g10_9, g10_11, g10_12, g10]
  simpa using this
def Des (l : List Snd) : Prop := ∀ s ∈ l, s ∈ MADE
theorem des_map (l : List Int) : Des (l.map mk) := by
  intro s hs
  obtain ⟨x, _, rfl⟩ := List.mem_map.1 hs
  exact mk_mem x
theorem made_valid : (MADE.all fun s => S75 2000 s == some 0) = true := by kernel_rfl
theorem v75 {s : Snd} (h : s ∈ MADE) : S75 2000 s = some 0 := by
  have := List.all_eq_true.1 made_valid s h
  exact beq_iff_eq.1 this
theorem lvalid {R : Type} (k0 : Int → Option R) (k1 : List Snd → Int → Int → Option R) :
    ∀ (ys pre : List Snd) (m : Nat), ys.length < m → (pre ++ ys).length ≤ BIG → Des ys → (∀ a b c, k1 a b c = k0 0) →
      l55_15 (S75 2000) k0 k1 m (pre ++ ys) ((pre ++ ys).length : Int) (pre.length : Int) = k0 0 := by
  intro ys
  induction ys with
  | nil =>
    intro pre m hm hb hd hk
    cases m with
    | zero => simp at hm
    | succ m =>
      unfold l55_15
      simp only [g55_0, g55_1, g55_2, g55_4, g55_5, g55_7, g55_8, g55_9, g55_10, g55_13, g55_14, g55_15, g55_17, g55_18, g55, lt_nil, brB_false, hk]
  | cons y ys ih =>
    intro pre m hm hb hd hk
    cases m with
    | zero => simp at hm
    | succ m =>
      have e0 : ((0 : Int) != 0) = false := rfl
      unfold l55_15
      simp only [g55_0, g55_1, g55_2, g55_4, g55_5, g55_7, g55_8, g55_9, g55_10, g55_13, g55_14, g55_15, g55_17, g55_18, g55, lt_cons, in_cons, at_cons, if_true, brB_true, v75 (hd y (by simp)), Option.bind_some, e0, brB_false, wrap_snoc pre ys y hb]
      rw [app_cons pre ys y, ih (pre ++ [y]) m (by simpa using hm) (by rw [← app_cons]; exact hb) (fun s hs => hd s (by simp [hs])) hk]
theorem v55 (l : List Snd) (hl : l.length ≤ 200) (hd : Des l) : S55 2000 l = some 0 := by
  unfold S55
  have := lvalid (R := Int) some (fun _ _ _ => some 0) l [] 2000 (by omega) (by unfold BIG; simp; omega) hd (fun _ _ _ => rfl)
  have e : decide ((l.length : Int) > 200) = false := decide_eq_false (by omega)
  simp only [g55_0, g55_1, g55_2, g55_4, g55_5, g55_7, g55_8, g55_9, g55_10, g55_13, g55_14, g55_15, g55_17, g55_18, g55, e, brB_false]
  simpa using this
theorem v36 (l r : List Snd) (hl : l.length ≤ 200) (hr : r.length ≤ 200) (dl : Des l) (dr : Des r) : S36 2000 l r = some 0 := by
  unfold S36
  have e0 : ((0 : Int) != 0) = false := rfl
  simp only [g36_0, g36_1, g36_2, g36_3, g36_5, g36_6, g36, v55 l hl dl, v55 r hr dr, Option.bind_some, e0, brB_false]
def poss (l r : List Snd) : List Int :=
  if endsOf l = 0 ∨ begins r = false then [0]
  else if endsOf l = 2 then [1, 3]
  else if (l.getD (l.length - 1) s0).2.1 = 1 then [1, 2, 3] else [1, 2, 3, 4]
theorem ends_pos {l : List Snd} (h : endsOf l ≠ 0) : 0 < l.length := by
  unfold endsOf at h
  rcases Nat.eq_zero_or_pos l.length with h0 | h0
  · exfalso; apply h
    rw [if_neg (by omega), if_neg (by omega)]
  · exact h0
theorem ends_cases (l : List Snd) : endsOf l = 0 ∨ endsOf l = 1 ∨ endsOf l = 2 := by
  unfold endsOf; split
  · simp
  · split <;> simp
theorem v37 (l r : List Snd) (hl : l.length < 2000) (hr : r.length < 2000) : S37 2000 l r = some (poss l r) := by
  unfold S37
  have hb : l.length ≤ BIG := by unfold BIG; omega
  simp only [g37_0, g37_1, g37_2, g37_3, g37_4, g37_5, g37_6, g37_7, g37_12, g37_13, g37, v14 l hb, v13 r hr, Option.bind_some, poss]
  rcases ends_cases l with h | h | h
  · simp [h, brB_true]
  · have hp := ends_pos (l := l) (by omega)
    have w1 := wsub (n := l.length) (k := 1) (by omega) hb
    have i1 : (0 : Int) ≤ ((l.length - 1 : Nat) : Int) ∧ ((l.length - 1 : Nat) : Int) < (l.length : Int) := by omega
    simp only [Int.natCast_one] at w1
    cases hq : begins r with
    | false => simp [h, brB_true, brB_false]
    | true =>
      have n10 : ¬ ((1 : Int) = 0 ∨ true = false) := by simp
      have n12 : ¬ ((1 : Int) = 2) := by decide
      have b10 : ((1 : Int) == 0) = false := rfl
      have b12 : ((1 : Int) == 2) = false := rfl
      simp only [h, w1, if_pos i1, Int.toNat_natCast, b10, b12, brB_false, Bool.not_true, if_neg n10, if_neg n12]
      by_cases hs : (l.getD (l.length - 1) s0).2.1 = 1
      · have hs2 : ((l.getD (l.length - 1) s0).2.1 == (1 : Int)) = true := by simpa using hs
        rw [if_pos hs]
        change brB ((l.getD (l.length - 1) s0).2.1 == (1 : Int)) _ _ = _
        rw [hs2]; rfl
      · have hs2 : ((l.getD (l.length - 1) s0).2.1 == (1 : Int)) = false := by simpa using hs
        rw [if_neg hs]
        change brB ((l.getD (l.length - 1) s0).2.1 == (1 : Int)) _ _ = _
        rw [hs2]; rfl
  · cases hq : begins r <;> simp [h, brB_true, brB_false]
theorem lindexI {R : Type} (k0 : Int → Option R) (k1 : List Int → Int → Int → Int → Option R) (v : Int) :
    ∀ (ys pre : List Int) (m : Nat), ys.length < m → (pre ++ ys).length ≤ BIG → (∀ a b c d, k1 a b c d = k0 (-1)) →
      ∃ j : Int, l80_11 k0 k1 m (pre ++ ys) v ((pre ++ ys).length : Int) (pre.length : Int) = k0 j ∧ (decide (0 ≤ j) = ys.contains v) := by
  intro ys
  induction ys with
  | nil =>
    intro pre m hm hb hk
    cases m with
    | zero => simp at hm
    | succ m =>
      refine ⟨-1, ?_, rfl⟩
      unfold l80_11
      simp only [g80_0, g80_1, g80_2, g80_4, g80_5, g80_6, g80_9, g80_10, g80_11, g80_13, g80_14, g80, lt_nil, brB_false, hk]
  | cons y ys ih =>
    intro pre m hm hb hk
    cases m with
    | zero => simp at hm
    | succ m =>
      unfold l80_11
      simp only [g80_0, g80_1, g80_2, g80_4, g80_5, g80_6, g80_9, g80_10, g80_11, g80_13, g80_14, g80, lt_cons, in_cons, at_cons, if_true, brB_true]
      cases hv : (v == y) with
      | true => exact ⟨(pre.length : Int), by simp only [brB_true], by rw [List.contains_cons, hv]; simp⟩
      | false =>
        obtain ⟨j, h1, h2⟩ := ih (pre ++ [y]) m (by simpa using hm) (by rw [← app_cons]; exact hb) hk
        refine ⟨j, ?_, by rw [h2, List.contains_cons, hv]; simp⟩
        simp only [brB_false, wrap_snoc pre ys y hb]
        rw [app_cons pre ys y, h1]
theorem v63 (l : List Int) (v : Int) (hl : l.length < 2000) : S63 2000 l v = some (l.contains v) := by
  obtain ⟨j, h1, h2⟩ := lindexI (R := Int) some (fun _ _ _ _ => some (-1)) v l [] 2000 hl (by unfold BIG; simp; omega) (fun _ _ _ _ => rfl)
  have hi : S80 2000 l v = some j := by
    unfold S80
    simp only [g80_0, g80_1, g80_2, g80_4, g80_5, g80_6, g80_9, g80_10, g80_11, g80_13, g80_14, g80]
    simpa using h1
  unfold S63
  simp only [g63_0, g63_1, g63_2, g63, hi, Option.bind_some, ge_iff_le, h2]
def appl (l r : List Snd) (k : Int) : List Snd × List Snd × List Snd × Int :=
  if k < 0 ∨ 4 < k then ([], [], [], 6)
  else if (poss l r).contains k = false then ([], [], [], 8)
  else if k = 1 then (l.take (l.length - (endsOf l).toNat), r, l.drop (l.length - (endsOf l).toNat), 0)
  else if k = 2 then (l, r.drop ((firstOf r).toNat + 1), r.take ((firstOf r).toNat + 1), 0)
  else if k = 4 then (l.set (l.length - 1) (1, (1, (l.getD (l.length - 1) s0).2.2)), r, [], 0)
  else (l, r, [], 0)
theorem poss_len (l r : List Snd) : (poss l r).length < 2000 := by
  unfold poss
  split
  · simp
  · split
    · simp
    · split <;> simp
theorem ends_le (l : List Snd) : 0 ≤ endsOf l ∧ (endsOf l).toNat ≤ l.length := by
  unfold endsOf
  split
  · simp; omega
  · split
    · simp; omega
    · simp
theorem begins_first {r : List Snd} (h : begins r = true) : 0 ≤ firstOf r ∧ firstOf r < r.length ∧ nuc (r.getD (firstOf r).toNat s0) = true := by
  unfold begins at h
  rw [beg_first r 0] at h
  split at h
  · rename_i h1
    have hf : firstOf r = fidx nb r 0 := by unfold firstOf; rw [if_neg (by omega)]
    rw [hf]
    rcases fidx_ge nb r 0 with h2 | h2
    · omega
    · refine ⟨h1.1, by omega, ?_⟩
      simpa using h1.2
  · simp at h
theorem poss_1 {l r : List Snd} (h : (poss l r).contains 1 = true) : endsOf l ≠ 0 ∧ begins r = true := by
  unfold poss at h
  split at h
  · simp at h
  · rename_i hn
    simp only [not_or, Bool.not_eq_false] at hn
    exact hn
theorem poss_2 {l r : List Snd} (h : (poss l r).contains 2 = true) : endsOf l = 1 ∧ begins r = true := by
  unfold poss at h
  split at h
  · simp at h
  · rename_i hn
    simp only [not_or, Bool.not_eq_false] at hn
    split at h
    · simp at h
    · rcases ends_cases l with h0 | h0 | h0
      · exact absurd h0 hn.1
      · exact ⟨h0, hn.2⟩
      · exact absurd h0 (by assumption)
theorem poss_4 {l r : List Snd} (h : (poss l r).contains 4 = true) : endsOf l = 1 ∧ begins r = true := by
  unfold poss at h
  split at h
  · simp at h
  · rename_i hn
    simp only [not_or, Bool.not_eq_false] at hn
    split at h
    · simp at h
    · rcases ends_cases l with h0 | h0 | h0
      · exact absurd h0 hn.1
      · exact ⟨h0, hn.2⟩
      · exact absurd h0 (by assumption)
theorem vclone (l : List Snd) (h : l.length < 2000) : S23 2000 l = some l := if_pos (by omega)
theorem v44 (l r : List Snd) (k : Int) (hl : l.length ≤ 200) (hr : r.length ≤ 200) (hv : S36 2000 l r = some 0) : S44 2000 l r k = some (appl l r k) := by
  unfold S44
  have e0 : ((0 : Int) != 0) = false := rfl
  have hb : l.length ≤ BIG := by unfold BIG; omega
  simp only [g44_0, g44_1, g44_2, g44_3, g44_5, g44_6, g44_8, g44_9, g44_11, g44_12, g44_13, g44_14, g44_15, g44_16, g44_17, g44_18, g44_19, g44_20, g44_21, g44_22, g44_27, g44_28, g44_28b, g44_29, g44, hv, Option.bind_some, e0, brB_false, v37 l r (by omega) (by omega), v63 _ k (poss_len l r), vclone l (by omega), vclone r (by omega), v14 l hb, v42 r (by omega), appl]
  by_cases hk : k < 0 ∨ 4 < k
  · rw [if_pos hk]
    by_cases h0 : k < 0
    · simp only [h0, decide_true, brB_true]
    · have h4 : k > 4 := by omega
      simp only [h0, h4, decide_false, decide_true, brB_true, brB_false]
  · rw [if_neg hk]
    have h0 : decide (k < 0) = false := decide_eq_false (by omega)
    have h4 : decide (k > 4) = false := decide_eq_false (by omega)
    simp only [h0, h4, brB_false]
    cases hc : (poss l r).contains k with
    | false => simp only [Bool.not_false, brB_true, if_true]
    | true =>
      simp only [Bool.not_true, brB_false, Bool.true_eq_false, if_false]
      have hc5 : k = 0 ∨ k = 1 ∨ k = 2 ∨ k = 3 ∨ k = 4 := by omega
      rcases hc5 with rfl | rfl | rfl | rfl | rfl
      · rfl
      · obtain ⟨h5, h6⟩ := ends_le l
        have w : IntKind.i64.wrap ((l.length : Int) - endsOf l) = ((l.length - (endsOf l).toNat : Nat) : Int) := by
          rw [wrap_id (by omega)]; omega
        have q1 : (0 : Int) ≤ 0 ∧ (0 : Int) ≤ ((l.length - (endsOf l).toNat : Nat) : Int) ∧ ((l.length - (endsOf l).toNat : Nat) : Int) ≤ ((l.length - (endsOf l).toNat : Nat) : Int) ∧ ((l.length - (endsOf l).toNat : Nat) : Int) ≤ (l.length : Int) := by omega
        have q2 : (0 : Int) ≤ ((l.length - (endsOf l).toNat : Nat) : Int) ∧ ((l.length - (endsOf l).toNat : Nat) : Int) ≤ (l.length : Int) ∧ (l.length : Int) ≤ (l.length : Int) ∧ (l.length : Int) ≤ (l.length : Int) := by omega
        have c1 : ((1 : Int) == 1) = true := rfl
        simp only [c1, brB_true, w, if_pos q1, if_pos q2, Int.toNat_natCast, Int.toNat_zero, List.drop_zero, Nat.sub_zero]
        rw [List.take_of_length_le (l := l.drop _) (by rw [List.length_drop]; omega), vclone _ (by rw [List.length_drop]; omega)]
        rfl
      · obtain ⟨h5, h6⟩ := poss_2 hc
        obtain ⟨f1, f2, _⟩ := begins_first h6
        have w : IntKind.i64.wrap (firstOf r + 1) = (((firstOf r).toNat + 1 : Nat) : Int) := by
          rw [wrap_id (by omega)]; omega
        have q1 : (0 : Int) ≤ (((firstOf r).toNat + 1 : Nat) : Int) ∧ (((firstOf r).toNat + 1 : Nat) : Int) ≤ (r.length : Int) ∧ (r.length : Int) ≤ (r.length : Int) ∧ (r.length : Int) ≤ (r.length : Int) := by omega
        have q2 : (0 : Int) ≤ 0 ∧ (0 : Int) ≤ (((firstOf r).toNat + 1 : Nat) : Int) ∧ (((firstOf r).toNat + 1 : Nat) : Int) ≤ (r.length : Int) ∧ (r.length : Int) ≤ (r.length : Int) := by omega
        have c1 : ((2 : Int) == 1) = false := rfl
        have c2 : ((2 : Int) == 2) = true := rfl
        simp only [c1, c2, brB_true, brB_false, w, if_pos q1, if_pos q2, Int.toNat_natCast, Int.toNat_zero, List.drop_zero, Nat.sub_zero]
        rw [List.take_of_length_le (l := r.drop _) (by rw [List.length_drop]; omega), vclone _ (by rw [List.length_drop]; omega)]
        simp only [Option.bind_some]
        rw [vclone _ (by rw [List.length_take]; omega)]
        rfl
      · rfl
      · obtain ⟨h5, h6⟩ := poss_4 hc
        have hp := ends_pos (l := l) (by omega)
        have w1 := wsub (n := l.length) (k := 1) (by omega) hb
        have i1 : (0 : Int) ≤ ((l.length - 1 : Nat) : Int) ∧ ((l.length - 1 : Nat) : Int) < (l.length : Int) := by omega
        simp only [Int.natCast_one] at w1
        have c1 : ((4 : Int) == 1) = false := rfl
        have c2 : ((4 : Int) == 2) = false := rfl
        have c3 : ((4 : Int) == 4) = true := rfl
        have i2 : l.length - 1 < l.length := by omega
        simp only [c1, c2, c3, brB_true, brB_false, w1, if_pos i1, Int.toNat_natCast, if_pos i2, List.length_set]
        have hg : (l.set (l.length - 1) ((1 : Int), (l.getD (l.length - 1) s0).2)).getD (l.length - 1) s0 = ((1 : Int), (l.getD (l.length - 1) s0).2) := by
          simp [i2]
        rw [hg]
        simp only [List.set_set]
        rfl
theorem v16 (l r : List Snd) (k : Int) (hl : l.length ≤ 200) (hr : r.length ≤ 200) (hv : S36 2000 l r = some 0) : S16 2000 l r k = some ((appl l r k).1, (appl l r k).2.1, (appl l r k).2.2.2) := by
  unfold S16
  simp only [g16_0, g16_1, g16_2, g16_3, g16, v44 l r k hl hr hv, Option.bind_some]
end Go.Fw.L19
