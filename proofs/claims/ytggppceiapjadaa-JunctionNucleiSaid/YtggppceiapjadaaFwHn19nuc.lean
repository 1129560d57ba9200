/- JunctionNuclei: the law of plain values. -/
import Derived.Test.YtggppceiapjadaaFwHn19b
set_option linter.unusedVariables false
set_option linter.unusedSimpArgs false
namespace Go.Fw.L19
open Go Go.Fw
set_option maxRecDepth 100000
set_option linter.unusedSimpArgs false
set_option linter.unusedVariables false

theorem lnuclei {R : Type} (k0 : List Snd → List Int → Int → Option R) :
    ∀ (ys pre : List Snd) (m : Nat) (acc : List Int), ys.length < m → (pre ++ ys).length ≤ 1000 → acc.length ≤ pre.length →
      ∃ q, l17_11 (S45 1000) k0 m (pre ++ ys) acc (pre.length : Int) = k0 (pre ++ ys) q ((pre ++ ys).length : Int) ∧ q.length = acc.length + ys.countP nuc := by
  intro ys
  induction ys with
  | nil =>
    intro pre m acc hm hb ha
    cases m with
    | zero => simp at hm
    | succ m =>
      refine ⟨acc, ?_, by simp⟩
      unfold l17_11
      simp only [g17_0, g17_1, g17_2, g17_3, g17_5, g17_6, g17_8, g17_9, g17_10, g17_11, g17_13, g17_14, g17, lt_nil, brB_false]
      simp
  | cons y ys ih =>
    intro pre m acc hm hb ha
    cases m with
    | zero => simp at hm
    | succ m =>
      have hb2 : (pre ++ y :: ys).length ≤ BIG := by unfold BIG; omega
      have hl : acc.length + [(pre.length : Int)].length ≤ 17592186044416 := by
        simp only [List.length_append, List.length_cons, List.length_nil] at hb ⊢; omega
      unfold l17_11
      simp only [g17_0, g17_1, g17_2, g17_3, g17_5, g17_6, g17_8, g17_9, g17_10, g17_11, g17_13, g17_14, g17, lt_cons, in_cons, at_cons, if_true, brB_true, v45, Option.bind_some, if_pos hl, wrap_snoc pre ys y hb2]
      cases hn : nuc y with
      | true =>
        obtain ⟨q, h1, h2⟩ := ih (pre ++ [y]) m (acc ++ [(pre.length : Int)]) (by simpa using hm) (by rw [← app_cons]; exact hb) (by simp; omega)
        refine ⟨q, ?_, ?_⟩
        · simp only [brB_true]
          rw [app_cons pre ys y, h1]
        · rw [h2, List.countP_cons, if_pos hn]; simp; omega
      | false =>
        obtain ⟨q, h1, h2⟩ := ih (pre ++ [y]) m acc (by simpa using hm) (by rw [← app_cons]; exact hb) (by simp; omega)
        refine ⟨q, ?_, ?_⟩
        · simp only [brB_false]
          rw [app_cons pre ys y, h1]
        · rw [h2, List.countP_cons, if_neg (by simp [hn])]; simp

theorem v17 (l : List Snd) (hl : l.length < 1000) : ∃ q, S17 1000 l = some q ∧ q.length = l.countP nuc := by
  obtain ⟨q, h1, h2⟩ := lnuclei (R := List Int) (fun _ r _ => some r) l [] 1000 [] hl (by simp; omega) (by simp)
  refine ⟨q, ?_, by simpa using h2⟩
  unfold S17
  simp only [g17_0, g17_1, g17_2, g17_3, g17_5, g17_6, g17_8, g17_9, g17_10, g17_11, g17_13, g17_14, g17]
  simpa using h1

theorem fidx_before (p : Snd → Bool) : ∀ (l : List Snd) (i : Nat) (j : Nat), ((i + j : Nat) : Int) < fidx p l i → p (l.getD j s0) = false
  | [], i, j, h => by simp only [fidx] at h; omega
  | y :: ys, i, j, h => by
    simp only [fidx] at h
    by_cases hp : p y = true
    · rw [if_pos hp] at h; omega
    · rw [if_neg hp] at h
      cases j with
      | zero => simpa using hp
      | succ j =>
        rw [List.getD_cons_succ]
        exact fidx_before p ys (i + 1) j (by rw [show i + 1 + j = i + (j + 1) by omega]; exact h)

theorem count_take {l : List Snd} : ∀ (n : Nat), (∀ j, j < n → nuc (l.getD j s0) = false) → (l.take n).countP nuc = 0 := by
  intro n h
  rw [List.countP_eq_zero]
  intro x hx
  obtain ⟨j, hj, rfl⟩ := List.getElem_of_mem hx
  rw [List.length_take] at hj
  have := h j (by omega)
  rw [List.getElem_take]
  rw [List.getD_eq_getElem?_getD, List.getElem?_eq_getElem (by omega)] at this
  simpa using this

theorem getD_drop_head {l : List Snd} {n : Nat} (h : n < l.length) : l.drop n = l.getD n s0 :: l.drop (n + 1) := by
  rw [List.drop_eq_getElem_cons h, List.getD_eq_getElem?_getD, List.getElem?_eq_getElem h]; rfl

theorem nuc_count (l r : List Snd) (k : Int) (hk : 0 ≤ k ∧ k ≤ 4) (h : (appl l r k).2.2.2 = 0) :
    (appl l r k).1.countP nuc + (appl l r k).2.1.countP nuc + (if k = 1 ∨ k = 2 then 1 else 0) = l.countP nuc + r.countP nuc := by
  unfold appl at h ⊢
  rw [if_neg (by omega)] at h ⊢
  cases hc : (poss l r).contains k with
  | false => rw [hc] at h; simp at h
  | true =>
    simp only [Bool.true_eq_false, if_false]
    have hc5 : k = 0 ∨ k = 1 ∨ k = 2 ∨ k = 3 ∨ k = 4 := by omega
    rcases hc5 with rfl | rfl | rfl | rfl | rfl
    · simp
    · obtain ⟨h1, h2⟩ := poss_1 hc
      have hp := ends_pos h1
      have hsum : l.countP nuc = (l.take (l.length - (endsOf l).toNat)).countP nuc + (l.drop (l.length - (endsOf l).toNat)).countP nuc := by
        conv => lhs; rw [← List.take_append_drop (l.length - (endsOf l).toNat) l]
        rw [List.countP_append]
      have hd : (l.drop (l.length - (endsOf l).toNat)).countP nuc = 1 := by
        unfold endsOf at h1 ⊢
        split
        · rename_i h3
          rw [show (1 : Int).toNat = 1 from rfl, getD_drop_head (by omega), show l.length - 1 + 1 = l.length by omega, List.drop_length]
          simp [List.countP_cons, h3.2]
          have := h3.2
          simpa using this
        · rename_i hn
          rw [if_neg hn] at h1
          split
          · rename_i h3
            have hk5 : nuc (l.getD (l.length - 1) s0) = false := by
              unfold nuc; rw [h3.2.2.1]; rfl
            rw [show (2 : Int).toNat = 2 from rfl, getD_drop_head (by omega), show l.length - 2 + 1 = l.length - 1 by omega, getD_drop_head (by omega), show l.length - 1 + 1 = l.length by omega, List.drop_length]
            rw [List.countP_cons, List.countP_cons, if_pos h3.2.1, if_neg (by rw [hk5]; simp)]
            rfl
          · rename_i h3
            rw [if_neg h3] at h1; exact absurd rfl h1
      rw [if_pos rfl, if_pos (.inl rfl)]
      simp only
      omega
    · obtain ⟨h1, h2⟩ := poss_2 hc
      obtain ⟨f1, f2, f3⟩ := begins_first h2
      have hf : firstOf r = fidx nb r 0 := by
        unfold firstOf at f2 ⊢
        split
        · rename_i h0; rw [if_pos h0] at f2; omega
        · rfl
      have ht : (r.take (firstOf r).toNat).countP nuc = 0 := count_take _ fun j hj => by
        have := fidx_before nb r 0 j (by rw [← hf]; omega)
        cases hq : nuc (r.getD j s0) with
        | false => rfl
        | true => rw [nuc_nb hq] at this; cases this
      have hsum : r.countP nuc = (r.take (firstOf r).toNat).countP nuc + (r.drop (firstOf r).toNat).countP nuc := by
        conv => lhs; rw [← List.take_append_drop (firstOf r).toNat r]
        rw [List.countP_append]
      rw [getD_drop_head (by omega), List.countP_cons, if_pos f3] at hsum
      rw [if_neg (by decide), if_pos rfl, if_pos (.inr rfl)]
      simp only
      omega
    · simp
    · obtain ⟨h1, h2⟩ := poss_4 hc
      have hp := ends_pos (l := l) (by omega)
      have hl : nuc (l.getD (l.length - 1) s0) = true := by
        unfold endsOf at h1
        split at h1
        · rename_i h3; exact h3.2
        · split at h1 <;> simp at h1
      have hset : (l.set (l.length - 1) (1, (1, (l.getD (l.length - 1) s0).2.2))).countP nuc = l.countP nuc := by
        have e1 : l = l.take (l.length - 1) ++ [l.getD (l.length - 1) s0] := by
          conv => lhs; rw [← List.take_append_drop (l.length - 1) l]
          rw [getD_drop_head (by omega), show l.length - 1 + 1 = l.length by omega, List.drop_length]
        generalize l.getD (l.length - 1) s0 = x at *
        generalize hn : l.length - 1 = n at *
        have hlen : (l.take n).length = n := by rw [List.length_take]; omega
        generalize l.take n = t at *
        rw [e1, List.set_append_right _ _ (by omega), hlen, Nat.sub_self]
        simp only [List.set_cons_zero, List.countP_append, List.countP_cons, List.countP_nil, hl, if_true]
        rfl
      rw [if_neg (by decide), if_neg (by decide), if_pos rfl, if_neg (by decide)]
      simp only [hset]
      omega

theorem main4 (left right : List Int) (k : Int) (i0 : InR (.sl (.int .u8)) left) (i1 : InR (.sl (.int .u8)) right) (i2 : InR (.int .u8) k) : S4 1000 left right k = some true := by
  unfold S4
  have e8 : S8 1000 = some true := rfl
  have r0 : ∀ y ∈ left, 0 ≤ y ∧ y ≤ 255 := fun y hy => i0.2 y hy
  have r1 : ∀ y ∈ right, 0 ≤ y ∧ y ≤ 255 := fun y hy => i1.2 y hy
  have r2 : 0 ≤ k ∧ k ≤ 255 := i2
  simp only [g4_0, g4_1, g4_2, g4_4, g4_5, g4_6, g4_7, g4_8, g4_10, g4_11, g4_12, g4_14, g4_15, g4_16, g4, e8, Option.bind_some, Bool.not_true, brB_false]
  by_cases h1 : left.length ≤ 60
  case neg =>
    have d1 : decide ((left.length : Int) > 60) = true := decide_eq_true (by omega)
    simp only [d1, brB_true]
  by_cases h2 : right.length ≤ 60
  case neg =>
    have d1 : decide ((left.length : Int) > 60) = false := decide_eq_false (by omega)
    have d2 : decide ((right.length : Int) > 60) = true := decide_eq_true (by omega)
    simp only [d1, d2, brB_true, brB_false]
  have d1 : decide ((left.length : Int) > 60) = false := decide_eq_false (by omega)
  have d2 : decide ((right.length : Int) > 60) = false := decide_eq_false (by omega)
  have hk5 : Int.tmod k 5 = k % 5 := Int.tmod_eq_emod_of_nonneg r2.1
  have w : IntKind.i64.wrap (Int.tmod k 5) = k % 5 := by rw [hk5]; exact wrap_id (by omega)
  simp only [d1, d2, brB_false, v10 left (by omega) r0, v10 right (by omega) r1, Option.bind_some, w]
  have hll : (left.map mk).length ≤ 60 := by simpa using h1
  have hlr : (right.map mk).length ≤ 60 := by simpa using h2
  have hdl := des_map left
  have hdr := des_map right
  generalize left.map mk = l at *
  generalize right.map mk = r at *
  have hk : 0 ≤ k % 5 ∧ k % 5 ≤ 4 := by omega
  generalize k % 5 = j at *
  rw [v16 l r j (by omega) (by omega) (v36 l r (by omega) (by omega) hdl hdr)]
  simp only [Option.bind_some]
  have he : (appl l r j).2.2.2 = 0 ∨ (appl l r j).2.2.2 = 8 := by
    unfold appl
    rw [if_neg (by omega)]
    split
    · exact .inr rfl
    · split
      · exact .inl rfl
      · split
        · exact .inl rfl
        · split <;> exact .inl rfl
  rcases he with he | he
  · have hn := nuc_count l r j hk he
    obtain ⟨q1, a1, b1⟩ := v17 l (by omega)
    obtain ⟨q2, a2, b2⟩ := v17 r (by omega)
    have hlen1 : (appl l r j).1.length ≤ 60 := by
      unfold appl
      split
      · simp
      · split
        · simp
        · split
          · simp only [List.length_take]; omega
          · split
            · exact hll
            · split
              · simp only [List.length_set]; exact hll
              · exact hll
    have hlen2 : (appl l r j).2.1.length ≤ 60 := by
      unfold appl
      split
      · simp
      · split
        · simp
        · split
          · exact hlr
          · split
            · simp only [List.length_drop]; omega
            · split
              · exact hlr
              · exact hlr
    obtain ⟨q3, a3, b3⟩ := v17 (appl l r j).1 (by omega)
    obtain ⟨q4, a4, b4⟩ := v17 (appl l r j).2.1 (by omega)
    have c1 := List.countP_le_length (p := nuc) (l := l)
    have c2 := List.countP_le_length (p := nuc) (l := r)
    have e0 : ((0 : Int) != 0) = false := rfl
    simp only [he, e0, brB_false, a1, a2, a3, a4, Option.bind_some]
    have w1 : IntKind.i64.wrap ((q1.length : Int) + (q2.length : Int)) = (q1.length : Int) + (q2.length : Int) := wrap_id (by omega)
    have w2 : IntKind.i64.wrap ((q3.length : Int) + (q4.length : Int)) = (q3.length : Int) + (q4.length : Int) := wrap_id (by omega)
    have w3 : IntKind.i64.wrap ((q1.length : Int) + (q2.length : Int) - 1) = (q1.length : Int) + (q2.length : Int) - 1 := wrap_id (by omega)
    simp only [w1, w2, w3]
    have fin : ∀ a b : Int, a = b → some (a == b) = some true := fun a b h => by rw [h]; simp
    by_cases hj1 : j = 1
    · subst hj1
      have c : ((1 : Int) == 1) = true := rfl
      simp only [c, brB_true]
      simp only [true_or, if_true] at hn
      exact fin _ _ (by omega)
    · have c : (j == (1 : Int)) = false := by simpa using hj1
      simp only [c, brB_false]
      by_cases hj2 : j = 2
      · subst hj2
        have c : ((2 : Int) == 2) = true := rfl
        simp only [c, brB_true]
        simp only [or_true, if_true] at hn
        exact fin _ _ (by omega)
      · have c : (j == (2 : Int)) = false := by simpa using hj2
        simp only [c, brB_false]
        rw [if_neg (by omega)] at hn
        exact fin _ _ (by omega)
  · rw [he]
    rfl
end Go.Fw.L19
