/- JunctionApplied: the law of plain values. -/
import Derived.Test.YtggppceiapjadaaFwHa19f
set_option linter.unusedVariables false
set_option linter.unusedSimpArgs false
namespace Go.Fw.L19
open Go Go.Fw
set_option maxRecDepth 100000
set_option linter.unusedSimpArgs false
set_option linter.unusedVariables false
theorem jl_mem (f : Int → Int × Bool) : ∀ (ks : List Int) (j : Jnt), j ∈ jl f ks → j.1 ∈ ks
  | [], j, h => by simp [jl] at h
  | k :: ks, j, h => by
    simp only [jl] at h
    split at h
    · rename_i h0
      rcases List.mem_cons.1 h with rfl | h
      · simp [h0]
      · exact List.mem_cons_of_mem _ (jl_mem f ks j h)
    · split at h
      · rcases List.mem_cons.1 h with rfl | h
        · simp
        · exact List.mem_cons_of_mem _ (jl_mem f ks j h)
      · exact List.mem_cons_of_mem _ (jl_mem f ks j h)
theorem jl_asc (f : Int → Int × Bool) : ∀ (ks : List Int), ks.Pairwise (· < ·) → ((jl f ks).map (·.1)).Pairwise (· < ·)
  | [], _ => by simp [jl]
  | k :: ks, h => by
    obtain ⟨h1, h2⟩ := List.pairwise_cons.1 h
    have ih := jl_asc f ks h2
    have hm : ∀ a ∈ (jl f ks).map (·.1), k < a := by
      intro a ha
      obtain ⟨j, hj, rfl⟩ := List.mem_map.1 ha
      exact h1 _ (jl_mem f ks j hj)
    simp only [jl]
    split
    · rename_i h0; subst h0
      rw [List.map_cons]; exact List.pairwise_cons.2 ⟨hm, ih⟩
    · split
      · rw [List.map_cons]; exact List.pairwise_cons.2 ⟨hm, ih⟩
      · exact ih
theorem lapplied {R : Type} (k0 : Bool → Option R) (k1 : List Snd → List Snd → List Jnt → Int → Int → Option R) (l r : List Snd) (hl : l.length ≤ 200) (hr : r.length ≤ 200) (hv : S36 2000 l r = some 0) :
    ∀ (ys pre : List Jnt) (m : Nat), ys.length < m → (pre ++ ys).length ≤ BIG → ((pre ++ ys).map (·.1)).Pairwise (· < ·) → (∀ j ∈ ys, j.1 ≠ 0 ∧ (appl l r j.1).2.2.2 = 0) →
      l3_24b (S16 2000) k0 k1 m l r (pre ++ ys) ((pre ++ ys).length : Int) (pre.length : Int) = k1 l r (pre ++ ys) ((pre ++ ys).length : Int) ((pre ++ ys).length : Int) := by
  intro ys
  induction ys with
  | nil =>
    intro pre m hm hb ha hj
    cases m with
    | zero => simp at hm
    | succ m =>
      unfold l3_24b
      simp only [g3_0, g3_1, g3_2, g3_4, g3_5, g3_6, g3_7, g3_9, g3_10, g3_11, g3_13, g3_14, g3_16, g3_17, g3_18, g3_19, g3_22, g3_23, g3_14b, g3_16b, g3_17b, g3_23b, g3_24, g3_26, g3_27, g3, lt_nil, brB_false]
      simp
  | cons y ys ih =>
    intro pre m hm hb ha hj
    cases m with
    | zero => simp at hm
    | succ m =>
      obtain ⟨h1, h2⟩ := hj y (by simp)
      have e1 : (y.1 == (0 : Int)) = false := by simpa using h1
      have e0 : ((0 : Int) != 0) = false := rfl
      have step := ih (pre ++ [y]) m (by simpa using hm) (by rw [← app_cons]; exact hb) (by rw [← app_cons]; exact ha) (fun j h => hj j (by simp [h]))
      rw [← app_cons] at step
      unfold l3_24b
      simp only [g3_0, g3_1, g3_2, g3_4, g3_5, g3_6, g3_7, g3_9, g3_10, g3_11, g3_13, g3_14, g3_16, g3_17, g3_18, g3_19, g3_22, g3_23, g3_14b, g3_16b, g3_17b, g3_23b, g3_24, g3_26, g3_27, g3, lt_cons, in_cons, at_cons, lt_at, if_true, brB_true, v16 l r y.1 hl hr hv, Option.bind_some, h2, e0, e1, brB_false, wrap_snoc pre ys y hb]
      rcases List.eq_nil_or_concat pre with rfl | ⟨pre', z, rfl⟩
      · have d : decide ((([] : List Jnt).length : Int) > 0) = false := rfl
        simp only [d, brB_false]
        exact step
      · have hpl : ((pre'.concat z).length : Int) = (pre'.length : Int) + 1 := by simp
        have d : decide (((pre'.concat z).length : Int) > 0) = true := decide_eq_true (by omega)
        have w : IntKind.i64.wrap (((pre'.concat z).length : Int) - 1) = (pre'.length : Int) := by
          rw [hpl, wrap_id]
          · omega
          · simp only [List.length_append, List.length_concat, BIG] at hb; omega
        have q1 : 0 ≤ (pre'.length : Int) ∧ (pre'.length : Int) < ((pre'.concat z ++ y :: ys).length : Int) := by
          simp only [List.length_append, List.length_concat]; omega
        have q2 : Int.toNat (pre'.length : Int) < (pre'.concat z ++ y :: ys).length := by simp
        have g : (pre'.concat z ++ y :: ys).getD (Int.toNat (pre'.length : Int)) ((0 : Int), ((0 : Int), ())) = z := by simp
        have hlt : z.1 < y.1 := by
          rw [List.map_append] at ha
          have := (List.pairwise_append.1 ha).2.2 z.1 (by simp) y.1 (by simp)
          exact this
        have d2 : decide (y.1 ≤ z.1) = false := decide_eq_false (by omega)
        simp only [d, brB_true, w, if_pos q1, if_pos q2, g, d2, brB_false]
        exact step
theorem poss_asc (l r : List Snd) : (poss l r).Pairwise (· < ·) := by
  unfold poss
  split
  · simp
  · split
    · simp
    · split <;> simp
theorem appl_ok {l r : List Snd} {k : Int} (h : k ∈ poss l r) : (appl l r k).2.2.2 = 0 := by
  have hk : 0 ≤ k ∧ k ≤ 4 := by
    unfold poss at h
    split at h
    · simp at h; omega
    · split at h
      · simp at h; omega
      · split at h <;> · simp at h; omega
  have hc : (poss l r).contains k = true := by simpa using h
  unfold appl
  rw [if_neg (by omega), hc]
  simp only [Bool.true_eq_false, if_false]
  split
  · rfl
  · split
    · rfl
    · split <;> rfl
theorem vsame1 : S15 2000 [((0 : Int), (0 : Int), ())] [((0 : Int), (0 : Int), ())] = some true := by kernel_rfl
theorem main3 (x : Lic) (left right : List Int) (i0 : InR (.pair .str (.pair (.sl (.pair (.int .i64) (.pair (.int .i64) (.pair (.sl .str) .unit)))) .unit)) x) (i1 : InR (.sl (.int .u8)) left) (i2 : InR (.sl (.int .u8)) right)
    (z0 : InZ reachBytes (.pair .str (.pair (.sl (.pair (.int .i64) (.pair (.int .i64) (.pair (.sl .str) .unit)))) .unit)) x) (z1 : InZ reachBytes (.sl (.int .u8)) left) (z2 : InZ reachBytes (.sl (.int .u8)) right) :
    S3 2000 x left right = some true := by
  unfold S3
  have e8 : S8 2000 = some true := rfl
  have r1 : ∀ y ∈ left, 0 ≤ y ∧ y ≤ 255 := fun y hy => i1.2 y hy
  have r2 : ∀ y ∈ right, 0 ≤ y ∧ y ≤ 255 := fun y hy => i2.2 y hy
  obtain ⟨b, hb⟩ := v9 x (lic_texts z0)
  simp only [g3_0, g3_1, g3_2, g3_4, g3_5, g3_6, g3_7, g3_9, g3_10, g3_11, g3_13, g3_14, g3_16, g3_17, g3_18, g3_19, g3_22, g3_23, g3_14b, g3_16b, g3_17b, g3_23b, g3_24, g3_26, g3_27, g3, e8, hb, Option.bind_some, Bool.not_true, brB_false]
  cases b with
  | false => simp only [Bool.not_false, brB_true]
  | true =>
  simp only [Bool.not_true, brB_false]
  by_cases h1 : left.length ≤ 60
  case neg =>
    have d1 : decide ((left.length : Int) > 60) = true := decide_eq_true (by omega)
    simp only [d1, brB_true]
  by_cases h2 : right.length ≤ 60
  case neg =>
    have d1 : decide ((left.length : Int) > 60) = false := decide_eq_false (by omega)
    have d2 : decide ((right.length : Int) > 60) = true := decide_eq_true (by omega)
    simp only [d1, d2, brB_true, brB_false]
  have d1 : decide ((left.length : Int) > 60) = false := decide_eq_false (by omega)
  have d2 : decide ((right.length : Int) > 60) = false := decide_eq_false (by omega)
  simp only [d1, d2, brB_false, v10 left (by omega) r1, v10 right (by omega) r2, Option.bind_some]
  have hll : (left.map mk).length ≤ 60 := by simpa using h1
  have hlr : (right.map mk).length ≤ 60 := by simpa using h2
  have hdl := des_map left
  have hdr := des_map right
  generalize left.map mk = l at *
  generalize right.map mk = r at *
  have hv := v36 l r (by omega) (by omega) hdl hdr
  rw [v11 x _ _ l r (by simp) (by simp) (by omega) (by omega) hv]
  simp only [Option.bind_some, v12, v13 r (by omega), v14 l (by unfold BIG; omega)]
  unfold jnts
  by_cases h0 : lic x = 0
  case neg =>
    have e1 : (lic x != 0) = true := by simpa using h0
    simp only [if_pos h0, e1, brB_true, beq_self_eq_true, List.length_nil]
    rfl
  have e0 : ((0 : Int) != 0) = false := rfl
  rw [if_neg (by simpa using h0)]
  simp only [e0, brB_false]
  by_cases hp : endsOf l = 0 ∨ begins r = false
  · have hposs : poss l r = [0] := by unfold poss; rw [if_pos hp]
    have hjl : jl (cf x [105, 108, 108, 101] [101, 115, 116] l) (poss l r) = [(0, 0, ())] := by rw [hposs]; rfl
    rw [hjl]
    cases hbr : begins r with
    | false => simp only [Bool.not_false, brB_true, vsame1, Option.bind_some]
    | true =>
      have he : endsOf l = 0 := by
        rcases hp with h | h
        · exact h
        · rw [hbr] at h; cases h
      have e1 : (endsOf l == (0 : Int)) = true := by simpa using he
      simp only [Bool.not_true, brB_false, e1, brB_true, vsame1, Option.bind_some]
  · have hbr : begins r = true := by
      cases hq : begins r with
      | true => rfl
      | false => exact absurd (.inr hq) hp
    have he : (endsOf l == (0 : Int)) = false := by
      simp only [beq_eq_false_iff_ne, ne_eq]
      intro h; exact hp (.inl h)
    simp only [hbr, Bool.not_true, brB_false, he]
    have hpl : (jl (cf x [105, 108, 108, 101] [101, 115, 116] l) (poss l r)).length ≤ 4 := by
      have h3 := jl_len (cf x [105, 108, 108, 101] [101, 115, 116] l) (poss l r)
      have h4 : (poss l r).length ≤ 4 := by
        unfold poss
        split
        · simp
        · split
          · simp
          · split <;> simp
      omega
    have hasc := jl_asc (cf x [105, 108, 108, 101] [101, 115, 116] l) _ (poss_asc l r)
    have hok : ∀ j ∈ jl (cf x [105, 108, 108, 101] [101, 115, 116] l) (poss l r), j.1 ≠ 0 ∧ (appl l r j.1).2.2.2 = 0 := by
      intro j hj
      have hm := jl_mem _ _ j hj
      refine ⟨?_, appl_ok hm⟩
      intro h
      rw [h] at hm
      unfold poss at hm
      rw [if_neg hp] at hm
      split at hm
      · simp at hm
      · split at hm <;> simp at hm
    generalize jl (cf x [105, 108, 108, 101] [101, 115, 116] l) (poss l r) = js at *
    cases js with
    | nil =>
      unfold l3_24
      simp only [g3_0, g3_1, g3_2, g3_4, g3_5, g3_6, g3_7, g3_9, g3_10, g3_11, g3_13, g3_14, g3_16, g3_17, g3_18, g3_19, g3_22, g3_23, g3_14b, g3_16b, g3_17b, g3_23b, g3_24, g3_26, g3_27, g3]
      rfl
    | cons y ys =>
      have hm : (y :: ys).length ≤ BIG := by unfold BIG; omega
      have rest := lapplied (R := Bool) some (fun _ _ _ _ _ => some true) l r (by omega) (by omega) hv ys [y] 1999 (by simp at hpl; omega) (by simpa using hm) (by simpa using hasc) (fun j hj => hok j (by simp [hj]))
      obtain ⟨h5, h6⟩ := hok y (by simp)
      have e1 : (y.1 == (0 : Int)) = false := by simpa using h5
      have f1 : decide ((0 : Int) < ((y :: ys).length : Int)) = true := decide_eq_true (by simp only [List.length_cons]; omega)
      have f2 : (0 : Int) ≤ 0 ∧ (0 : Int) < ((y :: ys).length : Int) := by simp only [List.length_cons]; omega
      have f3 : (0 : Int).toNat < (y :: ys).length := by simp
      have f4 : (y :: ys).getD (0 : Int).toNat ((0 : Int), ((0 : Int), ())) = y := rfl
      have f5 : decide ((0 : Int) > 0) = false := rfl
      have f6 : IntKind.i64.wrap ((0 : Int) + 1) = 1 := rfl
      unfold l3_24
      simp only [g3_0, g3_1, g3_2, g3_4, g3_5, g3_6, g3_7, g3_9, g3_10, g3_11, g3_13, g3_14, g3_16, g3_17, g3_18, g3_19, g3_22, g3_23, g3_14b, g3_16b, g3_17b, g3_23b, g3_24, g3_26, g3_27, g3, f1, brB_true, if_pos f2, if_pos f3, f4, v16 l r y.1 (by omega) (by omega) hv, Option.bind_some, h6, e0, e1, brB_false, f5, f6]
      exact rest
end Go.Fw.L19
