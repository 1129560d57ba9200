/- JunctionMore: the law of plain values. -/
import Derived.Test.YtggppceiapjadaaFwHm19f
set_option linter.unusedVariables false
set_option linter.unusedSimpArgs false
namespace Go.Fw.L19
open Go Go.Fw
set_option maxRecDepth 100000
set_option linter.unusedSimpArgs false
set_option linter.unusedVariables false
theorem cst_app (k : Int) (w : List UInt8) : ∀ (xs ys : List Rul) (q : Int × Bool), cst k w (xs ++ ys) q = cst k w ys (cst k w xs q)
  | [], _, _ => rfl
  | x :: xs, ys, q => by
    rw [List.cons_append]
    simp only [cst]
    exact cst_app k w xs ys _
theorem cst_less (k : Int) (w : List UInt8) : ∀ (ys : List Rul) (q : Int × Bool), q.2 = true → (cst k w ys q).2 = true ∧ (cst k w ys q).1 ≤ q.1
  | [], q, h => ⟨h, Int.le_refl _⟩
  | y :: ys, q, h => by
    simp only [cst]
    cases ht : takes k w y q with
    | false => exact cst_less k w ys q h
    | true =>
      have h1 : y.2.1 < q.1 := by
        unfold takes at ht
        rw [h] at ht
        simp only [Bool.not_true, Bool.false_or, Bool.and_eq_true, decide_eq_true_eq] at ht
        exact ht.2.2
      obtain ⟨h2, h3⟩ := cst_less k w ys (y.2.1, true) rfl
      simp only [cond_true]
      refine ⟨h2, ?_⟩
      have : (cst k w ys (y.2.1, true)).1 ≤ y.2.1 := h3
      omega
theorem jl_mono (f g : Int → Int × Bool) (h : ∀ k, (f k).2 = true → (g k).2 = true ∧ (g k).1 ≤ (f k).1) : ∀ (ks : List Int) (j : Jnt), j ∈ jl f ks → ∃ i ∈ jl g ks, i.1 = j.1 ∧ i.2.1 ≤ j.2.1
  | [], j, hj => by simp [jl] at hj
  | k :: ks, j, hj => by
    have ih := jl_mono f g h ks
    have more : ∀ i ∈ jl g ks, i ∈ jl g (k :: ks) := by
      intro i hi
      simp only [jl]
      split
      · exact List.mem_cons_of_mem _ hi
      · split
        · exact List.mem_cons_of_mem _ hi
        · exact hi
    have rest : j ∈ jl f ks → ∃ i ∈ jl g (k :: ks), i.1 = j.1 ∧ i.2.1 ≤ j.2.1 := by
      intro hj
      obtain ⟨i, hi, h2⟩ := ih j hj
      exact ⟨i, more i hi, h2⟩
    simp only [jl] at hj
    split at hj
    · rename_i h0
      rcases List.mem_cons.1 hj with rfl | hj
      · refine ⟨(0, 0, ()), ?_, rfl, Int.le_refl _⟩
        simp only [jl]; rw [if_pos h0]; simp
      · exact rest hj
    · rename_i h0
      split at hj
      · rename_i h1
        rcases List.mem_cons.1 hj with rfl | hj
        · obtain ⟨h2, h3⟩ := h k h1
          refine ⟨(k, (g k).1, ()), ?_, rfl, h3⟩
          simp only [jl]; rw [if_neg h0, if_pos h2]; simp
        · exact rest hj
      · exact rest hj
theorem rls_app : ∀ (xs ys : List Rul), rls xs = 0 → rls ys = 0 → rls (xs ++ ys) = 0
  | [], _, _, h => h
  | x :: xs, ys, h1, h2 => by
    rw [List.cons_append]
    simp only [rls] at h1 ⊢
    split at h1
    · rename_i h; exact absurd h1 h
    · rename_i h
      rw [if_neg h]
      exact rls_app xs ys h1 h2
theorem lic_parts {x : Lic} (h : lic x = 0) : isNm x.1 = true ∧ x.2.1.length ≤ 30 ∧ rls x.2.1 = 0 := by
  unfold lic at h
  split at h
  · simp at h
  · rename_i h1
    split at h
    · simp at h
    · exact ⟨by simpa using h1, by omega, h⟩
def mrg (x y : Lic) : Lic × Int := if lic x ≠ 0 then (([], [], ()), lic x) else if lic y ≠ 0 then (([], [], ()), lic y) else if 30 < x.2.1.length + y.2.1.length then (([], [], ()), 3) else ((x.1, x.2.1 ++ y.2.1, ()), 0)
theorem v18 (x y : Lic) : S18 2000 x y = some (mrg x y) := by
  unfold S18
  simp only [g18_0, g18_1, g18_2, g18_3, g18_5, g18_6, g18_7, g18_9, g18_10, g18_12, g18_13, g18, v12, Option.bind_some]
  by_cases h0 : lic x = 0
  case neg =>
    have e1 : (lic x != 0) = true := by simpa using h0
    have hm : mrg x y = (([], [], ()), lic x) := by unfold mrg; rw [if_pos h0]
    rw [hm]
    simp only [e1, brB_true]
  have e1 : (lic x != 0) = false := by simpa using h0
  simp only [e1, brB_false]
  by_cases h1 : lic y = 0
  case neg =>
    have e2 : (lic y != 0) = true := by simpa using h1
    have hm : mrg x y = (([], [], ()), lic y) := by unfold mrg; rw [if_neg (by simpa using h0), if_pos h1]
    rw [hm]
    simp only [e2, brB_true]
  have e2 : (lic y != 0) = false := by simpa using h1
  obtain ⟨_, l1, _⟩ := lic_parts h0
  obtain ⟨_, l2, _⟩ := lic_parts h1
  have w : IntKind.i64.wrap ((x.2.1.length : Int) + (y.2.1.length : Int)) = (x.2.1.length : Int) + (y.2.1.length : Int) := wrap_id (by omega)
  simp only [e2, brB_false, w]
  by_cases h2 : 30 < x.2.1.length + y.2.1.length
  · have d : decide ((x.2.1.length : Int) + (y.2.1.length : Int) > 30) = true := decide_eq_true (by omega)
    have hm : mrg x y = (([], [], ()), 3) := by unfold mrg; rw [if_neg (by simpa using h0), if_neg (by simpa using h1), if_pos h2]
    rw [hm]
    simp only [d, brB_true]
  · have d : decide ((x.2.1.length : Int) + (y.2.1.length : Int) > 30) = false := decide_eq_false (by omega)
    have q1 : ([] : List Rul).length + x.2.1.length ≤ 3518437208883 := by simp; omega
    have q2 : (([] : List Rul) ++ x.2.1).length + y.2.1.length ≤ 3518437208883 := by simp; omega
    have hm : mrg x y = ((x.1, x.2.1 ++ y.2.1, ()), 0) := by unfold mrg; rw [if_neg (by simpa using h0), if_neg (by simpa using h1), if_neg h2]
    rw [hm]
    simp only [d, brB_false, if_pos q1, if_pos q2]
    rfl
theorem lic_mrg {x y : Lic} (h0 : lic x = 0) (h1 : lic y = 0) (h2 : ¬ 30 < x.2.1.length + y.2.1.length) : lic (x.1, x.2.1 ++ y.2.1, ()) = 0 := by
  obtain ⟨n1, l1, r1⟩ := lic_parts h0
  obtain ⟨_, l2, r2⟩ := lic_parts h1
  unfold lic
  rw [if_neg (by simp [n1]), if_neg (by simp only [List.length_append]; omega)]
  exact rls_app _ _ r1 r2
theorem lidxM (f : Jnt × Unit → Option Bool) (p : Jnt → Bool) {R : Type} (k0 : Int → Option R) (k1 : List Jnt → (Jnt × Unit → Option Bool) → Int → Int → Option R) :
    ∀ (ys pre : List Jnt) (m : Nat), ys.length < m → (pre ++ ys).length ≤ BIG → (∀ a b c d, k1 a b c d = k0 (-1)) → (∀ y ∈ ys, f (y, ()) = some (p y)) →
      ∃ j : Int, l46_11 k0 k1 m (pre ++ ys) f ((pre ++ ys).length : Int) (pre.length : Int) = k0 j ∧ decide (0 ≤ j) = ys.any p := by
  intro ys
  induction ys with
  | nil =>
    intro pre m hm hb hk hf
    cases m with
    | zero => simp at hm
    | succ m =>
      refine ⟨-1, ?_, rfl⟩
      unfold l46_11
      simp only [g46_0, g46_1, g46_2, g46_4, g46_5, g46_6, g46_9, g46_10, g46_11, g46_13, g46_14, g46, lt_nil, brB_false, hk]
  | cons y ys ih =>
    intro pre m hm hb hk hf
    cases m with
    | zero => simp at hm
    | succ m =>
      unfold l46_11
      simp only [g46_0, g46_1, g46_2, g46_4, g46_5, g46_6, g46_9, g46_10, g46_11, g46_13, g46_14, g46, lt_cons, in_cons, at_cons, if_true, brB_true, hf y (by simp), Option.bind_some, List.any_cons]
      cases hp : p y with
      | true => exact ⟨(pre.length : Int), by simp only [brB_true], by simp⟩
      | false =>
        obtain ⟨j, h1, h2⟩ := ih (pre ++ [y]) m (by simpa using hm) (by rw [← app_cons]; exact hb) hk (fun z hz => hf z (by simp [hz]))
        refine ⟨j, ?_, by rw [h2]; simp⟩
        simp only [brB_false, wrap_snoc pre ys y hb]
        rw [app_cons pre ys y, h1]
theorem vM19 (f : Jnt × Unit → Option Bool) (p : Jnt → Bool) (l : List Jnt) (hl : l.length < 2000) (hf : ∀ y ∈ l, f (y, ()) = some (p y)) : S19 2000 l f = some (l.any p) := by
  obtain ⟨j, h1, h2⟩ := lidxM f p (R := Int) some (fun _ _ _ _ => some (-1)) l [] 2000 hl (by unfold BIG; simp; omega) (fun _ _ _ _ => rfl) hf
  have hi : S46 2000 l f = some j := by
    unfold S46
    simp only [g46_0, g46_1, g46_2, g46_4, g46_5, g46_6, g46_9, g46_10, g46_11, g46_13, g46_14, g46]
    simpa using h1
  unfold S19
  simp only [g19_0, g19_1, g19_2, g19, hi, Option.bind_some, ge_iff_le, h2]
def leJ (k j : Jnt) : Bool := (k.1 == j.1) && decide (k.2.1 ≤ j.2.1)
theorem vM21 (k j : Jnt) : S21 2000 k j = some (leJ k j) := by
  unfold S21 leJ
  simp only [g21_0, g21_1, g21_2, g21]
  cases (k.1 == j.1) <;> rfl
theorem vN20 (j : Jnt) (b : List Jnt) (hb : b.length < 2000) : S20 2000 j b = some (!(b.any fun k => leJ k j)) := by
  unfold S20
  simp only [g20_0, g20_1, g20_2, g20]
  rw [vM19 _ (fun k => leJ k j) b hb (fun y _ => by simp only [vM21, Option.bind_some, unE]; rfl)]
  rfl
theorem main5 (x y : Lic) (ws : List (List Int)) (i0 : InR (.pair .str (.pair (.sl (.pair (.int .i64) (.pair (.int .i64) (.pair (.sl .str) .unit)))) .unit)) x) (i1 : InR (.pair .str (.pair (.sl (.pair (.int .i64) (.pair (.int .i64) (.pair (.sl .str) .unit)))) .unit)) y) (i2 : InR (.arr 2 (.sl (.int .u8))) ws)
    (z0 : InZ reachBytes (.pair .str (.pair (.sl (.pair (.int .i64) (.pair (.int .i64) (.pair (.sl .str) .unit)))) .unit)) x) (z1 : InZ reachBytes (.pair .str (.pair (.sl (.pair (.int .i64) (.pair (.int .i64) (.pair (.sl .str) .unit)))) .unit)) y) (z2 : InZ reachBytes (.arr 2 (.sl (.int .u8))) ws) :
    S5 2000 x y ws = some true := by
  obtain ⟨hw, hwi⟩ := i2
  obtain ⟨left, right, rfl⟩ : ∃ a b, ws = [a, b] := by
    match ws, hw with
    | [a, b], _ => exact ⟨a, b, rfl⟩
  unfold S5
  have e8 : S8 2000 = some true := rfl
  have r1 : ∀ u ∈ left, 0 ≤ u ∧ u ≤ 255 := fun u hu => (hwi left (by simp)).2 u hu
  have r2 : ∀ u ∈ right, 0 ≤ u ∧ u ≤ 255 := fun u hu => (hwi right (by simp)).2 u hu
  obtain ⟨b, hb⟩ := v9 x (lic_texts z0)
  obtain ⟨c, hc⟩ := v9 y (lic_texts z1)
  have p0 : (0 : Int) ≤ 0 ∧ (0 : Int) < ((2 : Nat) : Int) := by omega
  have p1 : (0 : Int) ≤ 1 ∧ (1 : Int) < ((2 : Nat) : Int) := by omega
  have g0 : getP (.arr 2 (.sl (.int .u8))) [.ix (0 : Int).toNat] [left, right] = some ⟨.sl (.int .u8), left⟩ := rfl
  have g1 : getP (.arr 2 (.sl (.int .u8))) [.ix (1 : Int).toNat] [left, right] = some ⟨.sl (.int .u8), right⟩ := rfl
  have c0 : ∀ l : List Int, cast? (.sl (.int .u8)) ⟨.sl (.int .u8), l⟩ = some l := fun _ => rfl
  simp only [g5_0, g5_1, g5_2, g5_4, g5_5, g5_6, g5_7, g5_9, g5_10, g5_11, g5_12, g5_14, g5_15, g5, e8, hb, hc, Option.bind_some, Bool.not_true, brB_false]
  cases b with
  | false => simp only [Bool.not_false, brB_true]
  | true =>
  simp only [Bool.not_true, brB_false]
  cases c with
  | false => simp only [Bool.not_false, brB_true]
  | true =>
  simp only [Bool.not_true, brB_false, if_pos p0, if_pos p1, g0, g1, c0, Option.bind_some]
  by_cases h1 : left.length ≤ 60
  case neg =>
    have d1 : decide ((left.length : Int) > 60) = true := decide_eq_true (by omega)
    simp only [d1, brB_true]
  by_cases h2 : right.length ≤ 60
  case neg =>
    have d1 : decide ((left.length : Int) > 60) = false := decide_eq_false (by omega)
    have d2 : decide ((right.length : Int) > 60) = true := decide_eq_true (by omega)
    simp only [d1, d2, brB_true, brB_false]
  have d1 : decide ((left.length : Int) > 60) = false := decide_eq_false (by omega)
  have d2 : decide ((right.length : Int) > 60) = false := decide_eq_false (by omega)
  simp only [d1, d2, brB_false, v10 left (by omega) r1, v10 right (by omega) r2, Option.bind_some, v18]
  have hll : (left.map mk).length ≤ 60 := by simpa using h1
  have hlr : (right.map mk).length ≤ 60 := by simpa using h2
  have hdl := des_map left
  have hdr := des_map right
  generalize left.map mk = l at *
  generalize right.map mk = r at *
  have hv := v36 l r (by omega) (by omega) hdl hdr
  unfold mrg
  by_cases h3 : lic x = 0
  case neg =>
    have e1 : (lic x != 0) = true := by simpa using h3
    rw [if_pos h3]
    simp only [e1, brB_true]
  rw [if_neg (by simpa using h3)]
  by_cases h4 : lic y = 0
  case neg =>
    have e1 : (lic y != 0) = true := by simpa using h4
    rw [if_pos h4]
    simp only [e1, brB_true]
  rw [if_neg (by simpa using h4)]
  by_cases h5 : 30 < x.2.1.length + y.2.1.length
  · have e1 : ((3 : Int) != 0) = true := rfl
    rw [if_pos h5]
    simp only [e1, brB_true]
  have e0 : ((0 : Int) != 0) = false := rfl
  rw [if_neg h5]
  simp only [e0, brB_false]
  have h6 := lic_mrg h3 h4 h5
  rw [v11 x _ _ l r (by simp) (by simp) (by omega) (by omega) hv]
  simp only [Option.bind_some]
  rw [v11 (x.1, x.2.1 ++ y.2.1, ()) _ _ l r (by simp) (by simp) (by omega) (by omega) hv]
  simp only [Option.bind_some]
  unfold jnts
  rw [if_neg (by simpa using h3), if_neg (by simpa using h6)]
  simp only [e0, brB_false]
  have hpl : ∀ f : Int → Int × Bool, (jl f (poss l r)).length < 2000 := by
    intro f
    exact Nat.lt_of_le_of_lt (jl_len f (poss l r)) (poss_len l r)
  rw [vM19 _ (fun j => !((jl (cf (x.1, x.2.1 ++ y.2.1, ()) [105, 108, 108, 101] [101, 115, 116] l) (poss l r)).any fun k => leJ k j)) (jl (cf x [105, 108, 108, 101] [101, 115, 116] l) (poss l r)) (hpl _) (fun j _ => by
    simp only [vN20 j _ (hpl _), Option.bind_some, unE]; rfl)]
  simp only [Option.bind_some]
  have hall : (jl (cf x [105, 108, 108, 101] [101, 115, 116] l) (poss l r)).any (fun j => !((jl (cf (x.1, x.2.1 ++ y.2.1, ()) [105, 108, 108, 101] [101, 115, 116] l) (poss l r)).any fun k => leJ k j)) = false := by
    rw [List.any_eq_false]
    intro j hj
    obtain ⟨i, hi, q1, q2⟩ := jl_mono (cf x [105, 108, 108, 101] [101, 115, 116] l) (cf (x.1, x.2.1 ++ y.2.1, ()) [105, 108, 108, 101] [101, 115, 116] l) (fun k hk => by
      unfold cf at hk ⊢
      rw [cst_app]
      exact cst_less _ _ _ _ hk) (poss l r) j hj
    have : ((jl (cf (x.1, x.2.1 ++ y.2.1, ()) [105, 108, 108, 101] [101, 115, 116] l) (poss l r)).any fun k => leJ k j) = true := by
      rw [List.any_eq_true]
      exact ⟨i, hi, by unfold leJ; simp [q1, q2]⟩
    rw [this]; simp
  rw [hall]
  rfl
end Go.Fw.L19
