/- JunctionCheapest: the law of plain values. -/
import Derived.Test.YtggppceiapjadaaGreatFwHc19f
set_option linter.unusedVariables false
set_option linter.unusedSimpArgs false
namespace Go.Fw.L19
open Go Go.Fw
set_option maxRecDepth 100000
set_option linter.unusedSimpArgs false
set_option linter.unusedVariables false
def inC (c : Int) : Prop := 0 ≤ c ∧ c ≤ 999
theorem rls_cost : ∀ (rs : List Rul), rls rs = 0 → ∀ r ∈ rs, inC r.2.1
  | [], _, r, hr => by simp at hr
  | y :: rs, h, r, hr => by
    simp only [rls] at h
    split at h
    · rename_i h1; exact absurd h h1
    · rename_i h1
      rcases List.mem_cons.1 hr with rfl | hr
      · have h1 : rul r = 0 := by simpa using h1
        unfold rul at h1
        split at h1
        · simp at h1
        · unfold inC; omega
      · exact rls_cost rs h r hr
theorem lic_cost {x : Lic} (h : lic x = 0) : ∀ r ∈ x.2.1, inC r.2.1 := by
  unfold lic at h
  split at h
  · simp at h
  · split at h
    · simp at h
    · exact rls_cost _ h
theorem cst_cost (k : Int) (w : List UInt8) : ∀ (rs : List Rul) (q : Int × Bool), (∀ r ∈ rs, inC r.2.1) → inC q.1 → inC (cst k w rs q).1
  | [], q, _, hq => hq
  | r :: rs, q, h, hq => by
    simp only [cst]
    refine cst_cost k w rs _ (fun r' h' => h r' (by simp [h'])) ?_
    cases takes k w r q with
    | true => exact h r (by simp)
    | false => exact hq
theorem jl_cost (f : Int → Int × Bool) (hf : ∀ k, inC (f k).1) : ∀ (ks : List Int) (j : Jnt), j ∈ jl f ks → inC j.2.1
  | [], j, h => by simp [jl] at h
  | k :: ks, j, h => by
    simp only [jl] at h
    split at h
    · rcases List.mem_cons.1 h with rfl | h
      · unfold inC; simp
      · exact jl_cost f hf ks j h
    · split at h
      · rcases List.mem_cons.1 h with rfl | h
        · exact hf k
        · exact jl_cost f hf ks j h
      · exact jl_cost f hf ks j h
def lst : List Jnt → Jnt → Jnt
  | [], x => x
  | y :: ys, x => lst ys (cond (decide (y.2.1 < x.2.1)) y x)
theorem lst_mem : ∀ (ys : List Jnt) (x : Jnt), lst ys x = x ∨ lst ys x ∈ ys
  | [], x => .inl rfl
  | y :: ys, x => by
    simp only [lst]
    cases decide (y.2.1 < x.2.1) with
    | true => rcases lst_mem ys y with h | h
              · right; simp only [cond_true, h]; simp
              · right; simp only [cond_true]; exact List.mem_cons_of_mem _ h
    | false => rcases lst_mem ys x with h | h
               · left; simp only [cond_false, h]
               · right; simp only [cond_false]; exact List.mem_cons_of_mem _ h
theorem lst_le : ∀ (ys : List Jnt) (x : Jnt), (lst ys x).2.1 ≤ x.2.1 ∧ ∀ y ∈ ys, (lst ys x).2.1 ≤ y.2.1
  | [], x => ⟨Int.le_refl _, fun y h => by simp at h⟩
  | y :: ys, x => by
    simp only [lst]
    by_cases hd : y.2.1 < x.2.1
    · obtain ⟨h1, h2⟩ := lst_le ys y
      simp only [hd, decide_true, cond_true]
      refine ⟨by omega, fun z hz => ?_⟩
      rcases List.mem_cons.1 hz with rfl | hz
      · exact h1
      · exact h2 z hz
    · obtain ⟨h1, h2⟩ := lst_le ys x
      simp only [hd, decide_false, cond_false]
      refine ⟨h1, fun z hz => ?_⟩
      rcases List.mem_cons.1 hz with rfl | hz
      · omega
      · exact h2 z hz
theorem lmin (f : Jnt × (Jnt × Unit) → Option Int) (hf : ∀ a b : Jnt, inC a.2.1 → inC b.2.1 → f (a, b, ()) = some (a.2.1 - b.2.1)) {R : Type} (k0 : List Jnt → (Jnt × (Jnt × Unit) → Option Int) → Jnt → Jnt → Int → Option R) (d : Jnt) :
    ∀ (ys pre : List Jnt) (m : Nat) (x : Jnt), ys.length < m → (pre ++ ys).length ≤ BIG → inC x.2.1 → (∀ y ∈ ys, inC y.2.1) →
      l44_14 k0 m (pre ++ ys) f d x (pre.length : Int) = k0 (pre ++ ys) f d (lst ys x) ((pre ++ ys).length : Int) := by
  intro ys
  induction ys with
  | nil =>
    intro pre m x hm hb hx hy
    cases m with
    | zero => simp at hm
    | succ m =>
      unfold l44_14
      simp only [g44_0, g44_1, g44_2, g44_4, g44_5, g44_6, g44_8, g44_9, g44_11, g44_12, g44_13, g44_14, g44_16, g44_17, g44, lt_nil, brB_false, lst]
      simp
  | cons y ys ih =>
    intro pre m x hm hb hx hy
    cases m with
    | zero => simp at hm
    | succ m =>
      have step : ∀ x', inC x'.2.1 → l44_14 k0 m (pre ++ y :: ys) f d x' ((pre ++ [y]).length : Int) = k0 (pre ++ y :: ys) f d (lst ys x') ((pre ++ y :: ys).length : Int) := by
        intro x' hx'
        rw [app_cons pre ys y]
        exact ih (pre ++ [y]) m x' (by simpa using hm) (by rw [← app_cons]; exact hb) hx' (fun z hz => hy z (by simp [hz]))
      have hyy := hy y (by simp)
      unfold l44_14
      simp only [g44_0, g44_1, g44_2, g44_4, g44_5, g44_6, g44_8, g44_9, g44_11, g44_12, g44_13, g44_14, g44_16, g44_17, g44, lt_cons, in_cons, at_cons, if_true, brB_true, hf y x hyy hx, Option.bind_some, wrap_snoc pre ys y hb, lst]
      by_cases hd : y.2.1 < x.2.1
      · have e : decide (y.2.1 - x.2.1 < 0) = true := decide_eq_true (by omega)
        simp only [hd, e, decide_true, brB_true, cond_true]
        exact step y hyy
      · have e : decide (y.2.1 - x.2.1 < 0) = false := decide_eq_false (by omega)
        simp only [hd, e, decide_false, brB_false, cond_false]
        exact step x hx
theorem v45 (a b : Jnt) (ha : inC a.2.1) (hb : inC b.2.1) : S45 2000 a b = some (a.2.1 - b.2.1) := by
  unfold S45
  unfold inC at ha hb
  have w : IntKind.i64.wrap (a.2.1 - b.2.1) = a.2.1 - b.2.1 := wrap_id (by omega)
  simp only [g45_0, g45_1, g45_2, g45, w]
theorem v44 (f : Jnt × (Jnt × Unit) → Option Int) (hf : ∀ a b : Jnt, inC a.2.1 → inC b.2.1 → f (a, b, ()) = some (a.2.1 - b.2.1)) (y : Jnt) (ys : List Jnt) (hl : ys.length < 1000) (hc : ∀ z ∈ y :: ys, inC z.2.1) : S44 2000 (y :: ys) f = some (lst ys y) := by
  unfold S44
  have := lmin f hf (R := Jnt) (fun _ _ _ x _ => some x) (0, 0, ()) ys [y] 2000 y (by omega) (by unfold BIG; simp; omega) (hc y (by simp)) (fun z hz => hc z (by simp [hz]))
  have d1 : decide (((y :: ys).length : Int) < 1) = false := decide_eq_false (by simp only [List.length_cons]; omega)
  have d2 : (0 : Int) ≤ 0 ∧ (0 : Int) < ((y :: ys).length : Int) := by simp only [List.length_cons]; omega
  have d3 : (y :: ys).getD (0 : Int).toNat ((0 : Int), ((0 : Int), ())) = y := rfl
  simp only [g44_0, g44_1, g44_2, g44_4, g44_5, g44_6, g44_8, g44_9, g44_11, g44_12, g44_13, g44_14, g44_16, g44_17, g44, d1, brB_false, if_pos d2, d3]
  exact this
theorem lindexJ {R : Type} (k0 : Int → Option R) (k1 : List Jnt → Jnt → Int → Int → Option R) (v : Jnt) :
    ∀ (ys pre : List Jnt) (m : Nat), ys.length < m → (pre ++ ys).length ≤ BIG → v ∈ ys →
      ∃ j : Int, l47_11 k0 k1 m (pre ++ ys) v ((pre ++ ys).length : Int) (pre.length : Int) = k0 j ∧ 0 ≤ j := by
  intro ys
  induction ys with
  | nil => intro pre m hm hb hv; simp at hv
  | cons y ys ih =>
    intro pre m hm hb hv
    cases m with
    | zero => simp at hm
    | succ m =>
      unfold l47_11
      simp only [g47_0, g47_1, g47_2, g47_4, g47_5, g47_6, g47_9, g47_10, g47_11, g47_13, g47_14, g47, lt_cons, in_cons, at_cons, if_true, brB_true]
      cases hq : ((v.1 == y.1) && ((v.2.1 == y.2.1) && true)) with
      | true => exact ⟨(pre.length : Int), by simp only [brB_true], by omega⟩
      | false =>
        have hv' : v ∈ ys := by
          rcases List.mem_cons.1 hv with rfl | h
          · simp at hq
          · exact h
        obtain ⟨j, h1, h2⟩ := ih (pre ++ [y]) m (by simpa using hm) (by rw [← app_cons]; exact hb) hv'
        refine ⟨j, ?_, h2⟩
        simp only [brB_false, wrap_snoc pre ys y hb]
        rw [app_cons pre ys y, h1]
theorem v22 (l : List Jnt) (v : Jnt) (hl : l.length < 2000) (hv : v ∈ l) : S22 2000 l v = some true := by
  obtain ⟨j, h1, h2⟩ := lindexJ (R := Int) some (fun _ _ _ _ => some (-1)) v l [] 2000 hl (by unfold BIG; simp; omega) hv
  have hi : S47 2000 l v = some j := by
    unfold S47
    simp only [g47_0, g47_1, g47_2, g47_4, g47_5, g47_6, g47_9, g47_10, g47_11, g47_13, g47_14, g47]
    simpa using h1
  unfold S22
  simp only [g22_0, g22_1, g22_2, g22, hi, Option.bind_some, ge_iff_le, h2, decide_true]
theorem lidxJ (f : Jnt × Unit → Option Bool) {R : Type} (k0 : Int → Option R) (k1 : List Jnt → (Jnt × Unit → Option Bool) → Int → Int → Option R) :
    ∀ (ys pre : List Jnt) (m : Nat), ys.length < m → (pre ++ ys).length ≤ BIG → (∀ a b c d, k1 a b c d = k0 (-1)) → (∀ y ∈ ys, f (y, ()) = some false) →
      l48_11 k0 k1 m (pre ++ ys) f ((pre ++ ys).length : Int) (pre.length : Int) = k0 (-1) := by
  intro ys
  induction ys with
  | nil =>
    intro pre m hm hb hk hf
    cases m with
    | zero => simp at hm
    | succ m =>
      unfold l48_11
      simp only [g48_0, g48_1, g48_2, g48_4, g48_5, g48_6, g48_9, g48_10, g48_11, g48_13, g48_14, g48, lt_nil, brB_false, hk]
  | cons y ys ih =>
    intro pre m hm hb hk hf
    cases m with
    | zero => simp at hm
    | succ m =>
      unfold l48_11
      simp only [g48_0, g48_1, g48_2, g48_4, g48_5, g48_6, g48_9, g48_10, g48_11, g48_13, g48_14, g48, lt_cons, in_cons, at_cons, if_true, brB_true, hf y (by simp), Option.bind_some, brB_false, wrap_snoc pre ys y hb]
      rw [app_cons pre ys y, ih (pre ++ [y]) m (by simpa using hm) (by rw [← app_cons]; exact hb) hk (fun z hz => hf z (by simp [hz]))]
theorem v23 (f : Jnt × Unit → Option Bool) (l : List Jnt) (hl : l.length < 2000) (hf : ∀ y ∈ l, f (y, ()) = some false) : S23 2000 l f = some false := by
  have hi : S48 2000 l f = some (-1) := by
    unfold S48
    have := lidxJ f (R := Int) some (fun _ _ _ _ => some (-1)) l [] 2000 hl (by unfold BIG; simp; omega) (fun _ _ _ _ => rfl) hf
    simp only [g48_0, g48_1, g48_2, g48_4, g48_5, g48_6, g48_9, g48_10, g48_11, g48_13, g48_14, g48]
    simpa using this
  unfold S23
  simp only [g23_0, g23_1, g23_2, g23, hi, Option.bind_some]
  rfl
theorem v24 (a b : Jnt) : S24 2000 a b = some (decide (a.2.1 < b.2.1)) := by
  unfold S24
  simp only [g24_0, g24_1, g24_2, g24]
def chp (js : List Jnt) (e : Int) : Jnt × Int := if e ≠ 0 then ((0, 0, ()), e) else match js with | [] => ((0, 0, ()), 10) | y :: ys => (lst ys y, 0)
theorem v18 (x : Lic) (left right : List UInt8) (l r : List Snd) (hl : left.length < 2000) (hrr : right.length < 2000) (h1 : l.length ≤ 200) (h2 : r.length ≤ 200) (hv : S33 2000 l r = some 0) :
    S18 2000 x left right l r = some (chp (jnts x left right l r).1 (jnts x left right l r).2) := by
  unfold S18
  simp only [g18_0, g18_1, g18_2, g18_3, g18_5, g18_6, g18_8, g18_9, g18, v16 x left right l r hl hrr h1 h2 hv, Option.bind_some]
  unfold jnts
  by_cases h0 : lic x = 0
  · have e1 : ((0 : Int) != 0) = false := rfl
    rw [if_neg (by simpa using h0)]
    simp only [e1, brB_false]
    have hlen : (jl (cf x left right l) (poss l r)).length ≤ (poss l r).length := jl_len _ _
    have hpl := poss_len l r
    have hp4 : (poss l r).length ≤ 4 := by
      unfold poss
      split
      · simp
      · split
        · simp
        · split <;> simp
    have hcost := jl_cost (cf x left right l) (fun k => by unfold cf; exact cst_cost _ _ _ _ (lic_cost h0) (by unfold inC; simp)) (poss l r)
    generalize jl (cf x left right l) (poss l r) = js at *
    cases js with
    | nil =>
      have e2 : ((([] : List Jnt).length : Int) == 0) = true := rfl
      simp only [e2, brB_true]
      rfl
    | cons y ys =>
      have e2 : (((y :: ys).length : Int) == 0) = false := by simp; omega
      simp only [e2, brB_false]
      rw [v44 _ (fun a b ha hb => by simp only [v45 a b ha hb, Option.bind_some, unE]; rfl) y ys (by simp at hlen; omega) hcost]
      rfl
  · have e1 : (lic x != 0) = true := by simpa using h0
    rw [if_pos h0]
    simp only [e1, brB_true]
    unfold chp
    rw [if_pos h0]
theorem main5 (x : Lic) (left right : List Int) (i0 : InR (.pair .str (.pair (.sl (.pair (.int .i64) (.pair (.int .i64) (.pair (.sl .str) .unit)))) .unit)) x) (i1 : InR (.sl (.int .u8)) left) (i2 : InR (.sl (.int .u8)) right)
    (z0 : InZ reachBytes (.pair .str (.pair (.sl (.pair (.int .i64) (.pair (.int .i64) (.pair (.sl .str) .unit)))) .unit)) x) (z1 : InZ reachBytes (.sl (.int .u8)) left) (z2 : InZ reachBytes (.sl (.int .u8)) right) :
    S5 2000 x left right = some true := by
  unfold S5
  have e8 : S6 2000 = some true := rfl
  have r1 : ∀ y ∈ left, 0 ≤ y ∧ y ≤ 255 := fun y hy => i1.2 y hy
  have r2 : ∀ y ∈ right, 0 ≤ y ∧ y ≤ 255 := fun y hy => i2.2 y hy
  obtain ⟨b, hb⟩ := v14 x (lic_texts z0)
  simp only [g5_0, g5_1, g5_2, g5_4, g5_5, g5_6, g5_7, g5_8, g5_10, g5_11, g5, e8, hb, Option.bind_some, Bool.not_true, brB_false]
  cases b with
  | false => simp only [Bool.not_false, brB_true]
  | true =>
  simp only [Bool.not_true, brB_false]
  by_cases h1 : left.length ≤ 60
  case neg =>
    have d1 : decide ((left.length : Int) > 60) = true := decide_eq_true (by omega)
    simp only [d1, brB_true]
  by_cases h2 : right.length ≤ 60
  case neg =>
    have d1 : decide ((left.length : Int) > 60) = false := decide_eq_false (by omega)
    have d2 : decide ((right.length : Int) > 60) = true := decide_eq_true (by omega)
    simp only [d1, d2, brB_true, brB_false]
  have d1 : decide ((left.length : Int) > 60) = false := decide_eq_false (by omega)
  have d2 : decide ((right.length : Int) > 60) = false := decide_eq_false (by omega)
  simp only [d1, d2, brB_false, v21 left (by omega) r1, v21 right (by omega) r2, Option.bind_some]
  have hll : (left.map mk).length ≤ 60 := by simpa using h1
  have hlr : (right.map mk).length ≤ 60 := by simpa using h2
  have hdl := des_map left
  have hdr := des_map right
  generalize left.map mk = l at *
  generalize right.map mk = r at *
  have hv := v33 l r (by omega) (by omega) hdl hdr
  rw [v16 x _ _ l r (by simp) (by simp) (by omega) (by omega) hv]
  simp only [Option.bind_some]
  rw [v18 x _ _ l r (by simp) (by simp) (by omega) (by omega) hv]
  simp only [Option.bind_some]
  have e0 : ((0 : Int) != 0) = false := rfl
  have e00 : ((0 : Int) == 0) = true := rfl
  have e10 : ((10 : Int) == 10) = true := rfl
  unfold jnts
  by_cases h0 : lic x = 0
  case neg =>
    have e1 : (lic x != 0) = true := by simpa using h0
    rw [if_pos h0]
    simp only [e1, brB_true]
    unfold chp
    rw [if_pos h0]
    simp only [beq_self_eq_true, brB_true]
  rw [if_neg (by simpa using h0)]
  simp only [e0, brB_false]
  have hlen : (jl (cf x [105, 108, 108, 101] [101, 115, 116] l) (poss l r)).length ≤ (poss l r).length := jl_len _ _
  have hp4 : (poss l r).length ≤ 4 := by
    unfold poss
    split
    · simp
    · split
      · simp
      · split <;> simp
  generalize jl (cf x [105, 108, 108, 101] [101, 115, 116] l) (poss l r) = js at *
  cases js with
  | nil =>
    have e2 : ((([] : List Jnt).length : Int) == 0) = true := rfl
    simp only [e2, brB_true, chp]
    rfl
  | cons y ys =>
    have e2 : (((y :: ys).length : Int) == 0) = false := by simp; omega
    have hm : lst ys y ∈ y :: ys := by
      rcases lst_mem ys y with h | h
      · rw [h]; simp
      · exact List.mem_cons_of_mem _ h
    have hle : ∀ z ∈ y :: ys, (lst ys y).2.1 ≤ z.2.1 := by
      intro z hz
      obtain ⟨q1, q2⟩ := lst_le ys y
      rcases List.mem_cons.1 hz with rfl | hz
      · exact q1
      · exact q2 z hz
    have ec : chp (y :: ys) 0 = (lst ys y, 0) := rfl
    simp only [e2, brB_false, ec, e00, brB_true]
    rw [v22 _ _ (by omega) hm]
    simp only [Option.bind_some, brB_true]
    rw [v23 _ (y :: ys) (by omega) (fun z hz => by
      have := hle z hz
      have d : decide (z.2.1 < (lst ys y).2.1) = false := decide_eq_false (by omega)
      simp only [v24, d, Option.bind_some, unE]; rfl)]
    rfl
end Go.Fw.L19
