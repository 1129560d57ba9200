/- JunctionCheapest: the law of plain values. -/
import Derived.Test.YtggppceiapjadaaGreatFwHj19f
set_option linter.unusedVariables false
set_option linter.unusedSimpArgs false
namespace Go.Fw.L19
open Go Go.Fw
set_option maxRecDepth 100000
set_option linter.unusedSimpArgs false
set_option linter.unusedVariables false
def inC (c : Int) : Prop := 0 ≤ c ∧ c ≤ 999
theorem rls_cost : ∀ (rs : List Rul), rls rs = 0 → ∀ r ∈ rs, inC r.2.1
  | [], _, r, hr => by simp at hr
  | y :: rs, h, r, hr => by
    simp only [rls] at h
    split at h
    · rename_i h1; exact absurd h h1
    · rename_i h1
      rcases List.mem_cons.1 hr with rfl | hr
      · have h1 : rul r = 0 := by simpa using h1
        unfold rul at h1
        split at h1
        · simp at h1
        · unfold inC; omega
      · exact rls_cost rs h r hr
theorem lic_cost {x : Lic} (h : lic x = 0) : ∀ r ∈ x.2.1, inC r.2.1 := by
  unfold lic at h
  split at h
  · simp at h
  · split at h
    · simp at h
    · exact rls_cost _ h
theorem cst_cost (k : Int) (w : List UInt8) : ∀ (rs : List Rul) (q : Int × Bool), (∀ r ∈ rs, inC r.2.1) → inC q.1 → inC (cst k w rs q).1
  | [], q, _, hq => hq
  | r :: rs, q, h, hq => by
    simp only [cst]
    refine cst_cost k w rs _ (fun r' h' => h r' (by simp [h'])) ?_
    cases takes k w r q with
    | true => exact h r (by simp)
    | false => exact hq
theorem jl_cost (f : Int → Int × Bool) (hf : ∀ k, inC (f k).1) : ∀ (ks : List Int) (j : Jnt), j ∈ jl f ks → inC j.2.1
  | [], j, h => by simp [jl] at h
  | k :: ks, j, h => by
    simp only [jl] at h
    split at h
    · rcases List.mem_cons.1 h with rfl | h
      · unfold inC; simp
      · exact jl_cost f hf ks j h
    · split at h
      · rcases List.mem_cons.1 h with rfl | h
        · exact hf k
        · exact jl_cost f hf ks j h
      · exact jl_cost f hf ks j h
def lst : List Jnt → Jnt → Jnt
  | [], x => x
  | y :: ys, x => lst ys (cond (decide (y.2.1 < x.2.1)) y x)
theorem lst_mem : ∀ (ys : List Jnt) (x : Jnt), lst ys x = x ∨ lst ys x ∈ ys
  | [], x => .inl rfl
  | y :: ys, x => by
    simp only [lst]
    cases decide (y.2.1 < x.2.1) with
    | true => rcases lst_mem ys y with h | h
              · right; simp only [cond_true, h]; simp
              · right; simp only [cond_true]; exact List.mem_cons_of_mem _ h
    | false => rcases lst_mem ys x with h | h
               · left; simp only [cond_false, h]
               · right; simp only [cond_false]; exact List.mem_cons_of_mem _ h
theorem lst_le : ∀ (ys : List Jnt) (x : Jnt), (lst ys x).2.1 ≤ x.2.1 ∧ ∀ y ∈ ys, (lst ys x).2.1 ≤ y.2.1
  | [], x => ⟨Int.le_refl _, fun y h => by simp at h⟩
  | y :: ys, x => by
    simp only [lst]
    by_cases hd : y.2.1 < x.2.1
    · obtain ⟨h1, h2⟩ := lst_le ys y
      simp only [hd, decide_true, cond_true]
      refine ⟨by omega, fun z hz => ?_⟩
      rcases List.mem_cons.1 hz with rfl | hz
      · exact h1
      · exact h2 z hz
    · obtain ⟨h1, h2⟩ := lst_le ys x
      simp only [hd, decide_false, cond_false]
      refine ⟨h1, fun z hz => ?_⟩
      rcases List.mem_cons.1 hz with rfl | hz
      · omega
      · exact h2 z hz
theorem lmin (f : Jnt × (Jnt × Unit) → Option Int) (hf : ∀ a b : Jnt, inC a.2.1 → inC b.2.1 → f (a, b, ()) = some (a.2.1 - b.2.1)) {R : Type} (k0 : List Jnt → (Jnt × (Jnt × Unit) → Option Int) → Jnt → Jnt → Int → Option R) (d : Jnt) :
    ∀ (ys pre : List Jnt) (m : Nat) (x : Jnt), ys.length < m → (pre ++ ys).length ≤ BIG → inC x.2.1 → (∀ y ∈ ys, inC y.2.1) →
      l44_14 k0 m (pre ++ ys) f d x (pre.length : Int) = k0 (pre ++ ys) f d (lst ys x) ((pre ++ ys).length : Int) := by
  intro ys
  induction ys with
  | nil =>
    intro pre m x hm hb hx hy
    cases m with
    | zero => simp at hm
    | succ m =>
      unfold l44_14
      simp only [g44_0, g44_1, g44_2, g44_4, g44_5, g44_6, g44_8, g44_9, g44_11, g44_12, g44_13, g44_14, g44_16, g44_17, g44, lt_nil, brB_false, lst]
      simp
  | cons y ys ih =>
    intro pre m x hm hb hx hy
    cases m with
    | zero => simp at hm
    | succ m =>
      have step : ∀ x', inC x'.2.1 → l44_14 k0 m (pre ++ y :: ys) f d x' ((pre ++ [y]).length : Int) = k0 (pre ++ y :: ys) f d (lst ys x') ((pre ++ y :: ys).length : Int) := by
        intro x' hx'
        rw [app_cons pre ys y]
        exact ih (pre ++ [y]) m x' (by simpa using hm) (by rw [← app_cons]; exact hb) hx' (fun z hz => hy z (by simp [hz]))
      have hyy := hy y (by simp)
      unfold l44_14
      simp only [g44_0, g44_1, g44_2, g44_4, g44_5, g44_6, g44_8, g44_9, g44_11, g44_12, g44_13, g44_14, g44_16, g44_17, g44, lt_cons, in_cons, at_cons, if_true, brB_true, hf y x hyy hx, Option.bind_some, wrap_snoc pre ys y hb, lst]
      by_cases hd : y.2.1 < x.2.1
      · have e : decide (y.2.1 - x.2.1 < 0) = true := decide_eq_true (by omega)
        simp only [hd, e, decide_true, brB_true, cond_true]
        exact step y hyy
      · have e : decide (y.2.1 - x.2.1 < 0) = false := decide_eq_false (by omega)
        simp only [hd, e, decide_false, brB_false, cond_false]
        exact step x hx
theorem v45 (a b : Jnt) (ha : inC a.2.1) (hb : inC b.2.1) : S45 2000 a b = some (a.2.1 - b.2.1) := by
  unfold S45
  unfold inC at ha hb
  have w : IntKind.i64.wrap (a.2.1 - b.2.1) = a.2.1 - b.2.1 := wrap_id (by omega)
  simp only [g45_0, g45_1, g45_2, g45, w]
theorem v44 (f : Jnt × (Jnt × Unit) → Option Int) (hf : ∀ a b : Jnt, inC a.2.1 → inC b.2.1 → f (a, b, ()) = some (a.2.1 - b.2.1)) (y : Jnt) (ys : List Jnt) (hl : ys.length < 1000) (hc : ∀ z ∈ y :: ys, inC z.2.1) : S44 2000 (y :: ys) f = some (lst ys y) := by
  unfold S44
  have := lmin f hf (R := Jnt) (fun _ _ _ x _ => some x) (0, 0, ()) ys [y] 2000 y (by omega) (by unfold BIG; simp; omega) (hc y (by simp)) (fun z hz => hc z (by simp [hz]))
  have d1 : decide (((y :: ys).length : Int) < 1) = false := decide_eq_false (by simp only [List.length_cons]; omega)
  have d2 : (0 : Int) ≤ 0 ∧ (0 : Int) < ((y :: ys).length : Int) := by simp only [List.length_cons]; omega
  have d3 : (y :: ys).getD (0 : Int).toNat ((0 : Int), ((0 : Int), ())) = y := rfl
  simp only [g44_0, g44_1, g44_2, g44_4, g44_5, g44_6, g44_8, g44_9, g44_11, g44_12, g44_13, g44_14, g44_16, g44_17, g44, d1, brB_false, if_pos d2, d3]
  exact this
def chp (js : List Jnt) (e : Int) : Jnt × Int := if e ≠ 0 then ((0, 0, ()), e) else match js with | [] => ((0, 0, ()), 10) | y :: ys => (lst ys y, 0)
theorem v18 (x : Lic) (left right : List UInt8) (l r : List Snd) (hl : left.length < 2000) (hrr : right.length < 2000) (h1 : l.length ≤ 200) (h2 : r.length ≤ 200) (hv : S33 2000 l r = some 0) :
    S18 2000 x left right l r = some (chp (jnts x left right l r).1 (jnts x left right l r).2) := by
  unfold S18
  simp only [g18_0, g18_1, g18_2, g18_3, g18_5, g18_6, g18_8, g18_9, g18, v16 x left right l r hl hrr h1 h2 hv, Option.bind_some]
  unfold jnts
  by_cases h0 : lic x = 0
  · have e1 : ((0 : Int) != 0) = false := rfl
    rw [if_neg (by simpa using h0)]
    simp only [e1, brB_false]
    have hlen : (jl (cf x left right l) (poss l r)).length ≤ (poss l r).length := jl_len _ _
    have hpl := poss_len l r
    have hp4 : (poss l r).length ≤ 4 := by
      unfold poss
      split
      · simp
      · split
        · simp
        · split <;> simp
    have hcost := jl_cost (cf x left right l) (fun k => by unfold cf; exact cst_cost _ _ _ _ (lic_cost h0) (by unfold inC; simp)) (poss l r)
    generalize jl (cf x left right l) (poss l r) = js at *
    cases js with
    | nil =>
      have e2 : ((([] : List Jnt).length : Int) == 0) = true := rfl
      simp only [e2, brB_true]
      rfl
    | cons y ys =>
      have e2 : (((y :: ys).length : Int) == 0) = false := by simp; omega
      simp only [e2, brB_false]
      rw [v44 _ (fun a b ha hb => by simp only [v45 a b ha hb, Option.bind_some, unE]; rfl) y ys (by simp at hlen; omega) hcost]
      rfl
  · have e1 : (lic x != 0) = true := by simpa using h0
    rw [if_pos h0]
    simp only [e1, brB_true]
    unfold chp
    rw [if_pos h0]
end Go.Fw.L19
