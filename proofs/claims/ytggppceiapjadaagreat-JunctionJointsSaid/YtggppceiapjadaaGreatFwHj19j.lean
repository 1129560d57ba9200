/- JunctionJoints: the law of plain values. -/
import Derived.Test.YtggppceiapjadaaGreatFwHj19ch
import Derived.Test.YtggppceiapjadaaGreatFwHj19e
import Derived.Test.YtggppceiapjadaaGreatFwHj19g
set_option linter.unusedVariables false
set_option linter.unusedSimpArgs false
namespace Go.Fw.L19
open Go Go.Fw
set_option maxRecDepth 100000
set_option linter.unusedSimpArgs false
set_option linter.unusedVariables false
theorem v40 (l r : List Snd) (hl : l.length < 2000) (hr : r.length < 2000) : S40 2000 l r = some (poss l r) := by
  unfold S40
  simp only [g40_0, g40_1, g40_2, g40_3, g40_5, g40_6, g40_8, g40_9, g40_10, g40_12, g40_13, g40_14, g40, v43 l (by unfold BIG; omega), v68 r hr, Option.bind_some]
  cases hb : begins r with
  | false =>
    have hp : poss l r = [0] := by unfold poss; rw [if_pos (.inr hb)]
    rw [hp]
    simp only [Bool.not_false, brB_true]
  | true =>
    simp only [Bool.not_true, brB_false]
    by_cases h0 : endsOf l = 0
    · have hp : poss l r = [0] := by unfold poss; rw [if_pos (.inl h0)]
      rw [hp, h0]; rfl
    · have e0 : (endsOf l == 0) = false := by simpa using h0
      have hn : ¬ (endsOf l = 0 ∨ begins r = false) := by simp [h0, hb]
      simp only [e0, brB_false]
      by_cases h2 : endsOf l = 2
      · have e2 : (endsOf l == 2) = true := by simpa using h2
        have hp : poss l r = [1, 3] := by unfold poss; rw [if_neg hn, if_pos h2]
        rw [hp]
        simp only [e2, brB_true]
      · have e2 : (endsOf l == 2) = false := by simpa using h2
        simp only [e2, brB_false]
        have hpos := ends_pos h0
        have w : IntKind.i64.wrap ((l.length : Int) - 1) = (l.length : Int) - 1 := wrap_id (by omega)
        have q : 0 ≤ (l.length : Int) - 1 ∧ (l.length : Int) - 1 < (l.length : Int) := by omega
        simp only [w, if_pos q]
        have t : ((l.length : Int) - 1).toNat = l.length - 1 := by omega
        rw [t]
        have hp : poss l r = if (l.getD (l.length - 1) s0).2.1 = 1 then [1, 2, 3] else [1, 2, 3, 4] := by
          unfold poss; rw [if_neg hn, if_neg h2]
        rw [hp]
        by_cases hq : (l.getD (l.length - 1) s0).2.1 = 1
        · have e3 : ((l.getD (l.length - 1) s0).2.1 != 1) = false := by simpa using hq
          rw [if_pos hq]
          simp only [e3, brB_false]
        · have e3 : ((l.getD (l.length - 1) s0).2.1 != 1) = true := by simpa using hq
          rw [if_neg hq]
          simp only [e3, brB_true]
          rfl
theorem v42 (k e : Int) (hk : 1 ≤ k ∧ k ≤ 4) : S42 2000 k e = some (nd k e) := by
  unfold S42 nd
  have : k = 1 ∨ k = 2 ∨ k = 3 ∨ k = 4 := by omega
  rcases this with rfl | rfl | rfl | rfl
  · simp only [g42_0, g42_1, g42_2, g42_4, g42_5, g42_6, g42]
    by_cases h : e = 2
    · subst h; rfl
    · have e2 : (e == 2) = false := by simpa using h
      have e1 : ((1 : Int) == 1) = true := rfl
      simp only [e1, e2, brB_true, brB_false]
      rw [if_neg h]; rfl
  · rfl
  · rfl
  · rfl
theorem lcostr {R : Type} (k0 : Int → Lic → Int → Bool → List UInt8 → Int → Option R) (k : Int) (nm : List UInt8) (w : List UInt8) :
    ∀ (ys pre : List Rul) (m : Nat) (q : Int × Bool), ys.length < m → (pre ++ ys).length ≤ BIG → (∀ r ∈ ys, r.2.2.1.length < 2000) →
      l41_15 (S70 2000) k0 m k (nm, (pre ++ ys), ()) q.1 q.2 w (pre.length : Int) = k0 k (nm, (pre ++ ys), ()) (cst k w ys q).1 (cst k w ys q).2 w ((pre ++ ys).length : Int) := by
  intro ys
  induction ys with
  | nil =>
    intro pre m q hm hb hr
    cases m with
    | zero => simp at hm
    | succ m =>
      unfold l41_15
      simp only [g41_0, g41_1, g41_2, g41_3, g41_4, g41_6, g41_7, g41_9, g41_10, g41_12, g41_13, g41_14, g41_15, g41_17, g41_18, g41, lt_nil, brB_false, cst]
      simp
  | cons y ys ih =>
    intro pre m q hm hb hr
    cases m with
    | zero => simp at hm
    | succ m =>
      have step : ∀ q', l41_15 (S70 2000) k0 m k (nm, (pre ++ y :: ys), ()) q'.1 q'.2 w ((pre ++ [y]).length : Int) = k0 k (nm, (pre ++ y :: ys), ()) (cst k w ys q').1 (cst k w ys q').2 w ((pre ++ y :: ys).length : Int) := by
        intro q'
        rw [app_cons pre ys y]
        exact ih (pre ++ [y]) m q' (by simpa using hm) (by rw [← app_cons]; exact hb) (fun r h => hr r (by simp [h]))
      unfold l41_15
      simp only [g41_0, g41_1, g41_2, g41_3, g41_4, g41_6, g41_7, g41_9, g41_10, g41_12, g41_13, g41_14, g41_15, g41_17, g41_18, g41, lt_cons, in_cons, at_cons, if_true, brB_true, wrap_snoc pre ys y hb, cst, takes]
      by_cases h1 : y.1 = k
      case neg =>
        have e1 : (y.1 != k) = true := by simpa using h1
        have e2 : (y.1 == k) = false := by simpa using h1
        simp only [e1, e2, brB_true, Bool.false_and, cond_false]; exact step q
      have e1 : (y.1 != k) = false := by simpa using h1
      have e2 : (y.1 == k) = true := by simpa using h1
      simp only [e1, e2, brB_false, Bool.true_and]
      have fin : ∀ b : Bool, b = apps y w → brB (!b) (l41_15 (S70 2000) k0 m k (nm, (pre ++ y :: ys), ()) q.1 q.2 w ((pre ++ [y]).length : Int))
          (brB (!q.2) (brB true (l41_15 (S70 2000) k0 m k (nm, (pre ++ y :: ys), ()) y.2.1 true w ((pre ++ [y]).length : Int)) (l41_15 (S70 2000) k0 m k (nm, (pre ++ y :: ys), ()) q.1 q.2 w ((pre ++ [y]).length : Int)))
            (brB (decide (y.2.1 < q.1)) (l41_15 (S70 2000) k0 m k (nm, (pre ++ y :: ys), ()) y.2.1 true w ((pre ++ [y]).length : Int)) (l41_15 (S70 2000) k0 m k (nm, (pre ++ y :: ys), ()) q.1 q.2 w ((pre ++ [y]).length : Int)))) =
          k0 k (nm, (pre ++ y :: ys), ()) (cst k w ys (cond (apps y w && (!q.2 || decide (y.2.1 < q.1))) (y.2.1, true) q)).1 (cst k w ys (cond (apps y w && (!q.2 || decide (y.2.1 < q.1))) (y.2.1, true) q)).2 w ((pre ++ y :: ys).length : Int) := by
        intro b hb'
        rw [← hb']
        cases b with
        | false => simp only [Bool.not_false, brB_true, Bool.false_and, cond_false]; exact step q
        | true =>
          simp only [Bool.not_true, brB_false, Bool.true_and]
          cases h3 : q.2 with
          | false => simp only [Bool.not_false, brB_true, Bool.true_or, cond_true]; exact step (y.2.1, true)
          | true =>
            simp only [Bool.not_true, brB_false, Bool.false_or]
            cases decide (y.2.1 < q.1) with
            | true => simp only [brB_true, cond_true]; exact step (y.2.1, true)
            | false =>
              simp only [brB_false, cond_false]
              have := step q
              rw [h3] at this; exact this
      cases hw : y.2.2.1 with
      | nil =>
        have e3 : decide ((([] : List (List UInt8)).length : Int) > 0) = false := rfl
        have e4 : apps y w = true := by unfold apps; rw [hw]; rfl
        have := fin true e4.symm
        simp only [Bool.not_true, brB_false, brB_true] at this
        simp only [e3, brB_false, brB_true]
        exact this
      | cons z zs =>
        have e3 : decide (((z :: zs).length : Int) > 0) = true := decide_eq_true (by simp only [List.length_cons]; omega)
        have hz : (z :: zs).length < 2000 := by rw [← hw]; exact hr y (by simp)
        have e4 : apps y w = (z :: zs).contains w := by unfold apps; rw [hw]; simp
        have := fin ((z :: zs).contains w) e4.symm
        simp only [brB_true] at this
        simp only [e3, brB_true, v70 (z :: zs) w hz, Option.bind_some]
        exact this
theorem v41 (x : Lic) (k : Int) (w : List UInt8) (hw : w.length < 2000) (hx : x.2.1.length < 2000) (hr : ∀ r ∈ x.2.1, r.2.2.1.length < 2000) : S41 2000 x k w = some (cst k (fold w) x.2.1 (0, false)) := by
  obtain ⟨nm, rs, u⟩ := x
  replace hx : rs.length < 2000 := hx
  unfold S41
  have := lcostr (R := Int × Bool) (fun _ _ b o _ _ => some (b, o)) k nm (fold w) rs [] 2000 (0, false) hx (by unfold BIG; simp; omega) hr
  simp only [g41_0, g41_1, g41_2, g41_3, g41_4, g41_6, g41_7, g41_9, g41_10, g41_12, g41_13, g41_14, g41_15, g41_17, g41_18, g41, v69 w hw, Option.bind_some]
  simpa using this
theorem ljointr {R : Type} (k0 : List UInt8 → List UInt8 → List Snd → Lic → List Jnt → List Int → Int → Option R) (left right : List UInt8) (l : List Snd) (x : Lic) (hl : left.length < 2000) (hrr : right.length < 2000) (hb0 : l.length ≤ BIG) (hx : x.2.1.length < 2000) (hr : ∀ r ∈ x.2.1, r.2.2.1.length < 2000) :
    ∀ (ys pre : List Int) (m : Nat) (acc : List Jnt), ys.length < m → (pre ++ ys).length ≤ 2000 → acc.length ≤ pre.length → (∀ y ∈ ys, 0 ≤ y ∧ y ≤ 4) →
      l17_29 (S41 2000) (S42 2000) (S43 2000) k0 m left right l x acc (pre ++ ys) (pre.length : Int) = k0 left right l x (acc ++ jl (cf x left right l) ys) (pre ++ ys) ((pre ++ ys).length : Int) := by
  intro ys
  induction ys with
  | nil =>
    intro pre m acc hm hb ha hy
    cases m with
    | zero => simp at hm
    | succ m =>
      unfold l17_29
      simp only [g17_0, g17_1, g17_2, g17_3, g17_5, g17_6, g17_7, g17_9, g17_10, g17_11, g17_12, g17_14, g17_15, g17_17, g17_18, g17_19, g17_21, g17_22, g17_23, g17_24, g17_26, g17_27, g17_28, g17_29, g17_31, g17_32, g17, lt_nil, brB_false, jl]
      simp
  | cons y ys ih =>
    intro pre m acc hm hb ha hy
    cases m with
    | zero => simp at hm
    | succ m =>
      have hb2 : (pre ++ y :: ys).length ≤ BIG := by unfold BIG; omega
      have hal : ∀ j : Jnt, acc.length + [j].length ≤ 8796093022208 := by
        intro j
        simp only [List.length_append, List.length_cons, List.length_nil] at hb ⊢; omega
      have step : ∀ acc', acc'.length ≤ pre.length + 1 → l17_29 (S41 2000) (S42 2000) (S43 2000) k0 m left right l x acc' (pre ++ y :: ys) ((pre ++ [y]).length : Int) = k0 left right l x (acc' ++ jl (cf x left right l) ys) (pre ++ y :: ys) ((pre ++ y :: ys).length : Int) := by
        intro acc' ha'
        rw [app_cons pre ys y]
        exact ih (pre ++ [y]) m acc' (by simpa using hm) (by rw [← app_cons]; exact hb) (by simpa using ha') (fun z hz => hy z (by simp [hz]))
      have fin : ∀ (wrd : List UInt8), wrd = (if y = 2 then right else left) → S41 2000 x (nd y (endsOf l)) wrd = some (cf x left right l y) := by
        intro wrd hw
        rw [v41 x _ wrd (by rw [hw]; split <;> assumption) hx hr, hw]; rfl
      have hyy := hy y (by simp)
      unfold l17_29
      simp only [g17_0, g17_1, g17_2, g17_3, g17_5, g17_6, g17_7, g17_9, g17_10, g17_11, g17_12, g17_14, g17_15, g17_17, g17_18, g17_19, g17_21, g17_22, g17_23, g17_24, g17_26, g17_27, g17_28, g17_29, g17_31, g17_32, g17, lt_cons, in_cons, at_cons, lt_at, if_true, brB_true, v43 l hb0, Option.bind_some, if_pos (hal _), wrap_snoc pre ys y hb2, jl]
      by_cases h0 : y = 0
      · subst h0
        have e0 : ((0 : Int) == 0) = true := rfl
        simp only [e0, brB_true, if_true]
        rw [step _ (by simp; omega)]
        simp
      · have e0 : (y == (0 : Int)) = false := by simpa using h0
        simp only [e0, brB_false, if_neg h0, v42 y (endsOf l) (by omega), Option.bind_some]
        by_cases h2 : y = 2
        · have e2 : (y == (2 : Int)) = true := by simpa using h2
          simp only [e2, brB_true, fin right (by rw [if_pos h2]), Option.bind_some]
          cases hc : (cf x left right l y).2 with
          | true =>
            simp only [brB_true, if_true]
            rw [step _ (by simp; omega)]
            simp
          | false =>
            simp only [brB_false, Bool.false_eq_true, if_false]
            rw [step _ (by omega)]
        · have e2 : (y == (2 : Int)) = false := by simpa using h2
          simp only [e2, brB_false, fin left (by rw [if_neg h2]), Option.bind_some]
          cases hc : (cf x left right l y).2 with
          | true =>
            simp only [brB_true, if_true]
            rw [step _ (by simp; omega)]
            simp
          | false =>
            simp only [brB_false, Bool.false_eq_true, if_false]
            rw [step _ (by omega)]
def jnt2 (x : Lic) (left right : List UInt8) (l r : List Snd) : List Jnt × Int :=
  if lic x ≠ 0 then ([], lic x) else if bothE l r ≠ 0 then ([], bothE l r) else (jl (cf x left right l) (poss l r), 0)
theorem poss_in (l r : List Snd) : ∀ y ∈ poss l r, 0 ≤ y ∧ y ≤ 4 := by
  intro y h
  unfold poss at h
  split at h
  · simp at h; omega
  · split at h
    · simp at h; omega
    · split at h <;> · simp at h; omega
theorem vr17 (x : Lic) (left right : List UInt8) (l r : List Snd) (hl : left.length < 2000) (hrr : right.length < 2000) : S17 2000 x left right l r = some (jnt2 x left right l r) := by
  unfold S17 jnt2
  simp only [g17_0, g17_1, g17_2, g17_3, g17_5, g17_6, g17_7, g17_9, g17_10, g17_11, g17_12, g17_14, g17_15, g17_17, g17_18, g17_19, g17_21, g17_22, g17_23, g17_24, g17_26, g17_27, g17_28, g17_29, g17_31, g17_32, g17, v38, Option.bind_some]
  by_cases h0 : lic x = 0
  case neg =>
    have e1 : (lic x != 0) = true := by simpa using h0
    simp only [e1, brB_true]
    rw [if_pos h0]
  have e1 : (lic x != 0) = false := by simpa using h0
  simp only [e1, brB_false, v39, Option.bind_some]
  rw [if_neg (by simpa using h0)]
  by_cases h3 : bothE l r = 0
  case neg =>
    have e3 : (bothE l r != 0) = true := by simpa using h3
    simp only [e3, brB_true]
    rw [if_pos h3]
  have e3 : (bothE l r != 0) = false := by simpa using h3
  obtain ⟨h1, h2⟩ := both_len h3
  obtain ⟨k1, k2⟩ := lic_ok h0
  have := ljointr (R := List Jnt × Int) (fun _ _ _ _ j _ _ => some (j, 0)) left right l x hl hrr (by unfold BIG; omega) (by omega) (fun r hr => by have := k2 r hr; omega) (poss l r) [] 2000 [] (poss_len l r) (by have := poss_len l r; simp; omega) (by simp) (poss_in l r)
  simp only [e3, brB_false, v40 l r (by omega) (by omega), Option.bind_some]
  rw [if_neg (by simpa using h3)]
  simpa using this
theorem vp16 (x : Lic) (left right : List UInt8) (l r : List Snd) (hl : left.length < 2000) (hrr : right.length < 2000) : S16 2000 x left right l r = some (jnt2 x left right l r) := by
  by_cases h3 : bothE l r = 0
  · obtain ⟨h1, h2⟩ := both_len h3
    rw [v16 x left right l r hl hrr h1 h2 (by rw [vs33, h3])]
    unfold jnts jnt2
    rw [if_neg (show ¬ bothE l r ≠ 0 by simpa using h3)]
  · unfold S16 jnt2
    have e3 : (bothE l r != 0) = true := by simpa using h3
    simp only [g16_0, g16_1, g16_2, g16_3, g16_5, g16_6, g16_7, g16_9, g16_10, g16_11, g16_13, g16_14, g16_15, g16_17, g16_18, g16_19, g16_21, g16_22, g16_23, g16_24, g16_26, g16_27, g16_28, g16_29, g16_31, g16_32, g16, v32, vs33, Option.bind_some]
    by_cases h0 : lic x = 0
    · have e1 : (lic x != 0) = false := by simpa using h0
      simp only [e1, e3, brB_false, brB_true]
      rw [if_neg (by simpa using h0), if_pos h3]
    · have e1 : (lic x != 0) = true := by simpa using h0
      simp only [e1, brB_true]
      rw [if_pos h0]
theorem jnt2_cost (x : Lic) (left right : List UInt8) (l r : List Snd) : (jnt2 x left right l r).1.length ≤ 4 ∧ ∀ j ∈ (jnt2 x left right l r).1, inC j.2.1 := by
  unfold jnt2
  by_cases h0 : lic x = 0
  case neg => rw [if_pos h0]; exact ⟨by simp, fun j h => by simp at h⟩
  rw [if_neg (by simpa using h0)]
  by_cases h3 : bothE l r = 0
  case neg => rw [if_pos h3]; exact ⟨by simp, fun j h => by simp at h⟩
  rw [if_neg (by simpa using h3)]
  refine ⟨?_, jl_cost (cf x left right l) (fun k => by unfold cf; exact cst_cost _ _ _ _ (lic_cost h0) (by unfold inC; simp)) (poss l r)⟩
  have hlen : (jl (cf x left right l) (poss l r)).length ≤ (poss l r).length := jl_len _ _
  have hp4 : (poss l r).length ≤ 4 := by
    unfold poss
    split
    · simp
    · split
      · simp
      · split <;> simp
  exact Nat.le_trans hlen hp4
theorem vp18 (x : Lic) (left right : List UInt8) (l r : List Snd) (hl : left.length < 2000) (hrr : right.length < 2000) :
    S18 2000 x left right l r = some (chp (jnt2 x left right l r).1 (jnt2 x left right l r).2) := by
  unfold S18
  simp only [g18_0, g18_1, g18_2, g18_3, g18_5, g18_6, g18_8, g18_9, g18, vp16 x left right l r hl hrr, Option.bind_some]
  obtain ⟨hlen, hcost⟩ := jnt2_cost x left right l r
  generalize (jnt2 x left right l r).1 = js at *
  generalize (jnt2 x left right l r).2 = e at *
  by_cases h0 : e = 0
  · subst h0
    have e1 : ((0 : Int) != 0) = false := rfl
    simp only [e1, brB_false]
    cases js with
    | nil =>
      have e2 : ((([] : List Jnt).length : Int) == 0) = true := rfl
      simp only [e2, brB_true]
      rfl
    | cons y ys =>
      have e2 : (((y :: ys).length : Int) == 0) = false := by simp; omega
      simp only [e2, brB_false]
      rw [v44 _ (fun a b ha hb => by simp only [v45 a b ha hb, Option.bind_some, unE]; rfl) y ys (by simp at hlen; omega) hcost]
      rfl
  · have e1 : (e != 0) = true := by simpa using h0
    simp only [e1, brB_true]
    unfold chp
    rw [if_pos h0]
theorem lminr {R : Type} (k0 : Jnt → List Jnt → Jnt → Int → Option R) (d : Jnt) :
    ∀ (ys pre : List Jnt) (m : Nat) (x : Jnt), ys.length < m → (pre ++ ys).length ≤ BIG →
      l19_18 k0 m d (pre ++ ys) x (pre.length : Int) = k0 d (pre ++ ys) (lst ys x) ((pre ++ ys).length : Int) := by
  intro ys
  induction ys with
  | nil =>
    intro pre m x hm hb
    cases m with
    | zero => simp at hm
    | succ m =>
      unfold l19_18
      simp only [g19_0, g19_1, g19_2, g19_3, g19_5, g19_6, g19_8, g19_9, g19_10, g19_12, g19_13, g19_15, g19_16, g19_17, g19_18, g19_20, g19_21, g19, lt_nil, brB_false, lst]
      simp
  | cons y ys ih =>
    intro pre m x hm hb
    cases m with
    | zero => simp at hm
    | succ m =>
      have step : ∀ x', l19_18 k0 m d (pre ++ y :: ys) x' ((pre ++ [y]).length : Int) = k0 d (pre ++ y :: ys) (lst ys x') ((pre ++ y :: ys).length : Int) := by
        intro x'
        rw [app_cons pre ys y]
        exact ih (pre ++ [y]) m x' (by simpa using hm) (by rw [← app_cons]; exact hb)
      unfold l19_18
      simp only [g19_0, g19_1, g19_2, g19_3, g19_5, g19_6, g19_8, g19_9, g19_10, g19_12, g19_13, g19_15, g19_16, g19_17, g19_18, g19_20, g19_21, g19, lt_cons, in_cons, at_cons, lt_at, if_true, brB_true, wrap_snoc pre ys y hb, lst]
      cases decide (y.2.1 < x.2.1) with
      | true => simp only [brB_true, cond_true]; exact step y
      | false => simp only [brB_false, cond_false]; exact step x
theorem v19 (x : Lic) (left right : List UInt8) (l r : List Snd) (hl : left.length < 2000) (hrr : right.length < 2000) :
    S19 2000 x left right l r = some (chp (jnt2 x left right l r).1 (jnt2 x left right l r).2) := by
  unfold S19
  simp only [g19_0, g19_1, g19_2, g19_3, g19_5, g19_6, g19_8, g19_9, g19_10, g19_12, g19_13, g19_15, g19_16, g19_17, g19_18, g19_20, g19_21, g19, vr17 x left right l r hl hrr, Option.bind_some]
  obtain ⟨hlen, hcost⟩ := jnt2_cost x left right l r
  generalize (jnt2 x left right l r).1 = js at *
  generalize (jnt2 x left right l r).2 = e at *
  by_cases h0 : e = 0
  · subst h0
    have e1 : ((0 : Int) != 0) = false := rfl
    simp only [e1, brB_false]
    cases js with
    | nil =>
      have e2 : ((([] : List Jnt).length : Int) == 0) = true := rfl
      simp only [e2, brB_true]
      rfl
    | cons y ys =>
      have e2 : (((y :: ys).length : Int) == 0) = false := by simp; omega
      have d2 : (0 : Int) ≤ 0 ∧ (0 : Int) < ((y :: ys).length : Int) := by simp only [List.length_cons]; omega
      have d4 : (0 : Int).toNat < (y :: ys).length := by simp
      have d3 : (y :: ys).getD (0 : Int).toNat ((0 : Int), ((0 : Int), ())) = y := rfl
      have hyl : ys.length ≤ 3 := by simpa using hlen
      have := lminr (R := Jnt × Int) (fun _ _ z _ => some (z, 0)) (0, 0, ()) ys [y] 2000 y (by omega) (by unfold BIG; simp; omega)
      simp only [e2, brB_false, if_pos d2, if_pos d4, d3]
      exact this
  · have e1 : (e != 0) = true := by simpa using h0
    simp only [e1, brB_true]
    unfold chp
    rw [if_pos h0]
theorem lsame {R : Type} (k0 : Bool → Option R) (k1 : List Jnt → List Jnt → Int → Option R) (hk : ∀ a b c, k1 a b c = k0 true) :
    ∀ (ys pre : List Jnt) (m : Nat), ys.length < m → (pre ++ ys).length ≤ BIG → l20_13 k0 k1 m (pre ++ ys) (pre ++ ys) (pre.length : Int) = k0 true := by
  intro ys
  induction ys with
  | nil =>
    intro pre m hm hb
    cases m with
    | zero => simp at hm
    | succ m =>
      unfold l20_13
      simp only [g20_0, g20_1, g20_2, g20_4, g20_5, g20_7, g20_8, g20_11, g20_12, g20_13, g20_15, g20_16, g20, lt_nil, brB_false, hk]
  | cons y ys ih =>
    intro pre m hm hb
    cases m with
    | zero => simp at hm
    | succ m =>
      unfold l20_13
      simp only [g20_0, g20_1, g20_2, g20_4, g20_5, g20_7, g20_8, g20_11, g20_12, g20_13, g20_15, g20_16, g20, lt_cons, in_cons, at_cons, if_true, brB_true, beq_self_eq_true, Bool.and_true, Bool.not_true, brB_false, wrap_snoc pre ys y hb]
      rw [app_cons pre ys y, ih (pre ++ [y]) m (by simpa using hm) (by rw [← app_cons]; exact hb)]
theorem v20 (l : List Jnt) (hl : l.length < 2000) : S20 2000 l l = some true := by
  unfold S20
  have := lsame (R := Bool) some (fun _ _ _ => some true) (fun _ _ _ => rfl) l [] 2000 hl (by unfold BIG; simp; omega)
  have e : ((l.length : Int) != (l.length : Int)) = false := by simp
  simp only [g20_0, g20_1, g20_2, g20_4, g20_5, g20_7, g20_8, g20_11, g20_12, g20_13, g20_15, g20_16, g20, e, brB_false]
  simpa using this
theorem main4 (x : Lic) (p : List UInt8 × (List UInt8 × (List Snd × (List Snd × Unit))))
    (i0 : InR (.pair .str (.pair (.sl (.pair (.int .i64) (.pair (.int .i64) (.pair (.sl .str) .unit)))) .unit)) x) (i1 : InR (.pair .str (.pair .str (.pair (.sl (.pair (.int .i64) (.pair (.int .i64) (.pair .str .unit)))) (.pair (.sl (.pair (.int .i64) (.pair (.int .i64) (.pair .str .unit)))) .unit)))) p)
    (z0 : InZ reachBytes (.pair .str (.pair (.sl (.pair (.int .i64) (.pair (.int .i64) (.pair (.sl .str) .unit)))) .unit)) x) (z1 : InZ reachBytes (.pair .str (.pair .str (.pair (.sl (.pair (.int .i64) (.pair (.int .i64) (.pair .str .unit)))) (.pair (.sl (.pair (.int .i64) (.pair (.int .i64) (.pair .str .unit)))) .unit)))) p) :
    S4 2000 x p = some true := by
  obtain ⟨left, right, l, r, u⟩ := p
  unfold S4
  have e8 : S6 2000 = some true := rfl
  obtain ⟨b, hb⟩ := v14 x (lic_texts z0)
  obtain ⟨c, hc, hcl⟩ := v7 l
  obtain ⟨d, hd, hdl⟩ := v7 r
  simp only [g4_0, g4_1, g4_2, g4_4, g4_5, g4_6, g4_7, g4_8, g4_9, g4, e8, hb, Option.bind_some, Bool.not_true, brB_false]
  cases b with
  | false => simp only [Bool.not_false, brB_true]
  | true =>
  simp only [Bool.not_true, brB_false]
  have few : ∃ f, S15 2000 (left, right, l, r, u) = some f ∧ (f = true → left.length ≤ 40 ∧ right.length ≤ 40 ∧ l.length ≤ 210 ∧ r.length ≤ 210) := by
    unfold S15
    simp only [g15_0, g15_1, g15_2, g15, hc, hd, Option.bind_some]
    cases q1 : decide ((left.length : Int) ≤ 40) with
    | false => exact ⟨false, rfl, fun h => by cases h⟩
    | true =>
      cases q2 : decide ((right.length : Int) ≤ 40) with
      | false => exact ⟨false, rfl, fun h => by cases h⟩
      | true =>
        have q1 := of_decide_eq_true q1
        have q2 := of_decide_eq_true q2
        cases c with
        | false => exact ⟨false, rfl, fun h => by cases h⟩
        | true => exact ⟨d, rfl, fun h => ⟨by omega, by omega, hcl rfl, hdl h⟩⟩
  obtain ⟨f, hf, hff⟩ := few
  simp only [hf, Option.bind_some]
  cases f with
  | false => simp only [Bool.not_false, brB_true]
  | true =>
  obtain ⟨q1, q2, q3, q4⟩ := hff rfl
  simp only [Bool.not_true, brB_false, vclone l (by omega), vclone r (by omega), Option.bind_some]
  have h4 := (jnt2_cost x left right l r).1
  simp only [vp16 x left right l r (by omega) (by omega), vr17 x left right l r (by omega) (by omega), vp18 x left right l r (by omega) (by omega), v19 x left right l r (by omega) (by omega), Option.bind_some, beq_self_eq_true, brB_true, v20 _ (Nat.lt_of_le_of_lt h4 (by omega)), Bool.and_true]
end Go.Fw.L19
