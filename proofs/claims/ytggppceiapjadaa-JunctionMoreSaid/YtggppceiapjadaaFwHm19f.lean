/- Costs and joints of the program; small licences. -/
import Derived.Test.YtggppceiapjadaaFwHm19d
import Derived.Test.YtggppceiapjadaaFwHm19b
import Derived.Test.YtggppceiapjadaaFwB5
set_option linter.unusedVariables false
set_option linter.unusedSimpArgs false
namespace Go.Fw.L19
open Go Go.Fw
set_option maxRecDepth 100000
set_option linter.unusedSimpArgs false
set_option linter.unusedVariables false
abbrev Jnt : Type := Int × (Int × Unit)
def apps (r : Rul) (w : List UInt8) : Bool := r.2.2.1.isEmpty || r.2.2.1.contains w
def takes (k : Int) (w : List UInt8) (r : Rul) (q : Int × Bool) : Bool := (r.1 == k) && (apps r w && (!q.2 || decide (r.2.1 < q.1)))
def cst (k : Int) (w : List UInt8) : List Rul → Int × Bool → Int × Bool
  | [], q => q
  | r :: rs, q => cst k w rs (cond (takes k w r q) (r.2.1, true) q)
theorem v57 (r : Rul) (w : List UInt8) (h : r.2.2.1.length < 2000) : S57 2000 r w = some (apps r w) := by
  obtain ⟨a, b, ws, u⟩ := r
  unfold S57 apps
  simp only [g57_0, g57_1, g57_2, g57, v74 ws w h, Option.bind_some]
  cases ws with
  | nil => rfl
  | cons y ys =>
    have : (((y :: ys).length : Int) == 0) = false := by simp; omega
    simp only [this, brB_false, List.isEmpty_cons, Bool.false_or]
theorem lcost {R : Type} (k0 : Int → List UInt8 → Int → Bool → List Rul → Int → Int → Option R) (k : Int) (w : List UInt8) :
    ∀ (ys pre : List Rul) (m : Nat) (q : Int × Bool), ys.length < m → (pre ++ ys).length ≤ BIG → (∀ r ∈ ys, r.2.2.1.length < 2000) →
      l38_13 (S57 2000) k0 m k w q.1 q.2 (pre ++ ys) ((pre ++ ys).length : Int) (pre.length : Int) = k0 k w (cst k w ys q).1 (cst k w ys q).2 (pre ++ ys) ((pre ++ ys).length : Int) ((pre ++ ys).length : Int) := by
  intro ys
  induction ys with
  | nil =>
    intro pre m q hm hb hr
    cases m with
    | zero => simp at hm
    | succ m =>
      unfold l38_13
      simp only [g38_0, g38_1, g38_2, g38_3, g38_4, g38_6, g38_7, g38_8, g38_10, g38_11, g38_12, g38_13, g38_15, g38_16, g38, lt_nil, brB_false, cst]
      simp
  | cons y ys ih =>
    intro pre m q hm hb hr
    cases m with
    | zero => simp at hm
    | succ m =>
      have step : ∀ q', l38_13 (S57 2000) k0 m k w q'.1 q'.2 (pre ++ y :: ys) ((pre ++ y :: ys).length : Int) ((pre ++ [y]).length : Int) = k0 k w (cst k w ys q').1 (cst k w ys q').2 (pre ++ y :: ys) ((pre ++ y :: ys).length : Int) ((pre ++ y :: ys).length : Int) := by
        intro q'
        rw [app_cons pre ys y]
        exact ih (pre ++ [y]) m q' (by simpa using hm) (by rw [← app_cons]; exact hb) (fun r h => hr r (by simp [h]))
      unfold l38_13
      simp only [g38_0, g38_1, g38_2, g38_3, g38_4, g38_6, g38_7, g38_8, g38_10, g38_11, g38_12, g38_13, g38_15, g38_16, g38, lt_cons, in_cons, at_cons, if_true, brB_true, v57 y w (hr y (by simp)), Option.bind_some, wrap_snoc pre ys y hb, cst, takes]
      cases h1 : (y.1 == k) with
      | false => simp only [brB_false, Bool.false_and, cond_false]; exact step q
      | true =>
        simp only [brB_true, Bool.true_and]
        cases h2 : apps y w with
        | false => simp only [brB_false, Bool.false_and, cond_false]; exact step q
        | true =>
          simp only [brB_true, Bool.true_and]
          cases h3 : q.2 with
          | false => simp only [Bool.not_false, brB_true, Bool.true_or, cond_true]; exact step (y.2.1, true)
          | true =>
            simp only [Bool.not_true, brB_false, Bool.false_or]
            by_cases h4 : y.2.1 < q.1
            · simp only [h4, decide_true, brB_true, cond_true]; exact step (y.2.1, true)
            · simp only [h4, decide_false, brB_false, cond_false]
              have := step q
              rw [h3] at this; exact this
theorem v38 (x : Lic) (k : Int) (w : List UInt8) (hw : w.length < 2000) (hx : x.2.1.length < 2000) (hr : ∀ r ∈ x.2.1, r.2.2.1.length < 2000) : S38 2000 x k w = some (cst k (fold w) x.2.1 (0, false)) := by
  obtain ⟨nm, rs, u⟩ := x
  replace hx : rs.length < 2000 := hx
  unfold S38
  have := lcost (R := Int × Bool) (fun _ _ b o _ _ _ => some (b, o)) k (fold w) rs [] 2000 (0, false) hx (by unfold BIG; simp; omega) hr
  simp only [g38_0, g38_1, g38_2, g38_3, g38_4, g38_6, g38_7, g38_8, g38_10, g38_11, g38_12, g38_13, g38_15, g38_16, g38, v56 w hw, Option.bind_some]
  simpa using this
def nd (k e : Int) : Int := if k = 2 then 10 else if k = 3 then 11 else if k = 4 then 12 else if e = 2 then 9 else 8
theorem v39 (k e : Int) : S39 2000 k e = some (nd k e) := by
  unfold S39 nd
  simp only [g39_0, g39_1, g39_2, g39_3, g39_4, g39_5, g39_6, g39_7, g39_12, g39_13, g39_15, g39_16, g39]
  by_cases h1 : k = 2
  · subst h1; rfl
  have e1 : (k == 2) = false := by simpa using h1
  by_cases h2 : k = 3
  · subst h2; rfl
  have e2 : (k == 3) = false := by simpa using h2
  by_cases h3 : k = 4
  · subst h3; rfl
  have e3 : (k == 4) = false := by simpa using h3
  simp only [e1, e2, e3, brB_false, if_neg h1, if_neg h2, if_neg h3]
  by_cases h4 : e = 2
  · subst h4; rfl
  · have e4 : (e == 2) = false := by simpa using h4
    simp only [e4, brB_false, if_neg h4]
def jl (f : Int → Int × Bool) : List Int → List Jnt
  | [] => []
  | k :: ks => if k = 0 then (0, 0, ()) :: jl f ks else if (f k).2 = true then (k, (f k).1, ()) :: jl f ks else jl f ks
def cf (x : Lic) (left right : List UInt8) (l : List Snd) (k : Int) : Int × Bool := cst (nd k (endsOf l)) (fold (if k = 2 then right else left)) x.2.1 (0, false)
theorem jl_len (f : Int → Int × Bool) : ∀ ks, (jl f ks).length ≤ ks.length
  | [] => by simp [jl]
  | k :: ks => by
    have := jl_len f ks
    simp only [jl]
    split
    · simp; omega
    · split
      · simp; omega
      · simp; omega
theorem ljoint {R : Type} (k0 : List UInt8 → List UInt8 → List Snd → Lic → List Jnt → List Int → Int → Int → Option R) (left right : List UInt8) (l : List Snd) (x : Lic) (hl : left.length < 2000) (hrr : right.length < 2000) (hb0 : l.length ≤ BIG) (hx : x.2.1.length < 2000) (hr : ∀ r ∈ x.2.1, r.2.2.1.length < 2000) :
    ∀ (ys pre : List Int) (m : Nat) (acc : List Jnt), ys.length < m → (pre ++ ys).length ≤ 2000 → acc.length ≤ pre.length →
      l11_29 (S14 2000) (S38 2000) (S39 2000) k0 m left right l x acc (pre ++ ys) ((pre ++ ys).length : Int) (pre.length : Int) = k0 left right l x (acc ++ jl (cf x left right l) ys) (pre ++ ys) ((pre ++ ys).length : Int) ((pre ++ ys).length : Int) := by
  intro ys
  induction ys with
  | nil =>
    intro pre m acc hm hb ha
    cases m with
    | zero => simp at hm
    | succ m =>
      unfold l11_29
      simp only [g11_0, g11_1, g11_2, g11_3, g11_5, g11_6, g11_7, g11_9, g11_10, g11_11, g11_13, g11_14, g11_15, g11_17, g11_18, g11_19, g11_21, g11_22, g11_23, g11_24, g11_26, g11_27, g11_28, g11_29, g11_31, g11_32, g11, lt_nil, brB_false, jl]
      simp
  | cons y ys ih =>
    intro pre m acc hm hb ha
    cases m with
    | zero => simp at hm
    | succ m =>
      have hb2 : (pre ++ y :: ys).length ≤ BIG := by unfold BIG; omega
      have hal : ∀ j : Jnt, acc.length + [j].length ≤ 8796093022208 := by
        intro j
        simp only [List.length_append, List.length_cons, List.length_nil] at hb ⊢; omega
      have step : ∀ acc', acc'.length ≤ pre.length + 1 → l11_29 (S14 2000) (S38 2000) (S39 2000) k0 m left right l x acc' (pre ++ y :: ys) ((pre ++ y :: ys).length : Int) ((pre ++ [y]).length : Int) = k0 left right l x (acc' ++ jl (cf x left right l) ys) (pre ++ y :: ys) ((pre ++ y :: ys).length : Int) ((pre ++ y :: ys).length : Int) := by
        intro acc' ha'
        rw [app_cons pre ys y]
        exact ih (pre ++ [y]) m acc' (by simpa using hm) (by rw [← app_cons]; exact hb) (by simpa using ha')
      have fin : ∀ (wrd : List UInt8), wrd = (if y = 2 then right else left) → S38 2000 x (nd y (endsOf l)) wrd = some (cf x left right l y) := by
        intro wrd hw
        rw [v38 x _ wrd (by rw [hw]; split <;> assumption) hx hr, hw]; rfl
      unfold l11_29
      simp only [g11_0, g11_1, g11_2, g11_3, g11_5, g11_6, g11_7, g11_9, g11_10, g11_11, g11_13, g11_14, g11_15, g11_17, g11_18, g11_19, g11_21, g11_22, g11_23, g11_24, g11_26, g11_27, g11_28, g11_29, g11_31, g11_32, g11, lt_cons, in_cons, at_cons, lt_at, if_true, brB_true, v14 l hb0, v39, Option.bind_some, if_pos (hal _), wrap_snoc pre ys y hb2, jl]
      by_cases h0 : y = 0
      · subst h0
        have e0 : ((0 : Int) == 0) = true := rfl
        simp only [e0, brB_true, if_true]
        rw [step _ (by simp; omega)]
        simp
      · have e0 : (y == (0 : Int)) = false := by simpa using h0
        simp only [e0, brB_false, if_neg h0]
        by_cases h2 : y = 2
        · have e2 : (y == (2 : Int)) = true := by simpa using h2
          simp only [e2, brB_true, fin right (by rw [if_pos h2]), Option.bind_some]
          cases hc : (cf x left right l y).2 with
          | true =>
            simp only [brB_true, if_true]
            rw [step _ (by simp; omega)]
            simp
          | false =>
            simp only [brB_false, Bool.false_eq_true, if_false]
            rw [step _ (by omega)]
        · have e2 : (y == (2 : Int)) = false := by simpa using h2
          simp only [e2, brB_false, fin left (by rw [if_neg h2]), Option.bind_some]
          cases hc : (cf x left right l y).2 with
          | true =>
            simp only [brB_true, if_true]
            rw [step _ (by simp; omega)]
            simp
          | false =>
            simp only [brB_false, Bool.false_eq_true, if_false]
            rw [step _ (by omega)]
def jnts (x : Lic) (left right : List UInt8) (l r : List Snd) : List Jnt × Int := if lic x ≠ 0 then ([], lic x) else (jl (cf x left right l) (poss l r), 0)
theorem v11 (x : Lic) (left right : List UInt8) (l r : List Snd) (hl : left.length < 2000) (hrr : right.length < 2000) (h1 : l.length ≤ 200) (h2 : r.length ≤ 200) (hv : S36 2000 l r = some 0) : S11 2000 x left right l r = some (jnts x left right l r) := by
  unfold S11 jnts
  simp only [g11_0, g11_1, g11_2, g11_3, g11_5, g11_6, g11_7, g11_9, g11_10, g11_11, g11_13, g11_14, g11_15, g11_17, g11_18, g11_19, g11_21, g11_22, g11_23, g11_24, g11_26, g11_27, g11_28, g11_29, g11_31, g11_32, g11, v35, hv, Option.bind_some]
  by_cases h0 : lic x = 0
  · have e1 : (lic x != 0) = false := by simpa using h0
    have e0 : ((0 : Int) != 0) = false := rfl
    obtain ⟨k1, k2⟩ := lic_ok h0
    have := ljoint (R := List Jnt × Int) (fun _ _ _ _ j _ _ _ => some (j, 0)) left right l x hl hrr (by unfold BIG; omega) (by omega) (fun r hr => by have := k2 r hr; omega) (poss l r) [] 2000 [] (poss_len l r) (by have := poss_len l r; simp; omega) (by simp)
    simp only [e1, e0, brB_false, v37 l r (by omega) (by omega), Option.bind_some]
    rw [if_neg (by simpa using h0)]
    simpa using this
  · have e1 : (lic x != 0) = true := by simpa using h0
    simp only [e1, brB_true]
    rw [if_pos h0]
theorem lsum {R : Type} (k0 : List (List UInt8) → Int → Int → Int → Option R) :
    ∀ (ys pre : List (List UInt8)) (m : Nat) (n : Int), pre.length ≤ 1501 → 1503 ≤ m + pre.length → (pre.length : Int) ≤ n → n ≤ 140737488400000 → (∀ w ∈ ys, w.length ≤ 140737488355328) →
      ∃ q i, l33_9 k0 m (pre ++ ys) 1500 n (pre.length : Int) = k0 (pre ++ ys) 1500 q i := by
  intro ys
  induction ys with
  | nil =>
    intro pre m n h1 h2 h3 h4 hw
    cases m with
    | zero => omega
    | succ m =>
      refine ⟨n, (pre.length : Int), ?_⟩
      unfold l33_9
      simp only [g33_0, g33_1, g33_2, g33_3, g33_5, g33_7, g33_8, g33_9, g33_11, g33_12, g33, lt_nil, brB_false]
  | cons y ys ih =>
    intro pre m n h1 h2 h3 h4 hw
    cases m with
    | zero => omega
    | succ m =>
      unfold l33_9
      simp only [g33_0, g33_1, g33_2, g33_3, g33_5, g33_7, g33_8, g33_9, g33_11, g33_12, g33, lt_cons, in_cons, at_cons, if_true, brB_true]
      by_cases hn : n ≤ 1500
      · have hy := hw y (by simp)
        have w1 : IntKind.i64.wrap (n + 1) = n + 1 := wrap_id (by omega)
        have w2 : IntKind.i64.wrap (n + 1 + (y.length : Int)) = n + 1 + (y.length : Int) := wrap_id (by omega)
        have w3 : IntKind.i64.wrap ((pre.length : Int) + 1) = ((pre ++ [y]).length : Int) := by
          rw [wrap_id (by omega)]; simp
        obtain ⟨q, i, h⟩ := ih (pre ++ [y]) m (n + 1 + (y.length : Int)) (by simp; omega) (by simp; omega) (by simp; omega) (by omega) (fun w hw' => hw w (by simp [hw']))
        refine ⟨q, i, ?_⟩
        simp only [hn, decide_true, brB_true, w1, w2, w3]
        rw [app_cons pre ys y]; exact h
      · refine ⟨n, (pre.length : Int), ?_⟩
        simp only [hn, decide_false, brB_false]
theorem v33 (l : List (List UInt8)) (hw : ∀ w ∈ l, w.length ≤ 140737488355328) : ∃ q, S33 2000 l 1500 = some q := by
  obtain ⟨q, i, h⟩ := lsum (R := Int) (fun _ _ n _ => some n) l [] 2000 0 (by simp) (by simp) (by simp) (by omega) hw
  refine ⟨q, ?_⟩
  unfold S33
  simp only [g33_0, g33_1, g33_2, g33_3, g33_5, g33_7, g33_8, g33_9, g33_11, g33_12, g33]
  simpa using h
theorem lfewl {R : Type} (k0 : Lic → Int → Int → Option R) (nm : List UInt8) :
    ∀ (ys pre : List Rul) (m : Nat) (n : Int), pre.length ≤ 50 → 52 ≤ m + pre.length → (∀ r ∈ ys, ∀ w ∈ r.2.2.1, w.length ≤ 140737488355328) →
      ∃ q i, l9_9 (S33 2000) k0 m (nm, (pre ++ ys), ()) n (pre.length : Int) = k0 (nm, (pre ++ ys), ()) q i := by
  intro ys
  induction ys with
  | nil =>
    intro pre m n h1 h2 hw
    cases m with
    | zero => omega
    | succ m =>
      refine ⟨n, (pre.length : Int), ?_⟩
      unfold l9_9
      simp only [g9_0, g9_1, g9_2, g9_3, g9_5, g9_7, g9_8, g9_9, g9_11, g9_12, g9, lt_nil, brB_false]
  | cons y ys ih =>
    intro pre m n h1 h2 hw
    cases m with
    | zero => omega
    | succ m =>
      unfold l9_9
      simp only [g9_0, g9_1, g9_2, g9_3, g9_5, g9_7, g9_8, g9_9, g9_11, g9_12, g9, lt_cons, in_cons, at_cons, if_true, brB_true]
      by_cases hp : (pre.length : Int) < 50
      · obtain ⟨s, hs⟩ := v33 y.2.2.1 (hw y (by simp))
        have w3 : IntKind.i64.wrap ((pre.length : Int) + 1) = ((pre ++ [y]).length : Int) := by
          rw [wrap_id (by omega)]; simp
        obtain ⟨q, i, h⟩ := ih (pre ++ [y]) m (IntKind.i64.wrap (n + s)) (by simp; omega) (by simp; omega) (fun r hr => hw r (by simp [hr]))
        refine ⟨q, i, ?_⟩
        simp only [hp, decide_true, brB_true, hs, Option.bind_some, w3]
        rw [app_cons pre ys y]; exact h
      · refine ⟨n, (pre.length : Int), ?_⟩
        simp only [hp, decide_false, brB_false]
theorem v9 (x : Lic) (hw : ∀ r ∈ x.2.1, ∀ w ∈ r.2.2.1, w.length ≤ 140737488355328) : ∃ b, S9 2000 x = some b := by
  obtain ⟨nm, rs, u⟩ := x
  obtain ⟨q, i, h⟩ := lfewl (R := Bool) (fun x n _ => brB (decide ((x.2.1.length : Int) ≤ (40 : Int))) (some (decide (n ≤ (1500 : Int)))) (some false)) nm rs [] 2000 (nm.length : Int) (by simp) (by simp) hw
  unfold S9
  simp only [g9_0, g9_1, g9_2, g9_3, g9_5, g9_7, g9_8, g9_9, g9_11, g9_12, g9]
  simp only [List.nil_append, List.length_nil, Int.natCast_zero] at h
  rw [h]
  by_cases h1 : (rs.length : Int) ≤ 40
  · exact ⟨_, by simp only [h1, decide_true, brB_true]; rfl⟩
  · exact ⟨_, by simp only [h1, decide_false, brB_false]; rfl⟩
theorem lic_texts {x : Lic} (z : InZ reachBytes (.pair .str (.pair (.sl (.pair (.int .i64) (.pair (.int .i64) (.pair (.sl .str) .unit)))) .unit)) x) : ∀ r ∈ x.2.1, ∀ w ∈ r.2.2.1, w.length ≤ 140737488355328 := by
  intro r hr w hw
  have h1 : w.length ≤ reachBytes := (z.2.1 r hr).2.2.1 w hw
  have := reachBytes_lt
  omega
end Go.Fw.L19
