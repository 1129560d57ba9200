/- Costs; small licences; copies; what is the same. -/
import Derived.Test.YtbdlccajpcomjaaFwHm17d
import Derived.Test.YtbdlccajpcomjaaFwB6
set_option linter.unusedVariables false
set_option linter.unusedSimpArgs false
namespace Go.Fw.L19
open Go Go.Fw
set_option maxRecDepth 100000
set_option linter.unusedSimpArgs false
set_option linter.unusedVariables false
def apps (r : Rul) (w : List UInt8) : Bool := r.2.2.1.isEmpty || r.2.2.1.contains w
def takes (k : Int) (w : List UInt8) (r : Rul) (q : Int × Bool) : Bool := (r.1 == k) && (apps r w && (!q.2 || decide (r.2.1 < q.1)))
def cst (k : Int) (w : List UInt8) : List Rul → Int × Bool → Int × Bool
 | [], q => q
 | r :: rs, q => cst k w rs (cond (takes k w r q) (r.2.1, true) q)
theorem v45 (r : Rul) (w : List UInt8) (h : r.2.2.1.length < 2000) : S45 2000 r w = some (apps r w) := by
 obtain ⟨a, b, ws, u⟩ := r
 unfold S45 apps
 simp only [g45_2, g45_2b, g45, v67 ws w h, Option.bind_some]
 cases ws with
 | nil => rfl
 | cons y ys =>
   have : (((y :: ys).length : Int) == 0) = false := by simp; omega
   simp only [this, brB_false, List.isEmpty_cons, Bool.false_or]
theorem lcost {R : Type} (k0 : Int → List UInt8 → Int → Bool → List Rul → Int → Int → Option R) (k : Int) (w : List UInt8) :
  ∀ (ys pre : List Rul) (m : Nat) (q : Int × Bool), ys.length < m → (pre ++ ys).length ≤ BIG → (∀ r ∈ ys, r.2.2.1.length < 2000) →
    l17_14 (S45 2000) k0 m k w q.1 q.2 (pre ++ ys) ((pre ++ ys).length : Int) (pre.length : Int) = k0 k w (cst k w ys q).1 (cst k w ys q).2 (pre ++ ys) ((pre ++ ys).length : Int) ((pre ++ ys).length : Int) := by
 intro ys
 induction ys with
 | nil =>
   intro pre m q hm hb hr
   cases m with
   | zero => simp at hm
   | succ m =>
     unfold l17_14
     simp only [g17_17, g17_3, g17_4, g17_10, g17_8, g17_11, g17_12, g17_13, g17_14, g17_16, g17_17b, g17, lt_nil, brB_false, cst]
     simp
 | cons y ys ih =>
   intro pre m q hm hb hr
   cases m with
   | zero => simp at hm
   | succ m =>
     have step : ∀ q', l17_14 (S45 2000) k0 m k w q'.1 q'.2 (pre ++ y :: ys) ((pre ++ y :: ys).length : Int) ((pre ++ [y]).length : Int) = k0 k w (cst k w ys q').1 (cst k w ys q').2 (pre ++ y :: ys) ((pre ++ y :: ys).length : Int) ((pre ++ y :: ys).length : Int) := by
      intro q'
      rw [app_cons pre ys y]
      exact ih (pre ++ [y]) m q' (by simpa using hm) (by rw [← app_cons]; exact hb) (fun r h => hr r (by simp [h]))
     unfold l17_14
     simp only [g17_17, g17_3, g17_4, g17_10, g17_8, g17_11, g17_12, g17_13, g17_14, g17_16, g17_17b, g17, lt_cons, in_cons, at_cons, if_true, brB_true, v45 y w (hr y (by simp)), Option.bind_some, wrap_snoc pre ys y hb, cst, takes]
     cases h1 : (y.1 == k) with
     | false => simp only [brB_false, Bool.false_and, cond_false]; exact step q
     | true =>
       simp only [brB_true, Bool.true_and]
       cases h2 : apps y w with
       | false => simp only [brB_false, Bool.false_and, cond_false]; exact step q
       | true =>
         simp only [brB_true, Bool.true_and]
         cases h3 : q.2 with
         | false => simp only [Bool.not_false, brB_true, Bool.true_or, cond_true]; exact step (y.2.1, true)
         | true =>
           simp only [Bool.not_true, brB_false, Bool.false_or]
           by_cases h4 : y.2.1 < q.1
           ·simp only [h4, decide_true, brB_true, cond_true]; exact step (y.2.1, true)
           ·simp only [h4, decide_false, brB_false, cond_false]
            have := step q
            rw [h3] at this; exact this
theorem v17 (x : Lic) (k : Int) (w : List UInt8) (hw : w.length < 2000) (hx : x.2.1.length < 2000) (hr : ∀ r ∈ x.2.1, r.2.2.1.length < 2000) : S17 2000 x k w = some (cst k (fold w) x.2.1 (0, false)) := by
 obtain ⟨nm, rs, u⟩ := x
 replace hx : rs.length < 2000 := hx
 unfold S17
 have := lcost (R := Int × Bool) (fun _ _ b o _ _ _ => some (b, o)) k (fold w) rs [] 2000 (0, false) hx (by unfold BIG; simp; omega) hr
 simp only [g17_17, g17_3, g17_4, g17_10, g17_8, g17_11, g17_12, g17_13, g17_14, g17_16, g17_17b, g17, v44 w hw, Option.bind_some]
 simpa using this
theorem lic_texts {x : Lic} (z : InZ reachBytes (.pair .str (.pair (.sl (.pair (.int .i64) (.pair (.int .i64) (.pair (.sl .str) .unit)))) .unit)) x) : ∀ r ∈ x.2.1, ∀ w ∈ r.2.2.1, w.length ≤ 140737488355328 := by
 intro r hr w hw
 have h1 : w.length ≤ reachBytes := (z.2.1 r hr).2.2.1 w hw
 have := reachBytes_lt
 omega
def smallR (n : Int) (r : Rul) : Prop := (r.2.2.1.length : Int) ≤ n ∧ ∀ w ∈ r.2.2.1, (w.length : Int) ≤ n
def sameRs : List Rul → List Rul → Bool
 | [], [] => true
 | r :: rs, s :: ss => (r.1 == s.1 && (r.2.1 == s.2.1 && decide (r.2.2.1 = s.2.2.1))) && sameRs rs ss
 | _, _ => false
theorem sameRs_eq : ∀ {rs ss : List Rul}, sameRs rs ss = true → rs = ss
 | [], [], _ => rfl
 | (a, b, c, u) :: rs, (a', b', c', u') :: ss, h => by
   simp only [sameRs, Bool.and_eq_true, beq_iff_eq, decide_eq_true_eq] at h
   obtain ⟨⟨h1, h2, h3⟩, h4⟩ := h
   rw [sameRs_eq h4, h1, h2, h3]
 | [], _ :: _, h | _ :: _, [], h => by simp [sameRs] at h
theorem sameRs_refl : ∀ rs : List Rul, sameRs rs rs = true
 | [] => rfl
 | r :: rs => by simp [sameRs, sameRs_refl rs]
def sameL (x y : Lic) : Bool := decide (x.1 = y.1) && sameRs x.2.1 y.2.1
theorem sameRs_len : ∀ {rs ss : List Rul}, rs.length ≠ ss.length → sameRs rs ss = false
 | [], [], h => absurd rfl h
 | _ :: rs, _ :: ss, h => by simp only [sameRs, sameRs_len (rs := rs) (ss := ss) (by simpa using h), Bool.and_false]
 | [], _ :: _, _ | _ :: _, [], _ => rfl
theorem sameL_eq {x y : Lic} (h : sameL x y = true) : x = y := by
 obtain ⟨nm, rs, u⟩ := x
 obtain ⟨nm2, ss, u2⟩ := y
 simp only [sameL, Bool.and_eq_true, decide_eq_true_eq] at h
 rw [h.1, sameRs_eq h.2]
theorem sameL_refl (x : Lic) : sameL x x = true := by simp [sameL, sameRs_refl]
end Go.Fw.L19
