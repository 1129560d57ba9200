/- Ends and beginnings of words, as plain functions: program and reference. -/
import Derived.Test.YtggppceiapjadaaFwMs19
import Derived.Test.YtggppceiapjadaaFwB5
set_option linter.unusedVariables false
set_option linter.unusedSimpArgs false
namespace Go.Fw.L19
open Go Go.Fw
set_option maxRecDepth 100000
set_option linter.unusedSimpArgs false
set_option linter.unusedVariables false
abbrev Snd : Type := Int × (Int × (List UInt8 × Unit))
abbrev s0 : Snd := ((0 : Int), ((0 : Int), ([], ())))
def nuc (s : Snd) : Bool := s.1 == 1 || s.1 == 2
theorem v43 (s : Snd) : S43 2000 s = some (nuc s) := by
  unfold S43
  simp only [g43_0, g43_1, g43_2, g43, nuc]
  cases h : (s.1 == (1 : Int)) <;> simp only [brB_true, brB_false, Bool.true_or, Bool.false_or]
def endsOf (l : List Snd) : Int :=
  if 0 < l.length ∧ nuc (l.getD (l.length - 1) s0) = true then 1
  else if 1 < l.length ∧ nuc (l.getD (l.length - 2) s0) = true ∧ (l.getD (l.length - 1) s0).1 = 5 ∧ (l.getD (l.length - 1) s0).2.2.1 = [109] then 2
  else 0
theorem wsub {n k : Nat} (h : k ≤ n) (hb : n ≤ BIG) : IntKind.i64.wrap ((n : Int) - (k : Int)) = ((n - k : Nat) : Int) := by
  rw [wrap_id]
  · omega
  · unfold BIG at hb; omega
theorem v14 (l : List Snd) (hb : l.length ≤ BIG) : S14 2000 l = some (endsOf l) := by
  unfold S14
  simp only [g14_0, g14_1, g14_2, g14_3, g14_4, g14_5, g14_9, g14_10, g14, v43, endsOf]
  by_cases h0 : 0 < l.length
  · have w1 := wsub (n := l.length) (k := 1) (by omega) hb
    have i1 : (0 : Int) ≤ ((l.length - 1 : Nat) : Int) ∧ ((l.length - 1 : Nat) : Int) < (l.length : Int) := by omega
    have d0 : decide ((l.length : Int) > 0) = true := by simpa using h0
    simp only [d0, brB_true, Int.natCast_one] at w1 ⊢
    rw [w1]
    simp only [if_pos i1, Int.toNat_natCast, Option.bind_some]
    cases hn : nuc (l.getD (l.length - 1) s0) with
    | true => simp only [brB_true, h0, and_self, if_true]
    | false =>
      simp only [brB_false, Bool.false_eq_true, and_false, if_false]
      by_cases h1 : 1 < l.length
      · have w2 := wsub (n := l.length) (k := 2) (by omega) hb
        have i2 : (0 : Int) ≤ ((l.length - 2 : Nat) : Int) ∧ ((l.length - 2 : Nat) : Int) < (l.length : Int) := by omega
        have d1 : decide ((l.length : Int) > 1) = true := by simp; omega
        simp only [d1, brB_true] at w2 ⊢
        rw [show ((2 : Nat) : Int) = (2 : Int) from rfl] at w2
        rw [w2]
        simp only [if_pos i2, Int.toNat_natCast, Option.bind_some]
        cases hn2 : nuc (l.getD (l.length - 2) s0) with
        | false => simp only [brB_false, Bool.false_eq_true, and_false, false_and, if_false]
        | true =>
          simp only [brB_true, h1, true_and]
          by_cases h5 : (l.getD (l.length - 1) s0).1 = 5
          · simp only [h5, beq_self_eq_true, brB_true, true_and]
            by_cases h6 : (l.getD (l.length - 1) s0).2.2.1 = [109]
            · simp only [h6, beq_self_eq_true, brB_true, if_true]
            · have : ((l.getD (l.length - 1) s0).2.2.1 == ([109] : List UInt8)) = false := by simpa using h6
              simp only [this, brB_false, h6, if_false]
          · have : ((l.getD (l.length - 1) s0).1 == (5 : Int)) = false := by simpa using h5
            simp only [this, brB_false, h5, false_and, if_false]
      · have d1 : decide ((l.length : Int) > 1) = false := decide_eq_false (by omega)
        simp only [d1, brB_false, h1, false_and, if_false]
  · have d0 : decide ((l.length : Int) > 0) = false := decide_eq_false (by omega)
    have d1 : decide ((l.length : Int) > 1) = false := decide_eq_false (by omega)
    have h1 : ¬ 1 < l.length := by omega
    simp only [d0, d1, brB_false, h0, h1, false_and, if_false]
def nb (s : Snd) : Bool := s.1 != 9
theorem v62 (s : Snd) : S62 2000 s = some (nb s) := by
  unfold S62
  simp only [g62_0, g62_1, g62_2, g62, nb]
def fidx (p : Snd → Bool) : List Snd → Nat → Int
  | [], _ => -1
  | y :: ys, i => if p y then (i : Int) else fidx p ys (i + 1)
theorem lidx (f : Snd × Unit → Option Bool) (p : Snd → Bool) (hf : ∀ s, f (s, ()) = some (p s)) {R : Type} (k0 : Int → Option R) (k1 : List Snd → (Snd × Unit → Option Bool) → Int → Int → Option R) :
    ∀ (ys pre : List Snd) (m : Nat), ys.length < m → (pre ++ ys).length ≤ BIG → (∀ a b c d, k1 a b c d = k0 (-1)) →
      l61_11 k0 k1 m (pre ++ ys) f ((pre ++ ys).length : Int) (pre.length : Int) = k0 (fidx p ys pre.length) := by
  intro ys
  induction ys with
  | nil =>
    intro pre m hm hb hk
    cases m with
    | zero => simp at hm
    | succ m =>
      unfold l61_11
      simp only [g61_0, g61_1, g61_2, g61_4, g61_5, g61_6, g61_9, g61_10, g61_11, g61_13, g61_14, g61, lt_nil, brB_false, fidx, hk]
  | cons y ys ih =>
    intro pre m hm hb hk
    cases m with
    | zero => simp at hm
    | succ m =>
      unfold l61_11
      simp only [g61_0, g61_1, g61_2, g61_4, g61_5, g61_6, g61_9, g61_10, g61_11, g61_13, g61_14, g61, lt_cons, in_cons, at_cons, if_true, brB_true, hf, Option.bind_some, fidx]
      cases p y with
      | true => simp only [brB_true, if_true]
      | false =>
        simp only [brB_false, Bool.false_eq_true, if_false, wrap_snoc pre ys y hb]
        rw [app_cons pre ys y, ih (pre ++ [y]) m (by simpa using hm) (by rw [← app_cons]; exact hb) hk]
        simp
def firstOf (l : List Snd) : Int := if fidx nb l 0 < 0 then (l.length : Int) else fidx nb l 0
theorem v61 (f : Snd × Unit → Option Bool) (p : Snd → Bool) (hf : ∀ s, f (s, ()) = some (p s)) (l : List Snd) (h : l.length < 2000) : S61 2000 l f = some (fidx p l 0) := by
  unfold S61
  have := lidx f p hf (R := Int) some (fun _ _ _ _ => some (-1)) l [] 2000 h (by unfold BIG; simp; omega) (fun _ _ _ _ => rfl)
  simp only [g61_0, g61_1, g61_2, g61_4, g61_5, g61_6, g61_9, g61_10, g61_11, g61_13, g61_14, g61]
  simpa using this
theorem v42 (l : List Snd) (h : l.length < 2000) : S42 2000 l = some (firstOf l) := by
  unfold S42
  simp only [g42_0, g42_1, g42_2, g42_3, g42_5, g42_6, g42]
  rw [v61 _ nb (fun s => by simp only [v62, Option.bind_some, unE]; rfl) l h]
  simp only [Option.bind_some, firstOf]
  by_cases h0 : fidx nb l 0 < 0
  · simp only [h0, decide_true, brB_true, if_true]
  · simp only [h0, decide_false, brB_false, if_false]
def begAt : List Snd → Nat → Int
  | [], _ => -1
  | y :: ys, i => if nuc y then (i : Int) else if nb y then -1 else begAt ys (i + 1)
def begins (l : List Snd) : Bool := decide (0 ≤ begAt l 0)
theorem fidx_ge (p : Snd → Bool) : ∀ (l : List Snd) (i : Nat), fidx p l i = -1 ∨ ((i : Int) ≤ fidx p l i ∧ fidx p l i < (i : Int) + l.length)
  | [], i => .inl rfl
  | y :: ys, i => by
    simp only [fidx]
    split
    · right; simp; omega
    · rcases fidx_ge p ys (i + 1) with h | h
      · exact .inl h
      · right; simp only [List.length_cons]; omega
theorem nuc_nb {s : Snd} (h : nuc s = true) : nb s = true := by
  unfold nuc at h; unfold nb
  simp only [Bool.or_eq_true, beq_iff_eq] at h
  simp only [bne_iff_ne, ne_eq]
  omega
theorem beg_first : ∀ (l : List Snd) (i : Nat), (begAt l i = if 0 ≤ fidx nb l i ∧ nuc (l.getD (fidx nb l i - i).toNat s0) = true then fidx nb l i else -1)
  | [], i => by simp [begAt, fidx]
  | y :: ys, i => by
    simp only [begAt, fidx]
    by_cases h1 : nuc y = true
    · simp only [h1, nuc_nb h1, if_true]
      have : (0 : Int) ≤ (i : Int) := by omega
      simp [this, h1]
    · have h1 : nuc y = false := by simpa using h1
      simp only [h1, Bool.false_eq_true, if_false]
      by_cases h2 : nb y = true
      · simp only [h2, if_true]
        simp [h1]
      · have h2 : nb y = false := by simpa using h2
        simp only [h2, Bool.false_eq_true, if_false]
        rw [beg_first ys (i + 1)]
        rcases fidx_ge nb ys (i + 1) with h | h
        · rw [h]; simp
        · have e : (fidx nb ys (i + 1) - (i : Int)).toNat = (fidx nb ys (i + 1) - ((i + 1 : Nat) : Int)).toNat + 1 := by omega
          rw [e]
          simp only [List.getD_cons_succ]
theorem v13 (l : List Snd) (h : l.length < 2000) : S13 2000 l = some (begins l) := by
  unfold S13
  simp only [g13_0, g13_1, g13_2, g13_3, g13, v42 l h, Option.bind_some, v43, begins, firstOf]
  rw [beg_first l 0]
  rcases fidx_ge nb l 0 with h0 | h0
  · rw [h0]; simp [brB_false]
  · have h1 : ¬ fidx nb l 0 < 0 := by omega
    have h2 : decide (fidx nb l 0 < (l.length : Int)) = true := by simp; omega
    have h3 : 0 ≤ fidx nb l 0 ∧ fidx nb l 0 < (l.length : Int) := by omega
    simp only [if_neg h1, h2, brB_true, if_pos h3, Option.some.injEq, h3.1, true_and, Int.natCast_zero, Int.sub_zero]
    cases nuc (l.getD (fidx nb l 0).toNat s0) with
    | true => simp [h3.1]; omega
    | false => simp; omega
end Go.Fw.L19
