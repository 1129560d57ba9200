/- law16: what the functions compute. -/
import Derived.Test.YtngkconohhikpaaFwZ16
import Derived.Test.YtngkconohhikpaaFwPL
set_option linter.unusedVariables false
set_option linter.unusedSimpArgs false
namespace Go.Fw.L16
open Go Go.Fw
set_option maxRecDepth 100000
set_option linter.unusedSimpArgs false
abbrev Op3 := Int × (Int × (Int × Unit))
theorem v11 : S11 60 = some true := by kernel_rfl

/-- the first place of what fits, from n on -/
def fi {α : Type} (p : α → Bool) : List α → Int → Int
  | [], _ => -1
  | y :: ys, n => if p y then n else fi p ys (n + 1)

theorem l35 {R : Type} (p : Op3 → Bool) (k0 : Int → Option R) (k1 : List Op3 → ((Op3 × Unit) → Option Bool) → Int → Int → Option R) (kk : Option R) (hk : ∀ a b c d, k1 a b c d = kk) : ∀ (ys pre : List Op3) (m : Nat), ys.length < m → (pre ++ ys).length ≤ BIG →
    l35_11 k0 k1 m (pre ++ ys) (fun x => some (p x.1)) ((pre ++ ys).length : Int) (pre.length : Int) = if fi p ys (pre.length : Int) = -1 then kk else k0 (fi p ys (pre.length : Int))
  | [], pre, m, hm, _ => by
    obtain ⟨m, rfl⟩ : ∃ m', m = m' + 1 := ⟨m - 1, by simp at hm; omega⟩
    simp only [l35_11, g35_0, g35_1, g35_2, g35_4, g35_5, g35_6, g35_9, g35_10, g35_11, g35_13, g35_14, g35, lt_nil, brB_false, hk, fi, if_true]
  | y :: ys, pre, m, hm, hb => by
    obtain ⟨m, rfl⟩ : ∃ m', m = m' + 1 := ⟨m - 1, by simp at hm; omega⟩
    simp only [l35_11, g35_0, g35_1, g35_2, g35_4, g35_5, g35_6, g35_9, g35_10, g35_11, g35_13, g35_14, g35, lt_cons, brB_true, if_pos (in_cons pre ys y).mpr, in_cons, if_true, at_cons, Option.bind_some, brB_ite, wrap_snoc pre ys y hb]
    by_cases hp : p y = true
    · have h0 : ¬ ((pre.length : Int) = -1) := by omega
      simp only [hp, if_true, fi, h0, if_false]
    · have hp' : p y = false := by simpa using hp
      have ih := l35 p k0 k1 kk hk ys (pre ++ [y]) m (by simp at hm; omega) (by rw [← app_cons]; exact hb)
      simp only [hp', Bool.false_eq_true, if_false, fi]
      rw [app_cons, ih, len_snoc]

theorem v35 (p : Op3 → Bool) (xs : List Op3) (h : xs.length < 60) : S35 60 xs (fun x => some (p x.1)) = some (fi p xs 0) := by
  simp only [S35, g35_0, g35_1, g35_2, g35_4, g35_5, g35_6, g35_9, g35_10, g35_11, g35_13, g35_14, g35]
  refine (l35 p _ _ (some (-1)) (fun _ _ _ _ => rfl) xs [] 60 h (by simp only [List.nil_append, BIG]; omega)).trans ?_
  split
  · rename_i e; rw [← e]; rfl
  · rfl

theorem v36 (x : Op3) (w : Int) : S36 60 x w = some (x.1 == w) := rfl

theorem v17 (xs : List Op3) (w : Int) (h : xs.length < 60) : S17 60 xs w = some (if (0 : Int) > fi (fun x => x.1 == w) xs 0 then 0 else fi (fun x => x.1 == w) xs 0, decide (fi (fun x => x.1 == w) xs 0 ≥ 0)) := by
  have e := v35 (fun x => x.1 == w) xs h
  have e2 : (fun (x : (Op3 × Unit)) => ((S36 60 x.1 w).bind fun b => some [E.v .bool b]).bind (unE .bool)) = fun x => some (x.1.1 == w) := by
    funext x; rfl
  simp only [S17, g17_0, g17_1, g17_2, g17_3, g17]
  rw [e2, e]
  rfl

theorem l18 {R : Type} (w : Int) (k0 : Int → Bool → Option R) (k1 : List Op3 → Int → Int → Option R) (kk : Option R) (hk : ∀ a b c, k1 a b c = kk) : ∀ (ys pre : List Op3) (m : Nat), ys.length < m → (pre ++ ys).length ≤ BIG →
    l18_10 k0 k1 m (pre ++ ys) w (pre.length : Int) = if fi (fun x => x.1 == w) ys (pre.length : Int) = -1 then kk else k0 (fi (fun x => x.1 == w) ys (pre.length : Int)) true
  | [], pre, m, hm, _ => by
    obtain ⟨m, rfl⟩ : ∃ m', m = m' + 1 := ⟨m - 1, by simp at hm; omega⟩
    simp only [l18_10, g18_0, g18_1, g18_2, g18_4, g18_5, g18_8, g18_9, g18_10, g18_12, g18_13, g18, lt_nil, brB_false, hk, fi, if_true]
  | y :: ys, pre, m, hm, hb => by
    obtain ⟨m, rfl⟩ : ∃ m', m = m' + 1 := ⟨m - 1, by simp at hm; omega⟩
    simp only [l18_10, g18_0, g18_1, g18_2, g18_4, g18_5, g18_8, g18_9, g18_10, g18_12, g18_13, g18, lt_cons, brB_true, in_cons, if_true, at_cons, Option.bind_some, brB_ite, wrap_snoc pre ys y hb]
    by_cases hp : (y.1 == w) = true
    · have h0 : ¬ ((pre.length : Int) = -1) := by omega
      simp only [hp, if_true, fi, h0, if_false]
    · have hp' : (y.1 == w) = false := by simpa using hp
      have ih := l18 w k0 k1 kk hk ys (pre ++ [y]) m (by simp at hm; omega) (by rw [← app_cons]; exact hb)
      simp only [hp', Bool.false_eq_true, if_false, fi]
      rw [app_cons, ih, len_snoc]

theorem v18 (xs : List Op3) (w : Int) (h : xs.length < 60) : S18 60 xs w = some (if fi (fun x => x.1 == w) xs 0 = -1 then (0, false) else (fi (fun x => x.1 == w) xs 0, true)) := by
  simp only [S18, g18_0, g18_1, g18_2, g18_4, g18_5, g18_8, g18_9, g18_10, g18_12, g18_13, g18]
  refine (l18 w _ _ (some (0, false)) (fun _ _ _ => rfl) xs [] 60 h (by simp only [List.nil_append, BIG]; omega)).trans ?_
  split
  · rename_i e
    have e' : fi (fun x => x.1 == w) xs 0 = -1 := e
    rw [if_pos e']
  · rename_i e
    have e' : ¬ fi (fun x => x.1 == w) xs 0 = -1 := e
    rw [if_neg e']; rfl

theorem fi_any {p : Op3 → Bool} : ∀ (xs : List Op3) (n : Int), 0 ≤ n → (fi p xs n = -1 ∧ xs.any p = false) ∨ (0 ≤ fi p xs n ∧ xs.any p = true)
  | [], n, _ => .inl ⟨rfl, rfl⟩
  | y :: ys, n, h => by
    simp only [fi, List.any_cons]
    by_cases hp : p y = true
    · simp only [hp, if_true, Bool.true_or]; exact .inr ⟨h, trivial⟩
    · have hp' : p y = false := by simpa using hp
      simp only [hp', Bool.false_eq_true, if_false, Bool.false_or]
      exact fi_any ys (n + 1) (by omega)

/-- the weights that options have -/
def wt (xs : List Op3) : Int := (if xs.any (fun x => x.1 == 1) then 1 else 0) + (if xs.any (fun x => x.1 == 2) then 2 else 0)

def w1 (x : Op3) (w : Int) : Int := if x.1 == 1 || x.1 == 2 then Go.bits .or IntKind.i64 w x.1 else w
theorem l19 {R : Type} (k0 : Int → List Op3 → Int → Int → Option R) (kk : Int → Option R) (hk : ∀ a b c d, k0 a b c d = kk a) : ∀ (ys pre : List Op3) (w : Int) (m : Nat), ys.length < m → (pre ++ ys).length ≤ BIG →
    l19_12 k0 m w (pre ++ ys) ((pre ++ ys).length : Int) (pre.length : Int) = kk (ys.foldl (fun w x => w1 x w) w)
  | [], pre, w, m, hm, _ => by
    obtain ⟨m, rfl⟩ : ∃ m', m = m' + 1 := ⟨m - 1, by simp at hm; omega⟩
    simp only [l19_12, g19_0, g19_1, g19_2, g19_3, g19_5, g19_6, g19_7, g19_9, g19_10, g19_11, g19_12, g19_14, g19_15, g19, lt_nil, brB_false, hk, List.foldl_nil]
  | y :: ys, pre, w, m, hm, hb => by
    obtain ⟨m, rfl⟩ : ∃ m', m = m' + 1 := ⟨m - 1, by simp at hm; omega⟩
    have ih := fun w' => l19 k0 kk hk ys (pre ++ [y]) w' m (by simp at hm; omega) (by rw [← app_cons]; exact hb)
    simp only [l19_12, g19_0, g19_1, g19_2, g19_3, g19_5, g19_6, g19_7, g19_9, g19_10, g19_11, g19_12, g19_14, g19_15, g19, lt_cons, brB_true, in_cons, if_true, at_cons, Option.bind_some, brB_ite, wrap_snoc pre ys y hb, List.foldl_cons]
    rw [app_cons, ih, ih]
    show _ = kk (ys.foldl (fun w x => w1 x w) (if y.1 == 1 || y.1 == 2 then Go.bits .or IntKind.i64 w y.1 else w))
    cases h1 : (y.1 == (1 : Int)) <;> cases h2 : (y.1 == (2 : Int)) <;> rfl

theorem fold_wt : ∀ (xs : List Op3) (a b : Bool), xs.foldl (fun w x => w1 x w) ((if a then 1 else 0) + (if b then 2 else 0)) = (if a || xs.any (fun x => x.1 == 1) then 1 else 0) + (if b || xs.any (fun x => x.1 == 2) then 2 else 0)
  | [], a, b => by simp
  | x :: xs, a, b => by
    obtain ⟨n, x2⟩ := x
    have e : w1 (n, x2) ((if a then 1 else 0) + (if b then 2 else 0)) = (if a || n == 1 then 1 else 0) + (if b || n == 2 then 2 else 0) := by
      unfold w1
      by_cases h1 : n = 1
      · subst h1; cases a <;> cases b <;> kernel_rfl
      · by_cases h2 : n = 2
        · subst h2; cases a <;> cases b <;> kernel_rfl
        · have e1 : (n == 1) = false := by simpa using h1
          have e2 : (n == 2) = false := by simpa using h2
          simp only [e1, e2, Bool.or_false, Bool.false_eq_true, if_false]
    rw [List.foldl_cons, e, fold_wt xs, List.any_cons, List.any_cons, Bool.or_assoc, Bool.or_assoc]

theorem v19 (xs : List Op3) (h : xs.length < 60) : S19 60 xs = some (wt xs) := by
  simp only [S19, g19_0, g19_1, g19_2, g19_3, g19_5, g19_6, g19_7, g19_9, g19_10, g19_11, g19_12, g19_14, g19_15, g19]
  refine (l19 _ (fun a => some a) (fun _ _ _ _ => rfl) xs [] 0 60 h (by simp only [List.nil_append, BIG]; omega)).trans ?_
  have := fold_wt xs false false
  simp only [Bool.false_eq_true, if_false, Bool.false_or] at this
  exact congrArg some this

theorem l20 {R : Type} (k0 : List Op3 → Int → Int → Int → Option R) (kk : Int → Int → Option R) (hk : ∀ a b c d, k0 a b c d = kk b c) : ∀ (ys pre : List Op3) (a b : Int) (m : Nat), ys.length < m → (pre ++ ys).length ≤ BIG →
    l20_15 k0 m (pre ++ ys) a b (pre.length : Int) = kk (if ys.any (fun x => x.1 == 1) then 1 else a) (if ys.any (fun x => x.1 == 2) then 2 else b)
  | [], pre, a, b, m, hm, _ => by
    obtain ⟨m, rfl⟩ : ∃ m', m = m' + 1 := ⟨m - 1, by simp at hm; omega⟩
    simp only [l20_15, g20_0, g20_1, g20_2, g20_3, g20_5, g20_6, g20_8, g20_9, g20_10, g20_12, g20_13, g20_14, g20_15, g20_17, g20_18, g20, lt_nil, brB_false, hk, List.any_nil, Bool.false_eq_true, if_false]
  | y :: ys, pre, a, b, m, hm, hb => by
    obtain ⟨m, rfl⟩ : ∃ m', m = m' + 1 := ⟨m - 1, by simp at hm; omega⟩
    have ih := fun a b => l20 k0 kk hk ys (pre ++ [y]) a b m (by simp at hm; omega) (by rw [← app_cons]; exact hb)
    simp only [l20_15, g20_0, g20_1, g20_2, g20_3, g20_5, g20_6, g20_8, g20_9, g20_10, g20_12, g20_13, g20_14, g20_15, g20_17, g20_18, g20, lt_cons, brB_true, in_cons, if_true, at_cons, Option.bind_some, brB_ite, wrap_snoc pre ys y hb, List.any_cons]
    rw [app_cons pre ys y]
    simp only [ih]
    rcases Bool.eq_false_or_eq_true (y.1 == (1 : Int)) with h1 | h1 <;> rcases Bool.eq_false_or_eq_true (y.1 == (2 : Int)) with h2 | h2 <;> simp only [h1, h2, Bool.true_or, Bool.false_or, Bool.false_eq_true, if_true, if_false, ite_self]

theorem v20 (xs : List Op3) (h : xs.length < 60) : S20 60 xs = some (wt xs) := by
  simp only [S20, g20_0, g20_1, g20_2, g20_3, g20_5, g20_6, g20_8, g20_9, g20_10, g20_12, g20_13, g20_14, g20_15, g20_17, g20_18, g20]
  refine (l20 _ (fun a b => some (IntKind.i64.wrap (a + b))) (fun _ _ _ _ => rfl) xs [] 0 0 60 h (by simp only [List.nil_append, BIG]; omega)).trans ?_
  unfold wt
  cases xs.any (fun x => x.1 == 1) <;> cases xs.any (fun x => x.1 == 2) <;> kernel_rfl

theorem l42 {R : Type} (w : Int) (k0 : Int → Option R) (k1 : List Int → Int → Int → Int → Option R) (kk : Option R) (hk : ∀ a b c d, k1 a b c d = kk) : ∀ (ys pre : List Int) (m : Nat), ys.length < m → (pre ++ ys).length ≤ BIG →
    l42_11 k0 k1 m (pre ++ ys) w ((pre ++ ys).length : Int) (pre.length : Int) = if fi (fun x => w == x) ys (pre.length : Int) = -1 then kk else k0 (fi (fun x => w == x) ys (pre.length : Int))
  | [], pre, m, hm, _ => by
    obtain ⟨m, rfl⟩ : ∃ m', m = m' + 1 := ⟨m - 1, by simp at hm; omega⟩
    simp only [l42_11, g42_0, g42_1, g42_2, g42_4, g42_5, g42_6, g42_9, g42_10, g42_11, g42_13, g42_14, g42, lt_nil, brB_false, hk, fi, if_true]
  | y :: ys, pre, m, hm, hb => by
    obtain ⟨m, rfl⟩ : ∃ m', m = m' + 1 := ⟨m - 1, by simp at hm; omega⟩
    simp only [l42_11, g42_0, g42_1, g42_2, g42_4, g42_5, g42_6, g42_9, g42_10, g42_11, g42_13, g42_14, g42, lt_cons, brB_true, in_cons, if_true, at_cons, Option.bind_some, brB_ite, wrap_snoc pre ys y hb]
    by_cases hp : (w == y) = true
    · have h0 : ¬ ((pre.length : Int) = -1) := by omega
      simp only [hp, if_true, fi, h0, if_false]
    · have hp' : (w == y) = false := by simpa using hp
      have ih := l42 w k0 k1 kk hk ys (pre ++ [y]) m (by simp at hm; omega) (by rw [← app_cons]; exact hb)
      simp only [hp', Bool.false_eq_true, if_false, fi]
      rw [app_cons, ih, len_snoc]

theorem fi_anyI {p : Int → Bool} : ∀ (xs : List Int) (n : Int), 0 ≤ n → (fi p xs n = -1 ∧ xs.any p = false) ∨ (0 ≤ fi p xs n ∧ xs.any p = true)
  | [], n, _ => .inl ⟨rfl, rfl⟩
  | y :: ys, n, h => by
    simp only [fi, List.any_cons]
    by_cases hp : p y = true
    · simp only [hp, if_true, Bool.true_or]; exact .inr ⟨h, trivial⟩
    · have hp' : p y = false := by simpa using hp
      simp only [hp', Bool.false_eq_true, if_false, Bool.false_or]
      exact fi_anyI ys (n + 1) (by omega)

theorem v42 (xs : List Int) (w : Int) (h : xs.length < 60) : S42 60 xs w = some (fi (fun x => w == x) xs 0) := by
  simp only [S42, g42_0, g42_1, g42_2, g42_4, g42_5, g42_6, g42_9, g42_10, g42_11, g42_13, g42_14, g42]
  refine (l42 w _ _ (some (-1)) (fun _ _ _ _ => rfl) xs [] 60 h (by simp only [List.nil_append, BIG]; omega)).trans ?_
  split
  · rename_i e; rw [← e]; rfl
  · rfl

theorem v40 (xs : List Int) (w : Int) (h : xs.length < 60) : S40 60 xs w = some (xs.any fun x => w == x) := by
  simp only [S40, g40_0, g40_1, g40_2, g40, v42 xs w h, Option.bind_some]
  rcases fi_anyI (p := fun x => w == x) xs 0 (by omega) with ⟨q, q2⟩ | ⟨q, q2⟩
  · rw [q, q2]; rfl
  · rw [q2]; simpa using q

theorem l41 {R : Type} (w : Int) (k0 : Bool → Option R) (k1 : List Int → Int → Int → Option R) (kk : Option R) (hk : ∀ a b c, k1 a b c = kk) : ∀ (ys pre : List Int) (m : Nat), ys.length < m → (pre ++ ys).length ≤ BIG →
    l41_10 k0 k1 m (pre ++ ys) w (pre.length : Int) = if ys.any (fun x => x == w) then k0 true else kk
  | [], pre, m, hm, _ => by
    obtain ⟨m, rfl⟩ : ∃ m', m = m' + 1 := ⟨m - 1, by simp at hm; omega⟩
    simp only [l41_10, g41_0, g41_1, g41_2, g41_4, g41_5, g41_8, g41_9, g41_10, g41_12, g41_13, g41, lt_nil, brB_false, hk, List.any_nil, Bool.false_eq_true, if_false]
  | y :: ys, pre, m, hm, hb => by
    obtain ⟨m, rfl⟩ : ∃ m', m = m' + 1 := ⟨m - 1, by simp at hm; omega⟩
    have ih := l41 w k0 k1 kk hk ys (pre ++ [y]) m (by simp at hm; omega) (by rw [← app_cons]; exact hb)
    simp only [l41_10, g41_0, g41_1, g41_2, g41_4, g41_5, g41_8, g41_9, g41_10, g41_12, g41_13, g41, lt_cons, brB_true, in_cons, if_true, at_cons, Option.bind_some, brB_ite, wrap_snoc pre ys y hb, List.any_cons]
    rw [app_cons pre ys y, ih]
    rcases Bool.eq_false_or_eq_true (y == w) with h1 | h1 <;> simp only [h1, Bool.true_or, Bool.false_or, Bool.false_eq_true, if_true, if_false]

theorem v41 (xs : List Int) (w : Int) (h : xs.length < 60) : S41 60 xs w = some (xs.any fun x => x == w) := by
  simp only [S41, g41_0, g41_1, g41_2, g41_4, g41_5, g41_8, g41_9, g41_10, g41_12, g41_13, g41]
  refine (l41 w _ _ (some false) (fun _ _ _ => rfl) xs [] 60 h (by simp only [List.nil_append, BIG]; omega)).trans ?_
  cases xs.any (fun x => x == w) <;> rfl

/-- an option that kinds allow -/
def alw (ks : List Int) (x : Op3) : Bool := x.2.2.1 == 0 || ks.any fun k => x.2.2.1 == k

theorem l25 {R : Type} (ks : List Int) (hks : ks.length < 60) (k0 : List Int → List Op3 → List Op3 → Int → Int → Option R) (kk : List Op3 → Option R) (hk : ∀ a b c d e, k0 a b c d e = kk b) : ∀ (ys pre out : List Op3) (m : Nat), ys.length < m → (pre ++ ys).length ≤ BIG → out.length + ys.length ≤ 1000000 →
    l25_12 (S40 60) k0 m ks out (pre ++ ys) ((pre ++ ys).length : Int) (pre.length : Int) = kk (out ++ ys.filter (alw ks))
  | [], pre, out, m, hm, _, _ => by
    obtain ⟨m, rfl⟩ : ∃ m', m = m' + 1 := ⟨m - 1, by simp at hm; omega⟩
    simp only [l25_12, g25_0, g25_1, g25_2, g25_3, g25_5, g25_6, g25_7, g25_9, g25_10, g25_11, g25_12, g25_14, g25_15, g25, lt_nil, brB_false, hk, List.filter_nil]
    simp only [List.append_nil]
  | y :: ys, pre, out, m, hm, hb, ho => by
    obtain ⟨m, rfl⟩ : ∃ m', m = m' + 1 := ⟨m - 1, by simp at hm; omega⟩
    have ih := fun out h => l25 ks hks k0 kk hk ys (pre ++ [y]) out m (by simp at hm; omega) (by rw [← app_cons]; exact hb) h
    have c1 : out.length + [y].length ≤ 5864062014805 := by simp only [List.length_cons, List.length_nil] at ho ⊢; omega
    simp only [l25_12, g25_0, g25_1, g25_2, g25_3, g25_5, g25_6, g25_7, g25_9, g25_10, g25_11, g25_12, g25_14, g25_15, g25, lt_cons, brB_true, in_cons, if_true, at_cons, v40 ks _ hks, Option.bind_some, brB_ite, wrap_snoc pre ys y hb, c1, List.filter_cons]
    rw [app_cons pre ys y, ih out (by simp only [List.length_cons] at ho; omega), ih (out ++ [y]) (by simp only [List.length_cons, List.length_append, List.length_nil] at ho ⊢; omega)]
    unfold alw
    rcases Bool.eq_false_or_eq_true (y.2.2.1 == (0 : Int)) with h1 | h1 <;> rcases Bool.eq_false_or_eq_true (ks.any fun k => y.2.2.1 == k) with h2 | h2 <;> simp only [h1, h2, Bool.true_or, Bool.false_or, Bool.or_true, Bool.or_false, Bool.false_eq_true, if_true, if_false, List.append_assoc, List.singleton_append]

theorem v25 (xs : List Op3) (ks : List Int) (h : xs.length < 60) (hks : ks.length < 60) : S25 60 xs ks = some (xs.filter (alw ks)) := by
  simp only [S25, g25_0, g25_1, g25_2, g25_3, g25_5, g25_6, g25_7, g25_9, g25_10, g25_11, g25_12, g25_14, g25_15, g25]
  exact l25 ks hks _ (fun b => some b) (fun _ _ _ _ _ => rfl) xs [] [] 60 h (by simp only [List.nil_append, BIG]; omega) (by simp only [List.length_nil]; omega)

theorem l29 {R : Type} (ks : List Int) (hks : ks.length < 60) (k0 : List Op3 → List Int → List Op3 → Int → Option R) (kk : List Op3 → Option R) (hk : ∀ a b c d, k0 a b c d = kk c) : ∀ (ys pre out : List Op3) (m : Nat), ys.length < m → (pre ++ ys).length ≤ BIG → out.length + ys.length ≤ 1000000 →
    l29_11 (S41 60) k0 m (pre ++ ys) ks out (pre.length : Int) = kk (out ++ ys.filter (alw ks))
  | [], pre, out, m, hm, _, _ => by
    obtain ⟨m, rfl⟩ : ∃ m', m = m' + 1 := ⟨m - 1, by simp at hm; omega⟩
    simp only [l29_11, g29_0, g29_1, g29_2, g29_3, g29_5, g29_6, g29_8, g29_9, g29_10, g29_11, g29_13, g29_14, g29, lt_nil, brB_false, hk, List.filter_nil]
    simp only [List.append_nil]
  | y :: ys, pre, out, m, hm, hb, ho => by
    obtain ⟨m, rfl⟩ : ∃ m', m = m' + 1 := ⟨m - 1, by simp at hm; omega⟩
    have ih := fun out h => l29 ks hks k0 kk hk ys (pre ++ [y]) out m (by simp at hm; omega) (by rw [← app_cons]; exact hb) h
    have c1 : out.length + [y].length ≤ 5864062014805 := by simp only [List.length_cons, List.length_nil] at ho ⊢; omega
    have e1 : (ks.any fun x => x == y.2.2.1) = (ks.any fun k => y.2.2.1 == k) := by congr 1; funext k; exact Bool.beq_comm
    simp only [l29_11, g29_0, g29_1, g29_2, g29_3, g29_5, g29_6, g29_8, g29_9, g29_10, g29_11, g29_13, g29_14, g29, lt_cons, brB_true, in_cons, if_true, at_cons, v41 ks _ hks, e1, Option.bind_some, brB_ite, wrap_snoc pre ys y hb, c1, List.filter_cons]
    rw [app_cons pre ys y, ih out (by simp only [List.length_cons] at ho; omega), ih (out ++ [y]) (by simp only [List.length_cons, List.length_append, List.length_nil] at ho ⊢; omega)]
    unfold alw
    rcases Bool.eq_false_or_eq_true (y.2.2.1 == (0 : Int)) with h1 | h1 <;> rcases Bool.eq_false_or_eq_true (ks.any fun k => y.2.2.1 == k) with h2 | h2 <;> simp only [h1, h2, Bool.true_or, Bool.false_or, Bool.or_true, Bool.or_false, Bool.false_eq_true, if_true, if_false, List.append_assoc, List.singleton_append]

theorem v29 (xs : List Op3) (ks : List Int) (h : xs.length < 60) (hks : ks.length < 60) : S29 60 xs ks = some (xs.filter (alw ks)) := by
  simp only [S29, g29_0, g29_1, g29_2, g29_3, g29_5, g29_6, g29_8, g29_9, g29_10, g29_11, g29_13, g29_14, g29]
  exact l29 ks hks _ (fun c => some c) (fun _ _ _ _ => rfl) xs [] [] 60 h (by simp only [List.nil_append, BIG]; omega) (by simp only [List.length_nil]; omega)

theorem l14 {R : Type} (k0 : Bool → Option R) (k1 : List Op3 → List Op3 → Int → Option R) (kk : Option R) (hk : ∀ a b c, k1 a b c = kk) : ∀ (ys pre : List Op3) (m : Nat), ys.length < m → (pre ++ ys).length ≤ BIG →
    l14_13 k0 k1 m (pre ++ ys) (pre ++ ys) (pre.length : Int) = kk
  | [], pre, m, hm, _ => by
    obtain ⟨m, rfl⟩ : ∃ m', m = m' + 1 := ⟨m - 1, by simp at hm; omega⟩
    simp only [l14_13, g14_0, g14_1, g14_2, g14_4, g14_5, g14_7, g14_8, g14_11, g14_12, g14_13, g14_15, g14_16, g14, lt_nil, brB_false, hk]
  | y :: ys, pre, m, hm, hb => by
    obtain ⟨m, rfl⟩ : ∃ m', m = m' + 1 := ⟨m - 1, by simp at hm; omega⟩
    have ih := l14 k0 k1 kk hk ys (pre ++ [y]) m (by simp at hm; omega) (by rw [← app_cons]; exact hb)
    simp only [l14_13, g14_0, g14_1, g14_2, g14_4, g14_5, g14_7, g14_8, g14_11, g14_12, g14_13, g14_15, g14_16, g14, lt_cons, brB_true, in_cons, if_true, at_cons, Option.bind_some, wrap_snoc pre ys y hb, beq_self_eq_true, Bool.and_true, Bool.not_true, brB_false]
    rw [app_cons pre ys y, ih]

theorem v14 (xs : List Op3) (h : xs.length < 60) : S14 60 xs xs = some true := by
  simp only [S14, g14_0, g14_1, g14_2, g14_4, g14_5, g14_7, g14_8, g14_11, g14_12, g14_13, g14_15, g14_16, g14, bne_self_eq_false, brB_false]
  exact l14 _ _ (some true) (fun _ _ _ => rfl) xs [] 60 h (by simp only [List.nil_append, BIG]; omega)
end Go.Fw.L16
