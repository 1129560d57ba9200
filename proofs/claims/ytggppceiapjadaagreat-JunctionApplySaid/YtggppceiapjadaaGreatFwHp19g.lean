/- Errors of any sounds: program and reference. -/
import Derived.Test.YtggppceiapjadaaGreatFwHp19a
set_option linter.unusedVariables false
set_option linter.unusedSimpArgs false
namespace Go.Fw.L19
open Go Go.Fw
set_option maxRecDepth 100000
set_option linter.unusedSimpArgs false
set_option linter.unusedVariables false
def wch (c : Int) : Bool := (decide (c ≥ 97) && decide (c ≤ 122)) || ((decide (c ≥ 48) && decide (c ≤ 57)) || ((c == 95) || ((c == 94) || (c == 39))))
def badt (s : List UInt8) : Bool := s.any fun b => !wch (b.toNat : Int)
theorem v100 (c : Int) : S100 2000 c = some (wch c) := by
  unfold S100 wch
  simp only [g100_0, g100_1, g100_2, g100]
  cases decide (c ≥ 97) <;> cases decide (c ≤ 122) <;> cases decide (c ≥ 48) <;> cases decide (c ≤ 57) <;> cases (c == 95) <;> cases (c == 94) <;> rfl
theorem v88 (c : Int) : S88 2000 c = some (wch c) := by
  unfold S88 wch
  simp only [g88_0, g88_1, g88_2, g88]
  cases decide (c ≥ 97) <;> cases decide (c ≤ 122) <;> cases decide (c ≥ 48) <;> cases decide (c ≤ 57) <;> cases (c == 95) <;> cases (c == 94) <;> rfl
theorem wch_big {c : Int} (h : 128 ≤ c) : wch c = false := by
  unfold wch
  have h1 : decide (c ≤ 122) = false := decide_eq_false (by omega)
  have h2 : decide (c ≤ 57) = false := decide_eq_false (by omega)
  have h3 : (c == 95) = false := by simp; omega
  have h4 : (c == 94) = false := by simp; omega
  have h5 : (c == 39) = false := by simp; omega
  rw [h1, h2, h3, h4, h5]; simp
theorem v99 (c : Int) : S99 2000 c = some (!wch c) := by
  unfold S99
  simp only [g99_0, g99_1, g99_2, g99, v100, Option.bind_some]
theorem decode_big (s : ByteArray) (i : Nat) (h : 128 ≤ (s.get! (i + 0)).toNat) : 128 ≤ (Utf8.decode s i).1 := by
  unfold Utf8.decode
  simp only [Utf8.runeError]
  rw [if_neg (by omega)]
  repeat' split
  all_goals first | (simp only; omega) | (simp only [ge_iff_le, Bool.and_eq_true, decide_eq_true_eq] at *; omega)
theorem decode_small (s : ByteArray) (i : Nat) (h : (s.get! (i + 0)).toNat < 128) : Utf8.decode s i = ((s.get! (i + 0)).toNat, 1) := by
  unfold Utf8.decode
  simp only
  rw [if_pos h]
theorem get_at (pre ys : List UInt8) (y : UInt8) : (⟨⟨pre ++ y :: ys⟩⟩ : ByteArray).get! (pre.length + 0) = y := by
  show (⟨pre ++ y :: ys⟩ : Array UInt8)[pre.length + 0]! = y
  simp
theorem lidxF (f : Int × Unit → Option Bool) (hf : ∀ c, f (c, ()) = some (!wch c)) {R : Type} (k0 : Int → Option R) (k1 : (Int × Unit → Option Bool) → Bool → List UInt8 → Nat → Bool → Int → Int → Option R) (k2 : (Int × Unit → Option Bool) → Bool → List UInt8 → Nat → Bool → Option R) (e : Option R) (hk : ∀ a b c d g, k2 a b c d g = e) :
    ∀ (ys pre : List UInt8) (m : Nat), ys.length < m →
      ∃ j : Int, 0 ≤ j ∧ l118_10 k0 k1 k2 m f true (pre ++ ys) pre.length = (if badt ys = true then k0 j else e) := by
  intro ys
  induction ys with
  | nil =>
    intro pre m hm
    cases m with
    | zero => simp at hm
    | succ m =>
      refine ⟨0, by omega, ?_⟩
      have h : decide (pre.length < (pre ++ ([] : List UInt8)).length) = false := by simp
      unfold l118_10
      simp only [g118_0, g118_1, g118_2, g118_4, g118_5, g118_6, g118_4b, g118_9, g118_10, g118_12, g118_13, g118, h, brB_false, hk, badt, List.any_nil, Bool.false_eq_true, if_false]
  | cons y ys ih =>
    intro pre m hm
    cases m with
    | zero => simp at hm
    | succ m =>
      have h : decide (pre.length < (pre ++ y :: ys).length) = true := by simp
      unfold l118_10
      simp only [g118_0, g118_1, g118_2, g118_4, g118_5, g118_6, g118_4b, g118_9, g118_10, g118_12, g118_13, g118, h, brB_true, hf, Option.bind_some]
      by_cases hy : y.toNat < 128
      · have hd : Utf8.decode ⟨⟨pre ++ y :: ys⟩⟩ pre.length = (y.toNat, 1) := by
          have := decode_small ⟨⟨pre ++ y :: ys⟩⟩ pre.length (by rw [get_at]; exact hy)
          rwa [get_at] at this
        simp only [hd]
        cases hw : wch (y.toNat : Int) with
        | false =>
          refine ⟨(pre.length : Int), by omega, ?_⟩
          have : badt (y :: ys) = true := by unfold badt; rw [List.any_cons, hw]; rfl
          simp only [Bool.not_false, beq_self_eq_true, brB_true, this, if_true]
        | true =>
          obtain ⟨j, hj, h2⟩ := ih (pre ++ [y]) m (by simpa using hm)
          refine ⟨j, hj, ?_⟩
          have e1 : badt (y :: ys) = badt ys := by unfold badt; rw [List.any_cons, hw]; rfl
          have e2 : ((!true) == true) = false := rfl
          have e3 : pre.length + 1 = (pre ++ [y]).length := by simp
          simp only [e2, brB_false]
          rw [e1, ← h2, ← app_cons pre ys y, ← e3]
      · have hd : 128 ≤ (Utf8.decode ⟨⟨pre ++ y :: ys⟩⟩ pre.length).1 := decode_big _ _ (by rw [get_at]; omega)
        have hw1 : wch ((Utf8.decode ⟨⟨pre ++ y :: ys⟩⟩ pre.length).1 : Int) = false := wch_big (by omega)
        have hw2 : wch (y.toNat : Int) = false := wch_big (by omega)
        have : badt (y :: ys) = true := by unfold badt; rw [List.any_cons, hw2]; rfl
        refine ⟨(pre.length : Int), by omega, ?_⟩
        simp only [hw1, Bool.not_false, beq_self_eq_true, brB_true, this, if_true]
theorem v98 (f : Int × Unit → Option Bool) (hf : ∀ c, f (c, ()) = some (!wch c)) (s : List UInt8) (hs : s.length < 2000) : S98 2000 s f = some (badt s) := by
  obtain ⟨j, hj, h⟩ := lidxF f hf (R := Int) some (fun _ _ _ _ _ _ _ => some (-1)) (fun _ _ _ _ _ => some (-1)) (some (-1)) (fun _ _ _ _ _ => rfl) s [] 2000 hs
  have h1 : S118 2000 s f true = (if badt s = true then some j else some (-1)) := by
    unfold S118
    simp only [g118_0, g118_1, g118_2, g118_4, g118_5, g118_6, g118_4b, g118_9, g118_10, g118_12, g118_13, g118]
    simpa using h
  have h2 : S111 2000 s f = (if badt s = true then some j else some (-1)) := by
    unfold S111
    simp only [g111_0, g111_1, g111_2, g111, h1]
    split <;> rfl
  unfold S98
  simp only [g98_0, g98_1, g98_2, g98, h2]
  cases badt s with
  | true =>
    have : decide (j ≥ 0) = true := decide_eq_true hj
    simp only [if_true, Option.bind_some, this]
  | false =>
    simp only [Bool.false_eq_true, if_false, Option.bind_some]
    rfl
def qok (s : Snd) : Bool := cond (s.1 == 1) (decide (s.2.1 ≥ 1) && decide (s.2.1 ≤ 3)) (cond (s.1 == 2) (s.2.1 == 2) (s.2.1 == 0))
def sndE (s : Snd) : Int := cond (decide (s.1 < 1)) 1 (cond (decide (s.1 > 9)) 1 (cond (!qok s) 6 (cond (s.2.2.1 == []) 7 (cond (decide ((s.2.2.1.length : Int) > 8)) 3 (cond (badt s.2.2.1) 2 0)))))
theorem v97 (s : Snd) : S97 2000 s = some (qok s) := by
  unfold S97 qok
  simp only [g97_0, g97_1, g97_2, g97_3, g97_4, g97_5, g97_9, g97_10, g97]
  cases (s.1 == 1) <;> cases (s.1 == 2) <;> cases decide (s.2.1 ≥ 1) <;> rfl
theorem vs85 (s : Snd) : S85 2000 s = some (sndE s) := by
  unfold S85 sndE
  simp only [g85_0, g85_1, g85_2, g85_3, g85_4, g85_5, g85_6, g85_7, g85_8, g85_9, g85_10, g85_17, g85_18, g85, v97, Option.bind_some]
  cases decide (s.1 < 1) with
  | true => rfl
  | false =>
    simp only [brB_false, cond_false]
    cases decide (s.1 > 9) with
    | true => rfl
    | false =>
      simp only [brB_false, cond_false]
      cases qok s with
      | false => rfl
      | true =>
        simp only [Bool.not_true, brB_false, cond_false]
        cases (s.2.2.1 == []) with
        | true => rfl
        | false =>
          simp only [brB_false, cond_false]
          cases hd : decide ((s.2.2.1.length : Int) > 8) with
          | true => rfl
          | false =>
            simp only [brB_false, cond_false]
            have hl : s.2.2.1.length ≤ 8 := by
              have := of_decide_eq_false hd
              omega
            rw [v98 _ (fun c => by simp only [v99, Option.bind_some, unE]; rfl) s.2.2.1 (by omega)]
            simp only [Option.bind_some]
            cases badt s.2.2.1 <;> rfl
theorem lvalR {R : Type} (k0 : Int → Option R) (k1 : Snd → Int → Option R) (e : Option R) (hk : ∀ a b, k1 a b = e) (a b : Int) (u : Unit) :
    ∀ (ys pre : List UInt8) (m : Nat), ys.length < m → (pre ++ ys).length ≤ BIG →
      l73_31 (S88 2000) k0 k1 m (a, b, (pre ++ ys), u) (pre.length : Int) = (if badt ys = true then k0 2 else e) := by
  intro ys
  induction ys with
  | nil =>
    intro pre m hm hb
    cases m with
    | zero => simp at hm
    | succ m =>
      unfold l73_31
      simp only [g73_0, g73_1, g73_2, g73_4, g73_5, g73_6, g73_8, g73_9, g73_10, g73_12, g73_13, g73_14, g73_16, g73_17, g73_19, g73_20, g73_22, g73_23, g73_25, g73_26, g73_29, g73_30, g73_31, g73_33, g73_34, g73, lt_nil, brB_false, hk, badt, List.any_nil, Bool.false_eq_true, if_false]
  | cons y ys ih =>
    intro pre m hm hb
    cases m with
    | zero => simp at hm
    | succ m =>
      unfold l73_31
      simp only [g73_0, g73_1, g73_2, g73_4, g73_5, g73_6, g73_8, g73_9, g73_10, g73_12, g73_13, g73_14, g73_16, g73_17, g73_19, g73_20, g73_22, g73_23, g73_25, g73_26, g73_29, g73_30, g73_31, g73_33, g73_34, g73, lt_cons, in_cons, at_cons, if_true, brB_true, v88, Option.bind_some]
      cases hw : wch (y.toNat : Int) with
      | false =>
        have : badt (y :: ys) = true := by unfold badt; rw [List.any_cons, hw]; rfl
        simp only [Bool.not_false, brB_true, this, if_true]
      | true =>
        have e1 : badt (y :: ys) = badt ys := by unfold badt; rw [List.any_cons, hw]; rfl
        simp only [Bool.not_true, brB_false, wrap_snoc pre ys y hb]
        rw [e1, app_cons pre ys y, ih (pre ++ [y]) m (by simpa using hm) (by rw [← app_cons]; exact hb)]
theorem v73 (s : Snd) : S73 2000 s = some (sndE s) := by
  unfold S73 sndE
  obtain ⟨a, b, t, u⟩ := s
  simp only [g73_0, g73_1, g73_2, g73_4, g73_5, g73_6, g73_8, g73_9, g73_10, g73_12, g73_13, g73_14, g73_16, g73_17, g73_19, g73_20, g73_22, g73_23, g73_25, g73_26, g73_29, g73_30, g73_31, g73_33, g73_34, g73]
  cases decide (a < 1) with
  | true => rfl
  | false =>
    simp only [brB_false, cond_false]
    cases decide (a > 9) with
    | true => rfl
    | false =>
      simp only [brB_false, cond_false]
      have hq : ∀ (K : Bool → Option Int), brB (a == 1) (brB (decide (b ≥ 1)) (brB (a == 2) (K (b == 2)) (K (decide (b ≤ 3)))) (brB (a == 2) (K (b == 2)) (K false))) (brB (a == 2) (K (b == 2)) (K (b == 0))) = K (qok (a, b, t, u)) := by
        intro K
        unfold qok
        by_cases h1 : a = 1
        · subst h1
          have e : ((1 : Int) == 2) = false := rfl
          have e' : ((1 : Int) == 1) = true := rfl
          simp only [e, e', brB_true, brB_false, cond_true]
          cases decide (b ≥ 1) <;> rfl
        · have e : (a == 1) = false := by simpa using h1
          simp only [e, brB_false, cond_false]
          cases (a == 2) <;> rfl
      rw [hq fun q => brB (!q) _ _]
      cases qok (a, b, t, u) with
      | false => rfl
      | true =>
        simp only [Bool.not_true, brB_false, cond_false]
        cases (t == []) with
        | true => rfl
        | false =>
          simp only [brB_false, cond_false]
          cases hd : decide ((t.length : Int) > 8) with
          | true => rfl
          | false =>
            simp only [brB_false, cond_false]
            have hl : t.length ≤ 8 := by
              have := of_decide_eq_false hd
              omega
            have := lvalR (R := Int) some (fun _ _ => some 0) (some 0) (fun _ _ => rfl) a b u t [] 2000 (by omega) (by unfold BIG; simp; omega)
            simp only [List.nil_append, List.length_nil, Int.natCast_zero] at this
            rw [this]
            cases badt t <;> rfl
def sndF : List Snd → Int
  | [] => 0
  | s :: r => cond (sndE s != 0) (sndE s) (sndF r)
def sndsE (l : List Snd) : Int := cond (decide ((l.length : Int) > 200)) 3 (sndF l)
def bothE (l r : List Snd) : Int := cond (sndsE l != 0) (sndsE l) (sndsE r)
theorem lvals {R : Type} (k0 : Int → Option R) (k1 : List Snd → Int → Int → Option R) :
    ∀ (ys pre : List Snd) (m : Nat), ys.length < m → (pre ++ ys).length ≤ BIG → (∀ a b c, k1 a b c = k0 0) →
      l60_15 (S85 2000) k0 k1 m (pre ++ ys) ((pre ++ ys).length : Int) (pre.length : Int) = k0 (sndF ys) := by
  intro ys
  induction ys with
  | nil =>
    intro pre m hm hb hk
    cases m with
    | zero => simp at hm
    | succ m =>
      unfold l60_15
      simp only [g60_0, g60_1, g60_2, g60_4, g60_5, g60_7, g60_8, g60_9, g60_10, g60_13, g60_14, g60_15, g60_17, g60_18, g60, lt_nil, brB_false, hk, sndF]
  | cons y ys ih =>
    intro pre m hm hb hk
    cases m with
    | zero => simp at hm
    | succ m =>
      unfold l60_15
      simp only [g60_0, g60_1, g60_2, g60_4, g60_5, g60_7, g60_8, g60_9, g60_10, g60_13, g60_14, g60_15, g60_17, g60_18, g60, lt_cons, in_cons, at_cons, if_true, brB_true, vs85, Option.bind_some, wrap_snoc pre ys y hb, sndF]
      cases (sndE y != 0) with
      | true => simp only [brB_true, cond_true]
      | false =>
        simp only [brB_false, cond_false]
        rw [app_cons pre ys y, ih (pre ++ [y]) m (by simpa using hm) (by rw [← app_cons]; exact hb) hk]
theorem vs60 (l : List Snd) : S60 2000 l = some (sndsE l) := by
  unfold S60 sndsE
  cases e : decide ((l.length : Int) > 200) with
  | true => simp only [g60_0, g60_1, g60_2, g60_4, g60_5, g60_7, g60_8, g60_9, g60_10, g60_13, g60_14, g60_15, g60_17, g60_18, g60, e, brB_true, cond_true]
  | false =>
    have hl : l.length ≤ 200 := by
      have := of_decide_eq_false e
      omega
    have := lvals (R := Int) some (fun _ _ _ => some 0) l [] 2000 (by omega) (by unfold BIG; simp; omega) (fun _ _ _ => rfl)
    simp only [g60_0, g60_1, g60_2, g60_4, g60_5, g60_7, g60_8, g60_9, g60_10, g60_13, g60_14, g60_15, g60_17, g60_18, g60, e, brB_false, cond_false]
    simpa using this
theorem vs33 (l r : List Snd) : S33 2000 l r = some (bothE l r) := by
  unfold S33 bothE
  simp only [g33_0, g33_1, g33_2, g33_3, g33_5, g33_6, g33, vs60, Option.bind_some]
  cases (sndsE l != 0) <;> rfl
theorem lvalsr {R : Type} (k0 : Int → Option R) (k1 : List Snd → Int → Option R) :
    ∀ (ys pre : List Snd) (m : Nat), ys.length < m → (pre ++ ys).length ≤ BIG → (∀ a b, k1 a b = k0 0) →
      l67_14 (S73 2000) k0 k1 m (pre ++ ys) (pre.length : Int) = k0 (sndF ys) := by
  intro ys
  induction ys with
  | nil =>
    intro pre m hm hb hk
    cases m with
    | zero => simp at hm
    | succ m =>
      unfold l67_14
      simp only [g67_0, g67_1, g67_2, g67_4, g67_5, g67_7, g67_8, g67_9, g67_12, g67_13, g67_14, g67_16, g67_17, g67, lt_nil, brB_false, hk, sndF]
  | cons y ys ih =>
    intro pre m hm hb hk
    cases m with
    | zero => simp at hm
    | succ m =>
      unfold l67_14
      simp only [g67_0, g67_1, g67_2, g67_4, g67_5, g67_7, g67_8, g67_9, g67_12, g67_13, g67_14, g67_16, g67_17, g67, lt_cons, in_cons, at_cons, if_true, brB_true, v73, Option.bind_some, wrap_snoc pre ys y hb, sndF]
      cases (sndE y != 0) with
      | true => simp only [brB_true, cond_true]
      | false =>
        simp only [brB_false, cond_false]
        rw [app_cons pre ys y, ih (pre ++ [y]) m (by simpa using hm) (by rw [← app_cons]; exact hb) hk]
theorem v67 (l : List Snd) : S67 2000 l = some (sndsE l) := by
  unfold S67 sndsE
  cases e : decide ((l.length : Int) > 200) with
  | true => simp only [g67_0, g67_1, g67_2, g67_4, g67_5, g67_7, g67_8, g67_9, g67_12, g67_13, g67_14, g67_16, g67_17, g67, e, brB_true, cond_true]
  | false =>
    have hl : l.length ≤ 200 := by
      have := of_decide_eq_false e
      omega
    have := lvalsr (R := Int) some (fun _ _ => some 0) l [] 2000 (by omega) (by unfold BIG; simp; omega) (fun _ _ => rfl)
    simp only [g67_0, g67_1, g67_2, g67_4, g67_5, g67_7, g67_8, g67_9, g67_12, g67_13, g67_14, g67_16, g67_17, g67, e, brB_false, cond_false]
    simpa using this
theorem v39 (l r : List Snd) : S39 2000 l r = some (bothE l r) := by
  unfold S39 bothE
  simp only [g39_0, g39_1, g39_2, g39_3, g39_5, g39_6, g39, v67, Option.bind_some]
  cases (sndsE l != 0) <;> rfl
theorem both_len {l r : List Snd} (h : bothE l r = 0) : l.length ≤ 200 ∧ r.length ≤ 200 := by
  have key : ∀ {l : List Snd}, sndsE l = 0 → l.length ≤ 200 := by
    intro l h
    unfold sndsE at h
    cases e : decide ((l.length : Int) > 200) with
    | true => rw [e] at h; cases h
    | false =>
      have := of_decide_eq_false e
      omega
  unfold bothE at h
  cases e : (sndsE l != 0) with
  | true =>
    rw [e] at h
    have h1 : sndsE l = 0 := h
    rw [h1] at e; cases e
  | false =>
    rw [e] at h
    have h1 : sndsE l = 0 := by simpa using e
    exact ⟨key h1, key h⟩
theorem lfews {R : Type} (k0 : Bool → Option R) (k1 : List Snd → Int → Option R) (hk : ∀ a b, k1 a b = k0 true) :
    ∀ (ys pre : List Snd) (m : Nat), ys.length < m → (pre ++ ys).length ≤ BIG → ∃ b, l7_13 k0 k1 m (pre ++ ys) (pre.length : Int) = k0 b := by
  intro ys
  induction ys with
  | nil =>
    intro pre m hm hb
    cases m with
    | zero => simp at hm
    | succ m =>
      refine ⟨true, ?_⟩
      unfold l7_13
      simp only [g7_0, g7_1, g7_2, g7_4, g7_5, g7_7, g7_8, g7_11, g7_12, g7_13, g7_15, g7_16, g7, lt_nil, brB_false, hk]
  | cons y ys ih =>
    intro pre m hm hb
    cases m with
    | zero => simp at hm
    | succ m =>
      unfold l7_13
      simp only [g7_0, g7_1, g7_2, g7_4, g7_5, g7_7, g7_8, g7_11, g7_12, g7_13, g7_15, g7_16, g7, lt_cons, in_cons, at_cons, if_true, brB_true]
      cases decide ((y.2.2.1.length : Int) > 40) with
      | true => exact ⟨false, by simp only [brB_true]⟩
      | false =>
        obtain ⟨b, h⟩ := ih (pre ++ [y]) m (by simpa using hm) (by rw [← app_cons]; exact hb)
        refine ⟨b, ?_⟩
        simp only [brB_false, wrap_snoc pre ys y hb]
        rw [app_cons pre ys y, h]
theorem v7 (l : List Snd) : ∃ b, S7 2000 l 210 = some b ∧ (b = true → l.length ≤ 210) := by
  unfold S7
  cases e : decide ((l.length : Int) > 210) with
  | true => exact ⟨false, by simp only [g7_0, g7_1, g7_2, g7_4, g7_5, g7_7, g7_8, g7_11, g7_12, g7_13, g7_15, g7_16, g7, e, brB_true], fun h => by cases h⟩
  | false =>
    have hl : l.length ≤ 210 := by
      have := of_decide_eq_false e
      omega
    obtain ⟨b, h⟩ := lfews (R := Bool) some (fun _ _ => some true) (fun _ _ => rfl) l [] 2000 (by omega) (by unfold BIG; simp; omega)
    refine ⟨b, ?_, fun _ => hl⟩
    simp only [g7_0, g7_1, g7_2, g7_4, g7_5, g7_7, g7_8, g7_11, g7_12, g7_13, g7_15, g7_16, g7, e, brB_false]
    simpa using h
end Go.Fw.L19
