/- Errors of any sounds: program and reference. -/
import Derived.Test.YtggppceiapjadaaFwHs19a
set_option linter.unusedVariables false
set_option linter.unusedSimpArgs false
namespace Go.Fw.L19
open Go Go.Fw
set_option maxRecDepth 100000
set_option linter.unusedSimpArgs false
set_option linter.unusedVariables false
def wch (c : Int) : Bool := (decide (c ≥ 97) && decide (c ≤ 122)) || ((decide (c ≥ 48) && decide (c ≤ 57)) || ((c == 95) || ((c == 94) || (c == 39))))
def badt (s : List UInt8) : Bool := s.any fun b => !wch (b.toNat : Int)
theorem v93 (c : Int) : S93 2000 c = some (wch c) := by
  unfold S93 wch
  simp only [g93_0, g93_1, g93_2, g93]
  cases decide (c ≥ 97) <;> cases decide (c ≤ 122) <;> cases decide (c ≥ 48) <;> cases decide (c ≤ 57) <;> cases (c == 95) <;> cases (c == 94) <;> rfl
theorem wch_big {c : Int} (h : 128 ≤ c) : wch c = false := by
  unfold wch
  have h1 : decide (c ≤ 122) = false := decide_eq_false (by omega)
  have h2 : decide (c ≤ 57) = false := decide_eq_false (by omega)
  have h3 : (c == 95) = false := by simp; omega
  have h4 : (c == 94) = false := by simp; omega
  have h5 : (c == 39) = false := by simp; omega
  rw [h1, h2, h3, h4, h5]; simp
theorem v92 (c : Int) : S92 2000 c = some (!wch c) := by
  unfold S92
  simp only [g92_0, g92_1, g92_2, g92, v93, Option.bind_some]
theorem decode_big (s : ByteArray) (i : Nat) (h : 128 ≤ (s.get! (i + 0)).toNat) : 128 ≤ (Utf8.decode s i).1 := by
  unfold Utf8.decode
  simp only [Utf8.runeError]
  rw [if_neg (by omega)]
  repeat' split
  all_goals first | (simp only; omega) | (simp only [ge_iff_le, Bool.and_eq_true, decide_eq_true_eq] at *; omega)
theorem decode_small (s : ByteArray) (i : Nat) (h : (s.get! (i + 0)).toNat < 128) : Utf8.decode s i = ((s.get! (i + 0)).toNat, 1) := by
  unfold Utf8.decode
  simp only
  rw [if_pos h]
theorem get_at (pre ys : List UInt8) (y : UInt8) : (⟨⟨pre ++ y :: ys⟩⟩ : ByteArray).get! (pre.length + 0) = y := by
  show (⟨pre ++ y :: ys⟩ : Array UInt8)[pre.length + 0]! = y
  simp
theorem lidxF (f : Int × Unit → Option Bool) (hf : ∀ c, f (c, ()) = some (!wch c)) {R : Type} (k0 : Int → Option R) (k1 : (Int × Unit → Option Bool) → Bool → List UInt8 → Nat → Bool → Int → Int → Option R) (k2 : (Int × Unit → Option Bool) → Bool → List UInt8 → Nat → Bool → Option R) (e : Option R) (hk : ∀ a b c d g, k2 a b c d g = e) :
    ∀ (ys pre : List UInt8) (m : Nat), ys.length < m →
      ∃ j : Int, 0 ≤ j ∧ l108_10 k0 k1 k2 m f true (pre ++ ys) pre.length = (if badt ys = true then k0 j else e) := by
  intro ys
  induction ys with
  | nil =>
    intro pre m hm
    cases m with
    | zero => simp at hm
    | succ m =>
      refine ⟨0, by omega, ?_⟩
      have h : decide (pre.length < (pre ++ ([] : List UInt8)).length) = false := by simp
      unfold l108_10
      simp only [g108_0, g108_1, g108_2, g108_4, g108_5, g108_6, g108_4b, g108_9, g108_10, g108_12, g108_13, g108, h, brB_false, hk, badt, List.any_nil, Bool.false_eq_true, if_false]
  | cons y ys ih =>
    intro pre m hm
    cases m with
    | zero => simp at hm
    | succ m =>
      have h : decide (pre.length < (pre ++ y :: ys).length) = true := by simp
      unfold l108_10
      simp only [g108_0, g108_1, g108_2, g108_4, g108_5, g108_6, g108_4b, g108_9, g108_10, g108_12, g108_13, g108, h, brB_true, hf, Option.bind_some]
      by_cases hy : y.toNat < 128
      · have hd : Utf8.decode ⟨⟨pre ++ y :: ys⟩⟩ pre.length = (y.toNat, 1) := by
          have := decode_small ⟨⟨pre ++ y :: ys⟩⟩ pre.length (by rw [get_at]; exact hy)
          rwa [get_at] at this
        simp only [hd]
        cases hw : wch (y.toNat : Int) with
        | false =>
          refine ⟨(pre.length : Int), by omega, ?_⟩
          have : badt (y :: ys) = true := by unfold badt; rw [List.any_cons, hw]; rfl
          simp only [Bool.not_false, beq_self_eq_true, brB_true, this, if_true]
        | true =>
          obtain ⟨j, hj, h2⟩ := ih (pre ++ [y]) m (by simpa using hm)
          refine ⟨j, hj, ?_⟩
          have e1 : badt (y :: ys) = badt ys := by unfold badt; rw [List.any_cons, hw]; rfl
          have e2 : ((!true) == true) = false := rfl
          have e3 : pre.length + 1 = (pre ++ [y]).length := by simp
          simp only [e2, brB_false]
          rw [e1, ← h2, ← app_cons pre ys y, ← e3]
      · have hd : 128 ≤ (Utf8.decode ⟨⟨pre ++ y :: ys⟩⟩ pre.length).1 := decode_big _ _ (by rw [get_at]; omega)
        have hw1 : wch ((Utf8.decode ⟨⟨pre ++ y :: ys⟩⟩ pre.length).1 : Int) = false := wch_big (by omega)
        have hw2 : wch (y.toNat : Int) = false := wch_big (by omega)
        have : badt (y :: ys) = true := by unfold badt; rw [List.any_cons, hw2]; rfl
        refine ⟨(pre.length : Int), by omega, ?_⟩
        simp only [hw1, Bool.not_false, beq_self_eq_true, brB_true, this, if_true]
theorem v91 (f : Int × Unit → Option Bool) (hf : ∀ c, f (c, ()) = some (!wch c)) (s : List UInt8) (hs : s.length < 2000) : S91 2000 s f = some (badt s) := by
  obtain ⟨j, hj, h⟩ := lidxF f hf (R := Int) some (fun _ _ _ _ _ _ _ => some (-1)) (fun _ _ _ _ _ => some (-1)) (some (-1)) (fun _ _ _ _ _ => rfl) s [] 2000 hs
  have h1 : S108 2000 s f true = (if badt s = true then some j else some (-1)) := by
    unfold S108
    simp only [g108_0, g108_1, g108_2, g108_4, g108_5, g108_6, g108_4b, g108_9, g108_10, g108_12, g108_13, g108]
    simpa using h
  have h2 : S101 2000 s f = (if badt s = true then some j else some (-1)) := by
    unfold S101
    simp only [g101_0, g101_1, g101_2, g101, h1]
    split <;> rfl
  unfold S91
  simp only [g91_0, g91_1, g91_2, g91, h2]
  cases badt s with
  | true =>
    have : decide (j ≥ 0) = true := decide_eq_true hj
    simp only [if_true, Option.bind_some, this]
  | false =>
    simp only [Bool.false_eq_true, if_false, Option.bind_some]
    rfl
def qok (s : Snd) : Bool := cond (s.1 == 1) (decide (s.2.1 ≥ 1) && decide (s.2.1 ≤ 3)) (cond (s.1 == 2) (s.2.1 == 2) (s.2.1 == 0))
def sndE (s : Snd) : Int := cond (decide (s.1 < 1)) 1 (cond (decide (s.1 > 9)) 1 (cond (!qok s) 6 (cond (s.2.2.1 == []) 7 (cond (decide ((s.2.2.1.length : Int) > 8)) 3 (cond (badt s.2.2.1) 2 0)))))
theorem v90 (s : Snd) : S90 2000 s = some (qok s) := by
  unfold S90 qok
  simp only [g90_0, g90_1, g90_2, g90_3, g90_4, g90_5, g90_9, g90_10, g90]
  cases (s.1 == 1) <;> cases (s.1 == 2) <;> cases decide (s.2.1 ≥ 1) <;> rfl
theorem vs75 (s : Snd) : S75 2000 s = some (sndE s) := by
  unfold S75 sndE
  simp only [g75_0, g75_1, g75_2, g75_3, g75_4, g75_5, g75_6, g75_7, g75_8, g75_9, g75_10, g75_17, g75_18, g75, v90, Option.bind_some]
  cases decide (s.1 < 1) with
  | true => rfl
  | false =>
    simp only [brB_false, cond_false]
    cases decide (s.1 > 9) with
    | true => rfl
    | false =>
      simp only [brB_false, cond_false]
      cases qok s with
      | false => rfl
      | true =>
        simp only [Bool.not_true, brB_false, cond_false]
        cases (s.2.2.1 == []) with
        | true => rfl
        | false =>
          simp only [brB_false, cond_false]
          cases hd : decide ((s.2.2.1.length : Int) > 8) with
          | true => rfl
          | false =>
            simp only [brB_false, cond_false]
            have hl : s.2.2.1.length ≤ 8 := by
              have := of_decide_eq_false hd
              omega
            rw [v91 _ (fun c => by simp only [v92, Option.bind_some, unE]; rfl) s.2.2.1 (by omega)]
            simp only [Option.bind_some]
            cases badt s.2.2.1 <;> rfl
def sndF : List Snd → Int
  | [] => 0
  | s :: r => cond (sndE s != 0) (sndE s) (sndF r)
def sndsE (l : List Snd) : Int := cond (decide ((l.length : Int) > 200)) 3 (sndF l)
def bothE (l r : List Snd) : Int := cond (sndsE l != 0) (sndsE l) (sndsE r)
theorem lvals {R : Type} (k0 : Int → Option R) (k1 : List Snd → Int → Int → Option R) :
    ∀ (ys pre : List Snd) (m : Nat), ys.length < m → (pre ++ ys).length ≤ BIG → (∀ a b c, k1 a b c = k0 0) →
      l55_15 (S75 2000) k0 k1 m (pre ++ ys) ((pre ++ ys).length : Int) (pre.length : Int) = k0 (sndF ys) := by
  intro ys
  induction ys with
  | nil =>
    intro pre m hm hb hk
    cases m with
    | zero => simp at hm
    | succ m =>
      unfold l55_15
      simp only [g55_0, g55_1, g55_2, g55_4, g55_5, g55_7, g55_8, g55_9, g55_10, g55_13, g55_14, g55_15, g55_17, g55_18, g55, lt_nil, brB_false, hk, sndF]
  | cons y ys ih =>
    intro pre m hm hb hk
    cases m with
    | zero => simp at hm
    | succ m =>
      unfold l55_15
      simp only [g55_0, g55_1, g55_2, g55_4, g55_5, g55_7, g55_8, g55_9, g55_10, g55_13, g55_14, g55_15, g55_17, g55_18, g55, lt_cons, in_cons, at_cons, if_true, brB_true, vs75, Option.bind_some, wrap_snoc pre ys y hb, sndF]
      cases (sndE y != 0) with
      | true => simp only [brB_true, cond_true]
      | false =>
        simp only [brB_false, cond_false]
        rw [app_cons pre ys y, ih (pre ++ [y]) m (by simpa using hm) (by rw [← app_cons]; exact hb) hk]
theorem vs55 (l : List Snd) : S55 2000 l = some (sndsE l) := by
  unfold S55 sndsE
  cases e : decide ((l.length : Int) > 200) with
  | true => simp only [g55_0, g55_1, g55_2, g55_4, g55_5, g55_7, g55_8, g55_9, g55_10, g55_13, g55_14, g55_15, g55_17, g55_18, g55, e, brB_true, cond_true]
  | false =>
    have hl : l.length ≤ 200 := by
      have := of_decide_eq_false e
      omega
    have := lvals (R := Int) some (fun _ _ _ => some 0) l [] 2000 (by omega) (by unfold BIG; simp; omega) (fun _ _ _ => rfl)
    simp only [g55_0, g55_1, g55_2, g55_4, g55_5, g55_7, g55_8, g55_9, g55_10, g55_13, g55_14, g55_15, g55_17, g55_18, g55, e, brB_false, cond_false]
    simpa using this
theorem vs36 (l r : List Snd) : S36 2000 l r = some (bothE l r) := by
  unfold S36 bothE
  simp only [g36_0, g36_1, g36_2, g36_3, g36_5, g36_6, g36, vs55, Option.bind_some]
  cases (sndsE l != 0) <;> rfl
theorem both_len {l r : List Snd} (h : bothE l r = 0) : l.length ≤ 200 ∧ r.length ≤ 200 := by
  have key : ∀ {l : List Snd}, sndsE l = 0 → l.length ≤ 200 := by
    intro l h
    unfold sndsE at h
    cases e : decide ((l.length : Int) > 200) with
    | true => rw [e] at h; cases h
    | false =>
      have := of_decide_eq_false e
      omega
  unfold bothE at h
  cases e : (sndsE l != 0) with
  | true =>
    rw [e] at h
    have h1 : sndsE l = 0 := h
    rw [h1] at e; cases e
  | false =>
    rw [e] at h
    have h1 : sndsE l = 0 := by simpa using e
    exact ⟨key h1, key h⟩
end Go.Fw.L19
