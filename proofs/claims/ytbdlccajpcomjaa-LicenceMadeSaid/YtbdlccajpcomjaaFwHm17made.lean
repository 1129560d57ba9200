/- Licences that bits describe. -/
import Derived.Test.YtbdlccajpcomjaaFwHm17f
import Derived.Laws.BitsAllLaws
set_option linter.unusedVariables false
set_option linter.unusedSimpArgs false
namespace Go.Fw.L19
open Go Go.Fw
set_option maxRecDepth 100000
set_option linter.unusedSimpArgs false
set_option linter.unusedVariables false
def bitN (b k : Int) : Int := Go.bits .and IntKind.u16 (shiftI false IntKind.u16 b (k - 1)) 1
theorem bitN_01 (b k : Int) (hb : 0 ≤ b ∧ b ≤ 65535) : bitN b k = 0 ∨ bitN b k = 1 := by
 have h : inR .u16 b := by unfold inR; simp only [IntKind.min, IntKind.max, IntKind.signed, IntKind.bits]; simpa using hb
 have h2 := inR_shift (q := k - 1) false h
 unfold inR at h2
 simp only [IntKind.min, IntKind.max, IntKind.signed, IntKind.bits] at h2
 unfold bitN
 generalize shiftI false IntKind.u16 b (k - 1) = s at h2
 have h3 : 0 ≤ s ∧ s ≤ 65535 := by simpa using h2
 rw [Go.u16_and s 1 h3.1 (by omega) (by omega) (by omega)]
 have : s.toNat &&& (1 : Int).toNat = s.toNat % 2 := by
  show s.toNat &&& 1 = _
  exact Nat.and_one_is_mod _
 rw [this]
 omega
def off (b k : Int) : Bool := bitN b k == 0
def madeL (b : Int) (cs : List Int) : Nat → Int → List Rul → List Rul
 | 0, _, rs => rs
 | n + 1, k, rs => madeL b cs n (k + 1) (cond (off b k) rs (rs ++ [(k, cond (decide (rs.length < cs.length)) (cs.getD rs.length 0) 0, [], ())]))
theorem lmade {R : Type} (k0 : Int → List Int → Lic → Lic → Int → Option R) (b : Int) (cs : List Int) (hc : ∀ c ∈ cs, 0 ≤ c ∧ c ≤ 255) (z : Lic) :
  ∀ (n : Nat) (k : Int) (rs : List Rul) (m : Nat), n < m → 1 ≤ k → k + n = 13 → rs.length + n ≤ 12 →
    l15_16 k0 m b cs z ([109, 97, 100, 101], rs, ()) k = k0 b cs z ([109, 97, 100, 101], madeL b cs n k rs, ()) 13 := by
 intro n
 induction n with
 | zero =>
   intro k rs m hm h1 h2 h3
   cases m with
   | zero => omega
   | succ m =>
     obtain rfl : k = 13 := by omega
     have d : decide ((13 : Int) ≤ (12 : Int)) = false := rfl
     unfold l15_16
     simp only [g15_19, g15_2, g15_3, g15_5, g15_7, g15_8, g15_9, g15_11, g15_12, g15_13, g15_14, g15_15, g15_16, g15_18, g15_19b, g15, d, brB_false, madeL]
 | succ n ih =>
   intro k rs m hm h1 h2 h3
   cases m with
   | zero => omega
   | succ m =>
     have d : decide (k ≤ (12 : Int)) = true := decide_eq_true (by omega)
     have w1 : IntKind.i64.wrap (k - 1) = k - 1 := wrap_id (by omega)
     have w2 : IntKind.i64.wrap (k + 1) = k + 1 := wrap_id (by omega)
     have hk : 0 ≤ k - 1 := by omega
     unfold l15_16
     simp only [g15_19, g15_2, g15_3, g15_5, g15_7, g15_8, g15_9, g15_11, g15_12, g15_13, g15_14, g15_15, g15_16, g15_18, g15_19b, g15, d, brB_true, w1, w2, if_pos hk]
     change brB (off b k) _ _ = _
     simp only [madeL]
     cases ho : off b k with
     | true =>
       simp only [brB_true, cond_true]
       exact ih (k + 1) rs m (by omega) (by omega) (by omega) (by omega)
     | false =>
       simp only [brB_false, cond_false]
       by_cases hl : rs.length < cs.length
       ·have d2 : decide ((rs.length : Int) < (cs.length : Int)) = true := decide_eq_true (by omega)
        have d3 : decide (rs.length < cs.length) = true := decide_eq_true hl
        have hb : 0 ≤ (rs.length : Int) ∧ (rs.length : Int) < (cs.length : Int) := by omega
        have e : (cs.getD rs.length 0) ∈ cs := by
         rw [List.getD_eq_getElem?_getD, List.getElem?_eq_getElem hl]
         exact List.getElem_mem _
        have w3 : IntKind.i64.wrap (cs.getD rs.length 0) = cs.getD rs.length 0 := wrap_id (by have := hc _ e; omega)
        have hs : rs.length + [(k, (cs.getD rs.length 0), ([] : List (List UInt8)), ())].length ≤ 3518437208883 := by simp; omega
        simp only [d2, d3, brB_true, cond_true, if_pos hb, Int.toNat_natCast, w3, if_pos hs]
        exact ih (k + 1) _ m (by omega) (by omega) (by omega) (by simp; omega)
       ·have d2 : decide ((rs.length : Int) < (cs.length : Int)) = false := decide_eq_false (by omega)
        have d3 : decide (rs.length < cs.length) = false := decide_eq_false hl
        have hs : rs.length + [(k, (0 : Int), ([] : List (List UInt8)), ())].length ≤ 3518437208883 := by simp; omega
        simp only [d2, d3, brB_false, cond_false, if_pos hs]
        exact ih (k + 1) _ m (by omega) (by omega) (by omega) (by simp; omega)
theorem v15 (b : Int) (cs : List Int) (hc : ∀ c ∈ cs, 0 ≤ c ∧ c ≤ 255) : S15 2000 b cs = some ([109, 97, 100, 101], madeL b cs 12 1 [], ()) := by
 have := lmade (R := Lic) (fun _ _ _ x _ => some x) b cs hc ([], ([], ())) 12 1 [] 2000 (by omega) (by omega) (by omega) (by simp)
 unfold S15
 simp only [g15_19, g15_2, g15_3, g15_5, g15_7, g15_8, g15_9, g15_11, g15_12, g15_13, g15_14, g15_15, g15_16, g15_18, g15_19b, g15]
 exact this
def madeR (r : Rul) : Prop := 1 ≤ r.1 ∧ r.1 ≤ 12 ∧ 0 ≤ r.2.1 ∧ r.2.1 ≤ 255 ∧ r.2.2.1 = []
theorem made_all (b : Int) (cs : List Int) (hc : ∀ c ∈ cs, 0 ≤ c ∧ c ≤ 255) : ∀ (n : Nat) (k : Int) (rs : List Rul), 1 ≤ k → k + n = 13 → (∀ r ∈ rs, madeR r) → (∀ r ∈ madeL b cs n k rs, madeR r) ∧ (madeL b cs n k rs).length ≤ rs.length + n
 | 0, k, rs, _, _, h => ⟨h, by simp [madeL]⟩
 | n + 1, k, rs, h1, h2, h => by
   simp only [madeL]
   cases ho : off b k with
   | true =>
     simp only [cond_true]
     have := made_all b cs hc n (k + 1) rs (by omega) (by omega) h
     exact ⟨this.1, by omega⟩
   | false =>
     simp only [cond_false]
     have hr : madeR (k, cond (decide (rs.length < cs.length)) (cs.getD rs.length 0) 0, [], ()) := by
      refine ⟨h1, by show k ≤ 12; omega, ?_⟩
      by_cases hl : rs.length < cs.length
      ·simp only [hl, decide_true, cond_true]
       have e : (cs.getD rs.length 0) ∈ cs := by
        rw [List.getD_eq_getElem?_getD, List.getElem?_eq_getElem hl]
        exact List.getElem_mem _
       exact ⟨(hc _ e).1, (hc _ e).2, trivial⟩
      ·simp only [hl, decide_false, cond_false]
       exact ⟨by decide, by decide, trivial⟩
     have := made_all b cs hc n (k + 1) (rs ++ [(k, cond (decide (rs.length < cs.length)) (cs.getD rs.length 0) 0, [], ())]) (by omega) (by omega) (fun r hm => by
      rcases List.mem_append.1 hm with hm | hm
      ·exact h r hm
      ·simp only [List.mem_singleton] at hm; subst hm; exact hr)
     refine ⟨this.1, ?_⟩
     have h3 := this.2
     simp only [List.length_append, List.length_cons, List.length_nil] at h3
     omega
theorem made_any (b : Int) (cs : List Int) (j : Int) : ∀ (n : Nat) (k : Int) (rs : List Rul), (madeL b cs n k rs).any (fun r => r.1 == j) = (rs.any (fun r => r.1 == j) || (decide (k ≤ j ∧ j < k + n) && !off b j))
 | 0, k, rs => by
   have : decide (k ≤ j ∧ j < k + ((0 : Nat) : Int)) = false := decide_eq_false (by omega)
   simp only [madeL, this, Bool.false_and, Bool.or_false]
 | n + 1, k, rs => by
   simp only [madeL]
   rw [made_any b cs j n (k + 1)]
   by_cases hkj : k = j
   ·subst hkj
    have d1 : decide (k + 1 ≤ k ∧ k < k + 1 + (n : Int)) = false := decide_eq_false (by omega)
    have d2 : decide (k ≤ k ∧ k < k + ((n + 1 : Nat) : Int)) = true := decide_eq_true (by omega)
    rw [d1, d2]
    cases ho : off b k with
    | true => simp
    | false => simp
   ·have e : decide (k + 1 ≤ j ∧ j < k + 1 + (n : Int)) = decide (k ≤ j ∧ j < k + ((n + 1 : Nat) : Int)) := by
     rw [decide_eq_decide]; omega
    rw [e]
    cases ho : off b k with
    | true => simp
    | false =>
      have : (k == j) = false := by simpa using hkj
      simp [this]
theorem rls_made : ∀ (rs : List Rul), (∀ r ∈ rs, madeR r) → rls rs = 0
 | [], _ => rfl
 | (a, c, ws, u) :: rs, h => by
   obtain ⟨h1, h2, h3, h4, h5⟩ := h _ (List.mem_cons_self ..)
   simp only at h1 h2 h3 h4 h5
   subst h5
   have hr : rul (a, c, [], u) = 0 := by
    unfold rul
    simp only
    rw [if_neg (by omega), if_neg (by simp)]
    rfl
   simp only [rls, hr, ne_eq, not_true_eq_false, if_false]
   exact rls_made rs fun r hm => h r (List.mem_cons_of_mem _ hm)
theorem cst_made (k : Int) (w : List UInt8) : ∀ (rs : List Rul) (q : Int × Bool), (∀ r ∈ rs, madeR r) → (cst k w rs q).2 = (q.2 || rs.any fun r => r.1 == k)
 | [], q, _ => by simp [cst]
 | r :: rs, q, h => by
   obtain ⟨_, _, _, _, h5⟩ := h r (List.mem_cons_self ..)
   simp only [cst]
   rw [cst_made k w rs _ fun r hm => h r (List.mem_cons_of_mem _ hm)]
   have ha : apps r w = true := by unfold apps; rw [h5]; rfl
   simp only [takes, ha, Bool.true_and, List.any_cons]
   cases hq : q.2 <;> cases hk : (r.1 == k) <;> cases hd : decide (r.2.1 < q.1) <;> simp [hq]
theorem lloop {R : Type} (f : Lic → Int → List UInt8 → Option (Int × Bool)) (k0 : Bool → Option R) (k1 : Int → List UInt8 → Lic → Int → Option R) (b : Int) (w : List UInt8) (x : Lic) (hb : 0 ≤ b ∧ b ≤ 65535)
  (hf : ∀ k : Int, 1 ≤ k → k ≤ 12 → ∃ c, f x k w = some (c, !off b k)) :
  ∀ (n : Nat) (k : Int) (m : Nat), n < m → 1 ≤ k → k + n = 13 → l4_19 f k0 k1 m b w x k = k1 b w x 13 := by
 intro n
 induction n with
 | zero =>
   intro k m hm h1 h2
   cases m with
   | zero => omega
   | succ m =>
     obtain rfl : k = 13 := by omega
     have d : decide ((13 : Int) ≤ (12 : Int)) = false := rfl
     unfold l4_19
     simp only [g4_0, g4_1, g4_2, g4_4, g4_5, g4_6, g4_8, g4_9, g4_15, g4_13, g4_17, g4_18, g4_19, g4_21, g4_22, g4, d, brB_false]
 | succ n ih =>
   intro k m hm h1 h2
   cases m with
   | zero => omega
   | succ m =>
     have d : decide (k ≤ (12 : Int)) = true := decide_eq_true (by omega)
     have w1 : IntKind.i64.wrap (k - 1) = k - 1 := wrap_id (by omega)
     have w2 : IntKind.i64.wrap (k + 1) = k + 1 := wrap_id (by omega)
     have hk : 0 ≤ k - 1 := by omega
     obtain ⟨c, hc⟩ := hf k h1 (by omega)
     have e2 : (!((!off b k) == (bitN b k == 1))) = false := by
      unfold off
      rcases bitN_01 b k hb with h | h <;> rw [h] <;> rfl
     unfold l4_19
     simp only [g4_0, g4_1, g4_2, g4_4, g4_5, g4_6, g4_8, g4_9, g4_15, g4_13, g4_17, g4_18, g4_19, g4_21, g4_22, g4, d, brB_true, w1, w2, if_pos hk, hc, Option.bind_some]
     change brB (!((!off b k) == (bitN b k == 1))) _ _ = _
     rw [e2, brB_false]
     exact ih (k + 1) m (by omega) (by omega) (by omega)
theorem main4 (b : Int) (cs : List Int) (w : List UInt8) (i0 : InR (.int .u16) b) (i1 : InR (.sl (.int .u8)) cs) (i2 : InR .str w) :
  S4 2000 b cs w = some true := by
 unfold S4
 have e8 : S7 2000 = some true := rfl
 have hb : 0 ≤ b ∧ b ≤ 65535 := by
  have h : inR .u16 b := i0
  unfold inR at h
  simp only [IntKind.min, IntKind.max, IntKind.signed, IntKind.bits] at h
  simpa using h
 have hc : ∀ c ∈ cs, (0 : Int) ≤ c ∧ c ≤ 255 := by
  intro c hm
  have h : inR .u8 c := i1.2 c hm
  unfold inR at h
  simp only [IntKind.min, IntKind.max, IntKind.signed, IntKind.bits] at h
  simpa using h
 simp only [g4_0, g4_1, g4_2, g4_4, g4_5, g4_6, g4_8, g4_9, g4_15, g4_13, g4_17, g4_18, g4_19, g4_21, g4_22, g4, e8, Option.bind_some, Bool.not_true, brB_false]
 by_cases h1 : (cs.length : Int) > 12
 ·simp only [h1, decide_true, brB_true]
 ·simp only [h1, decide_false, brB_false]
  by_cases h2 : (w.length : Int) > 40
  ·simp only [h2, decide_true, brB_true]
  ·simp only [h2, decide_false, brB_false, v15 b cs hc, Option.bind_some, v16]
   obtain ⟨ha, hl⟩ := made_all b cs hc 12 1 [] (by omega) (by omega) (by simp)
   simp only [List.length_nil] at hl
   have hv : lic ([109, 97, 100, 101], madeL b cs 12 1 [], ()) = 0 := by
    unfold lic
    have hn : isNm [109, 97, 100, 101] = true := by kernel_rfl
    simp only [hn, rls_made _ ha]
    rw [if_neg (by simp), if_neg (by omega)]
   have e0 : ((0 : Int) != 0) = false := rfl
   simp only [hv, e0, brB_false]
   exact lloop (R := Bool) _ some (fun _ _ _ _ => some true) b w _ hb (fun k h3 h4 => by
    rw [v17 _ k w (by omega) (by show (madeL b cs 12 1 []).length < 2000; omega) (fun r hr => by rw [(ha r hr).2.2.2.2]; simp)]
    refine ⟨(cst k (fold w) (madeL b cs 12 1 []) (0, false)).1, ?_⟩
    have := cst_made k (fold w) (madeL b cs 12 1 []) (0, false) ha
    rw [made_any] at this
    have d : decide ((1 : Int) ≤ k ∧ k < 1 + ((12 : Nat) : Int)) = true := decide_eq_true (by omega)
    simp only [List.any_nil, d, Bool.true_and, Bool.false_or] at this
    rw [← this]) 12 1 2000 (by omega) (by omega) (by omega)
end Go.Fw.L19
