/- Merged licences. -/
import Derived.Test.YtbdlccajpcomjaaFwHe17g
set_option linter.unusedVariables false
set_option linter.unusedSimpArgs false
namespace Go.Fw.L19
open Go Go.Fw
set_option maxRecDepth 100000
set_option linter.unusedSimpArgs false
set_option linter.unusedVariables false
def mrg (a b : Lic) : Lic × Int :=
 if lic a ≠ 0 then (([], [], ()), lic a) else if lic b ≠ 0 then (([], [], ()), lic b) else if 30 < a.2.1.length + b.2.1.length then (([], [], ()), 3) else ((a.1, a.2.1 ++ b.2.1, ()), 0)
theorem v18 (a b : Lic) : S18 2000 a b = some (mrg a b) := by
 unfold S18 mrg
 simp only [g18_0, g18_5, g18_3, g18_10, g18_8, g18_11, g18_12, g18_14, g18_15, g18, v16, Option.bind_some]
 by_cases h1 : lic a = 0
 ·have e1 : (lic a != 0) = false := by simpa using h1
  simp only [e1, brB_false]
  rw [if_neg (show ¬ (lic a ≠ 0) by simpa using h1)]
  by_cases h2 : lic b = 0
  ·have e2 : (lic b != 0) = false := by simpa using h2
   simp only [e2, brB_false]
   rw [if_neg (show ¬ (lic b ≠ 0) by simpa using h2)]
   obtain ⟨a1, a2⟩ := lic_ok h1
   obtain ⟨b1, b2⟩ := lic_ok h2
   have w1 : IntKind.i64.wrap ((a.2.1.length : Int) + (b.2.1.length : Int)) = (a.2.1.length : Int) + (b.2.1.length : Int) := wrap_id (by omega)
   rw [w1]
   by_cases h3 : 30 < a.2.1.length + b.2.1.length
   ·have d : decide ((a.2.1.length : Int) + (b.2.1.length : Int) > 30) = true := decide_eq_true (by omega)
    simp only [d, brB_true, if_pos h3]
   ·have d : decide ((a.2.1.length : Int) + (b.2.1.length : Int) > 30) = false := decide_eq_false (by omega)
    have hl : a.2.1.length + b.2.1.length ≤ 3518437208883 := by omega
    simp only [d, brB_false, if_neg h3, v46 a.2.1 (by omega) (fun r hr => by have := a2 r hr; omega), v46 b.2.1 (by omega) (fun r hr => by have := b2 r hr; omega), Option.bind_some, if_pos hl]
  ·have e2 : (lic b != 0) = true := by simpa using h2
   simp only [e2, brB_true]
   rw [if_pos h2]
 ·have e1 : (lic a != 0) = true := by simpa using h1
  simp only [e1, brB_true]
  rw [if_pos h1]
theorem v20 (a b : Lic) : S20 2000 a b = some (mrg a b) := by
 unfold S20 mrg
 simp only [g20_0, g20_5, g20_3, g20_10, g20_8, g20_11, g20_12, g20_14, g20_15, g20, v9, Option.bind_some]
 by_cases h1 : lic a = 0
 ·have e1 : (lic a != 0) = false := by simpa using h1
  simp only [e1, brB_false]
  rw [if_neg (show ¬ (lic a ≠ 0) by simpa using h1)]
  by_cases h2 : lic b = 0
  ·have e2 : (lic b != 0) = false := by simpa using h2
   simp only [e2, brB_false]
   rw [if_neg (show ¬ (lic b ≠ 0) by simpa using h2)]
   obtain ⟨a1, a2⟩ := lic_ok h1
   obtain ⟨b1, b2⟩ := lic_ok h2
   have w1 : IntKind.i64.wrap ((a.2.1.length : Int) + (b.2.1.length : Int)) = (a.2.1.length : Int) + (b.2.1.length : Int) := wrap_id (by omega)
   rw [w1]
   by_cases h3 : 30 < a.2.1.length + b.2.1.length
   ·have d : decide ((a.2.1.length : Int) + (b.2.1.length : Int) > 30) = true := decide_eq_true (by omega)
    simp only [d, brB_true, if_pos h3]
   ·have d : decide ((a.2.1.length : Int) + (b.2.1.length : Int) > 30) = false := decide_eq_false (by omega)
    have hl0 : ([] : List Rul).length + a.2.1.length ≤ 3518437208883 := by simp; omega
    have hl : (([] : List Rul) ++ a.2.1).length + b.2.1.length ≤ 3518437208883 := by simp; omega
    have hl2 : a.2.1.length + b.2.1.length ≤ 3518437208883 := by omega
    simp only [d, brB_false, if_neg h3, if_pos hl0, if_pos hl, List.nil_append, if_pos hl2]
  ·have e2 : (lic b != 0) = true := by simpa using h2
   simp only [e2, brB_true]
   rw [if_pos h2]
 ·have e1 : (lic a != 0) = true := by simpa using h1
  simp only [e1, brB_true]
  rw [if_pos h1]
def okC3 (L A B : Int × Bool) : Prop := L.2 = (A.2 || B.2) ∧ (A.2 = true → L.1 ≤ A.1) ∧ (B.2 = true → L.1 ≤ B.1) ∧ (L.2 = true → (A.2 = true ∧ L.1 = A.1) ∨ (B.2 = true ∧ L.1 = B.1))
theorem less_ok (A B : Int × Bool) : okC3 (lessC A B) A B := by
 obtain ⟨a1, a2⟩ := A
 obtain ⟨b1, b2⟩ := B
 unfold lessC okC3
 cases a2 <;> cases b2 <;> simp
 by_cases h : a1 ≤ b1
 ·simp [h]
 ·simp [h]; omega
theorem lmloop {R : Type} (f g : Lic → Int → List UInt8 → Option (Int × Bool)) (k0 : Bool → Option R) (k1 : List UInt8 → Lic → Lic → Lic → Int → Option R) (w : List UInt8) (x a b : Lic)
  (hf : ∀ k : Int, 1 ≤ k → k ≤ 12 → ∃ L A B, f x k w = some L ∧ g a k w = some A ∧ g b k w = some B ∧ okC3 L A B) :
  ∀ (n : Nat) (k : Int) (m : Nat), n < m → 1 ≤ k → k + n = 13 → l5_22 f g k0 k1 m w a b x k = k1 w a b x 13 := by
 intro n
 induction n with
 | zero =>
   intro k m hm h1 h2
   cases m with
   | zero => omega
   | succ m =>
     obtain rfl : k = 13 := by omega
     have d : decide ((13 : Int) ≤ (12 : Int)) = false := rfl
     unfold l5_22
     simp only [g5_0, g5_1, g5_2, g5_25, g5_6, g5_7, g5_9, g5_10, g5_18, g5_16, g5_20, g5_21, g5_22, g5_24, g5_26, g5, d, brB_false]
 | succ n ih =>
   intro k m hm h1 h2
   cases m with
   | zero => omega
   | succ m =>
     have d : decide (k ≤ (12 : Int)) = true := decide_eq_true (by omega)
     have w2 : IntKind.i64.wrap (k + 1) = k + 1 := wrap_id (by omega)
     obtain ⟨⟨l1, l2⟩, ⟨a1, a2⟩, ⟨b1, b2⟩, e1, e2, e3, k1', k2, k3, k4⟩ := hf k h1 (by omega)
     simp only at k1' k2 k3 k4
     unfold l5_22
     simp only [g5_0, g5_1, g5_2, g5_25, g5_6, g5_7, g5_9, g5_10, g5_18, g5_16, g5_20, g5_21, g5_22, g5_24, g5_26, g5, d, brB_true, e1, e2, e3, Option.bind_some, w2]
     have hgo := ih (k + 1) m (by omega) (by omega) (by omega)
     cases a2 <;> cases b2
     ·simp only [Bool.or_false] at k1'
      subst k1'
      simpa only [brB_false, brB_true, Bool.not_true, Bool.not_false, beq_self_eq_true] using hgo
     ·simp only [Bool.false_or] at k1'
      subst k1'
      have hb : l1 = b1 := by rcases k4 rfl with ⟨h, _⟩ | ⟨_, h⟩ <;> simp_all
      subst hb
      have d2 : decide (l1 > l1) = false := decide_eq_false (by omega)
      simpa only [brB_false, brB_true, Bool.not_true, Bool.not_false, beq_self_eq_true, d2] using hgo
     ·simp only [Bool.or_false] at k1'
      subst k1'
      have hb : l1 = a1 := by rcases k4 rfl with ⟨_, h⟩ | ⟨h, _⟩ <;> simp_all
      subst hb
      have d2 : decide (l1 > l1) = false := decide_eq_false (by omega)
      simpa only [brB_false, brB_true, Bool.not_true, Bool.not_false, beq_self_eq_true, d2] using hgo
     ·simp only [Bool.or_self] at k1'
      subst k1'
      have q1 := k2 rfl
      have q2 := k3 rfl
      have d2 : decide (l1 > a1) = false := decide_eq_false (by omega)
      have d3 : decide (l1 > b1) = false := decide_eq_false (by omega)
      have hor : l1 = a1 ∨ l1 = b1 := by rcases k4 rfl with ⟨_, h⟩ | ⟨_, h⟩ <;> simp [h]
      have d4 : (l1 == a1) = true ∨ (l1 == b1) = true := hor.imp (fun h => by simp [h]) fun h => by simp [h]
      cases h5 : (l1 == a1) with
      | true => simpa only [brB_false, brB_true, Bool.not_true, Bool.not_false, beq_self_eq_true, d2, d3, h5] using hgo
      | false =>
        have h6 : (l1 == b1) = true := d4.resolve_left (by rw [h5]; simp)
        simpa only [brB_false, brB_true, Bool.not_true, Bool.not_false, beq_self_eq_true, d2, d3, h5, h6] using hgo
theorem main5 (a b : Lic) (w : List UInt8) (z0 : InZ reachBytes (.pair .str (.pair (.sl (.pair (.int .i64) (.pair (.int .i64) (.pair (.sl .str) .unit)))) .unit)) a) (z1 : InZ reachBytes (.pair .str (.pair (.sl (.pair (.int .i64) (.pair (.int .i64) (.pair (.sl .str) .unit)))) .unit)) b) (z2 : InZ reachBytes .str w) :
  S5 2000 a b w = some true := by
 unfold S5
 have e8 : S7 2000 = some true := rfl
 have hname : ∀ {x : Lic}, InZ reachBytes (.pair .str (.pair (.sl (.pair (.int .i64) (.pair (.int .i64) (.pair (.sl .str) .unit)))) .unit)) x → x.1.length ≤ 140737488355328 := by
  intro x z
  have h1 : x.1.length ≤ reachBytes := z.1
  have := reachBytes_lt
  omega
 obtain ⟨fa, ha, hfa⟩ := v8 a (lic_texts z0) (hname z0)
 obtain ⟨fb, hb, hfb⟩ := v8 b (lic_texts z1) (hname z1)
 simp only [g5_0, g5_1, g5_2, g5_25, g5_6, g5_7, g5_9, g5_10, g5_18, g5_16, g5_20, g5_21, g5_22, g5_24, g5_26, g5, e8, Option.bind_some, Bool.not_true, brB_false, ha, hb]
 cases fa with
 | false => simp only [Bool.not_false, brB_true]
 | true =>
   cases fb with
   | false => simp only [Bool.not_true, Bool.not_false, brB_true, brB_false]
   | true =>
     obtain ⟨a1, a2, a3⟩ := hfa rfl
     obtain ⟨b1, b2, b3⟩ := hfb rfl
     simp only [Bool.not_true, brB_false]
     by_cases h2 : (w.length : Int) > 40
     ·simp only [h2, decide_true, brB_true]
     ·simp only [h2, decide_false, brB_false, v19 a (by omega) (fun r hr => by have := (a3 r hr).1; omega), v19 b (by omega) (fun r hr => by have := (b3 r hr).1; omega), Option.bind_some, v18, v20]
      have hne : ∀ e : Int, (e != e) = false := by intro e; simp
      have hsm : (mrg a b).1.2.1.length < 2000 ∧ ∀ r ∈ (mrg a b).1.2.1, r.2.2.1.length < 2000 := by
       unfold mrg
       split
       ·exact ⟨by simp, by simp⟩
       ·split
        ·exact ⟨by simp, by simp⟩
        ·split
         ·exact ⟨by simp, by simp⟩
         ·refine ⟨by simp; omega, fun r hr => ?_⟩
          rcases List.mem_append.1 hr with hr | hr
          ·have := (a3 r hr).1; omega
          ·have := (b3 r hr).1; omega
      simp only [hne, brB_false, v14 _ _ hsm.1 hsm.2, Option.bind_some, sameL_refl, Bool.not_true, beq_self_eq_true, brB_true]
      by_cases h0 : (mrg a b).2 = 0
      ·have e0 : ((mrg a b).2 != 0) = false := by simpa using h0
       simp only [e0, brB_false]
       have hm : mrg a b = ((a.1, a.2.1 ++ b.2.1, ()), 0) := by
        unfold mrg at h0 ⊢
        split
        ·rename_i h; rw [if_pos h] at h0; exact absurd h0 h
        ·rename_i h; rw [if_neg h] at h0
         split
         ·rename_i h3; rw [if_pos h3] at h0; exact absurd h0 h3
         ·rename_i h3; rw [if_neg h3] at h0
          split
          ·rename_i h4; rw [if_pos h4] at h0; simp at h0
          ·rfl
       rw [hm] at hsm ⊢
       refine lmloop (R := Bool) _ _ some (fun _ _ _ _ _ => some true) w _ a b (fun k h3 h4 => ?_) 12 1 2000 (by omega) (by omega) (by omega)
       refine ⟨_, _, _, v17 _ k w (by omega) hsm.1 hsm.2, v21 a k w (by omega) (by omega) (fun r hr => by have := (a3 r hr).1; omega), v21 b k w (by omega) (by omega) (fun r hr => by have := (b3 r hr).1; omega), ?_⟩
       show okC3 (cst k (fold w) (a.2.1 ++ b.2.1) (0, false)) _ _
       rw [cst_app, cst_less k (fold w) b.2.1 (cst k (fold w) a.2.1 (0, false))]
       exact less_ok _ _
      ·have e0 : ((mrg a b).2 != 0) = true := by simpa using h0
       simp only [e0, brB_true]
end Go.Fw.L19
