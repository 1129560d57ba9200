/- Ratios, means, modes. -/
import Derived.Test.YtnobiophckdjfaaFwHq51l
set_option linter.unusedVariables false
set_option linter.unusedSimpArgs false
namespace Go.Fw.L51
open Go Go.Fw
set_option maxRecDepth 100000
set_option linter.unusedSimpArgs false
set_option linter.unusedVariables false
theorem sh_zero {n a d k : Nat} (h1 : a ≤ d) (hk : k < n) : sh n a d k = 0 ↔ (a = d ∨ a = 0 ∧ 0 < k) := by
 have hc : 0 < ch n k := ch_pos (by omega)
 unfold sh
 constructor
 ·intro h
  rcases Nat.mul_eq_zero.1 h with h | h
  ·omega
  ·rcases Nat.mul_eq_zero.1 h with h | h
   ·have := Nat.pow_eq_zero.1 h
    exact .inr ⟨this.1, by omega⟩
   ·have := Nat.pow_eq_zero.1 h
    exact .inl (by omega)
 ·rintro (h | ⟨h, h2⟩)
  ·subst h
   rw [Nat.sub_self, Nat.zero_pow (by omega), Nat.mul_zero, Nat.mul_zero]
  ·subst h
   rw [Nat.zero_pow h2, Nat.zero_mul, Nat.mul_zero]
theorem sh_cross {n a d k : Nat} (hk : k < n) : (n - k) * a * sh n a d k = sh n a d (k + 1) * ((k + 1) * (d - a)) := by
 unfold sh
 have e := ch_step (n := n) (k := k) (by omega)
 obtain ⟨r, hr⟩ : ∃ r, n - k = r + 1 := ⟨n - k - 1, by omega⟩
 rw [show n - (k + 1) = r by omega, hr]
 rw [hr] at e
 generalize ch n (k + 1) = C' at *
 generalize ch n k = C at *
 rw [Nat.pow_succ, Nat.pow_succ]
 generalize a ^ k = A
 generalize d - a = B
 generalize B ^ r = P
 rw [show C' * (A * a * P) * ((k + 1) * B) = (k + 1) * C' * (A * a * P * B) by simp only [Nat.mul_left_comm, Nat.mul_comm, Nat.mul_assoc], e]
 simp only [Nat.mul_left_comm, Nat.mul_comm, Nat.mul_assoc]
theorem ratioP (p : Fra) (hf : okN p.2.1.1 = true → okN p.2.2.1.1 = true → p.2.1.1.length + p.2.2.1.1.length ≤ 10) (n k : Int) (hn : n ≤ 40 ∨ n > 200) :
  ∃ (A : Fra) (e : Int), S36 2000 n k p = some (A, e) ∧ S37 2000 n k p = some (A, e) ∧ S21 2000 A A = some true := by
 rcases givenP p hf n k 200 (IntKind.i64.wrap (n - 1)) with ⟨e, h0, h1, h2⟩ | ⟨a, d, hp, g1, g2, g3, g4, b1, b2, b3, b4, h1, h2⟩
 ·have he : (e != (0 : Int)) = true := by simpa using h0
  refine ⟨zf, e, ?_, ?_, vE21⟩
  ·unfold S36
   simp only [g36_9, g36_2, g36_3, g36_5, g36_6, g36_8, g36_9b, g36, h1, he, Option.bind_some, brB_true]
  ·unfold S37
   simp only [g37_0, g37_5, g37_3, g37_6, g37_7, g37_8, g37_10, g37_11, g37, h2, he, Option.bind_some, brB_true]
 ·obtain ⟨n, rfl⟩ := Int.eq_ofNat_of_zero_le b1
  obtain ⟨k, rfl⟩ := Int.eq_ofNat_of_zero_le b3
  have wn : IntKind.i64.wrap ((n : Int) - 1) = (n : Int) - 1 := wrap_id (by omega)
  have hk : k < n := by rw [wn] at b4; omega
  have hc : Chn n a d := Chn.mk40 g1 g2 g3 (by omega)
  subst hp
  rw [wn] at h1 h2
  have i1 : L36 (sh n a d k) := hc.l36.le (sh_le hc.le (by omega))
  have i2 : L36 (sh n a d (k + 1)) := hc.l36.le (sh_le hc.le (by omega))
  have wk : IntKind.i64.wrap ((k : Int) + 1) = ((k + 1 : Nat) : Int) := by rw [wrap_id (by omega)]; omega
  by_cases hz : a = d ∨ a = 0 ∧ 0 < k
  ·refine ⟨zf, 10, ?_, ?_, vE21⟩
   ·unfold S36
    rcases hz with rfl | ⟨rfl, hz⟩
    ·simp only [g36_9, g36_2, g36_3, g36_5, g36_6, g36_8, g36_9b, g36, wn, h1, Option.bind_some, bne_self_eq_false, brB_false, beq_self_eq_true, brB_true]
    ·have e1 : (((0 : Nat) : Int) == (d : Int)) = false := by simp; omega
     have e2 : (((0 : Nat) : Int) == 0) = true := rfl
     have e3 : decide ((k : Int) > 0) = true := by simp; omega
     simp only [g36_9, g36_2, g36_3, g36_5, g36_6, g36_8, g36_9b, g36, wn, h1, Option.bind_some, bne_self_eq_false, brB_false, e1, e2, e3, brB_true]
   ·have e1 : (((nd (sh n a d k)).length : Int) == 0) = true := by rw [isnil, nd_dec]; exact decide_eq_true ((sh_zero g1 hk).2 hz)
    unfold S37
    simp only [g37_0, g37_5, g37_3, g37_6, g37_7, g37_8, g37_10, g37_11, g37, wn, h2, Option.bind_some, bne_self_eq_false, brB_false, v71 n a d k hc (by omega), e1, brB_true]
  ·have hs : sh n a d k ≠ 0 := fun h => hz ((sh_zero g1 hk).1 h)
   have q1 : a ≠ d := fun h => hz (.inl h)
   have q2 : ¬ (a = 0 ∧ 0 < k) := fun h => hz (.inr h)
   have m1 : (n - k) * a ≤ 40 * 1000 := Nat.mul_le_mul (by omega) (by omega)
   have m2 : (k + 1) * (d - a) ≤ 41 * 1000 := Nat.mul_le_mul (by omega) (by omega)
   have m3 : 0 < (k + 1) * (d - a) := Nat.mul_pos (by omega) (by omega)
   have ww1 : IntKind.i64.wrap ((n : Int) - (k : Int)) = ((n - k : Nat) : Int) := by rw [wrap_id (by omega)]; omega
   have ww2 : IntKind.i64.wrap ((d : Int) - (a : Int)) = ((d - a : Nat) : Int) := by rw [wrap_id (by omega)]; omega
   have ww3 : IntKind.i64.wrap (((n - k : Nat) : Int) * (a : Int)) = (((n - k) * a : Nat) : Int) := by rw [← Int.natCast_mul, wrap_id (by omega)]
   have ww4 : IntKind.i64.wrap (((k + 1 : Nat) : Int) * ((d - a : Nat) : Int)) = (((k + 1) * (d - a) : Nat) : Int) := by rw [← Int.natCast_mul, wrap_id (by omega)]
   refine ⟨lo ((n - k) * a) ((k + 1) * (d - a)), 0, ?_, ?_, vL21 _ _ (small36 (by omega)) (small36 (by omega))⟩
   ·have e1 : ((a : Int) == (d : Int)) = false := by simp; omega
    have fo := v68 ((n - k) * a) ((k + 1) * (d - a)) (by omega) (by omega) m3
    unfold S36
    by_cases ha : a = 0
    ·have e2 : ((a : Int) == 0) = true := by simp; omega
     have e3 : decide ((k : Int) > 0) = false := by simp; omega
     simp only [g36_9, g36_2, g36_3, g36_5, g36_6, g36_8, g36_9b, g36, wn, h1, Option.bind_some, bne_self_eq_false, brB_false, e1, e2, e3, brB_true, ww1, ww2, wk, ww3, ww4, fo]
    ·have e2 : ((a : Int) == 0) = false := by simp; omega
     simp only [g36_9, g36_2, g36_3, g36_5, g36_6, g36_8, g36_9b, g36, wn, h1, Option.bind_some, bne_self_eq_false, brB_false, e1, e2, brB_true, ww1, ww2, wk, ww3, ww4, fo]
   ·have e1 : (((nd (sh n a d k)).length : Int) == 0) = false := by rw [isnil, nd_dec]; exact decide_eq_false hs
    have eq : lo ((n - k) * a) ((k + 1) * (d - a)) = lo (sh n a d (k + 1)) (sh n a d k) := by
     unfold lo
     rw [low_eq m3 (Nat.pos_of_ne_zero hs) (sh_cross hk)]
    unfold S37
    simp only [g37_0, g37_5, g37_3, g37_6, g37_7, g37_8, g37_10, g37_11, g37, wn, h2, Option.bind_some, bne_self_eq_false, brB_false, v71 n a d k hc (by omega), v71 n a d (k + 1) hc (by omega), e1, wk, v72 _ _ i2 i1 (Nat.pos_of_ne_zero hs), eq]
theorem main10 (u : Int × (Int × Unit)) (p : Fra) (i0 : InR (.pair (.int .i64) (.pair (.int .i64) .unit)) u) (i1 : InR (.pair .bool (.pair (.pair (.sl (.int .i64)) .unit) (.pair (.pair (.sl (.int .i64)) .unit) .unit))) p) : S10 2000 u p = some true := by
 obtain ⟨n, k, _⟩ := u
 have e8 : S11 2000 = some true := rfl
 obtain ⟨s, ⟨N, u1⟩, ⟨D, u2⟩, u3⟩ := p
 have hN : N.length ≤ maxLen := i1.2.1.1.1
 have hD : D.length ≤ maxLen := i1.2.2.1.1.1
 unfold maxLen at hN hD
 have few := v12 (s, (N, u1), (D, u2), u3) (by simp only; omega) (by simp only; omega)
 simp only at few
 unfold S10
 simp only [g10_0, g10_1, g10_2, g10_11, g10_12, g10, e8, v16, few, Option.bind_some, Bool.not_true, brB_false]
 by_cases hs : n ≤ 40 ∨ n > 200
 ·have e1 : (decide (n ≤ 40) || decide (n > 200)) = true := by simpa using hs
  simp only [e1, Bool.not_true, brB_false]
  by_cases hl : IntKind.i64.wrap ((N.length : Int) + (D.length : Int)) ≤ 10
  ·simp only [hl, decide_true, Bool.not_true, brB_false]
   obtain ⟨A, e, a1, a2, a3⟩ := ratioP (s, (N, u1), (D, u2), u3) (few_ok hl) n k hs
   obtain ⟨C, g, c1, c2, c3⟩ := meanP (s, (N, u1), (D, u2), u3) (few_ok hl) n hs
   obtain ⟨m, i, m1, m2⟩ := modeP (s, (N, u1), (D, u2), u3) (few_ok hl) n hs
   simp only [a1, a2, a3, c1, c2, c3, m1, m2, Option.bind_some, beq_self_eq_true, brB_true]
  ·simp only [hl, decide_false, Bool.not_false, brB_true]
 ·have e1 : (decide (n ≤ 40) || decide (n > 200)) = false := by simp; omega
  simp only [e1, Bool.not_false, brB_true]
end Go.Fw.L51
