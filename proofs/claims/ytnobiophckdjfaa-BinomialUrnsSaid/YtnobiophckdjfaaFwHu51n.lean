/- Probabilities made of two numbers; their opposites. -/
import Derived.Test.YtnobiophckdjfaaFwHu51l
set_option linter.unusedVariables false
set_option linter.unusedSimpArgs false
namespace Go.Fw.L51
open Go Go.Fw
set_option maxRecDepth 100000
set_option linter.unusedSimpArgs false
set_option linter.unusedVariables false
structure Pr (a d : Nat) : Prop where
 le : a ≤ d
 pos : 0 < d
 d3 : d ≤ 1000
 gcd : Nat.gcd a d = 1
theorem Pr.opp {a d : Nat} (h : Pr a d) : Pr (d - a) d := ⟨Nat.sub_le .., h.pos, h.d3, by
 have d1 : Nat.gcd (d - a) d ∣ d := Nat.gcd_dvd_right ..
 have d2 : Nat.gcd (d - a) d ∣ d - a := Nat.gcd_dvd_left ..
 have d3 : Nat.gcd (d - a) d ∣ a := by
  have := Nat.dvd_sub d1 d2
  rwa [show d - (d - a) = a by have := h.le; omega] at this
 exact Nat.dvd_one.1 (h.gcd ▸ Nat.dvd_gcd d3 d1)⟩
theorem inR_u8 {n : Int} (h : InR (.int .u8) n) : 0 ≤ n ∧ n ≤ 255 := h
theorem Pr.chn {a d n : Nat} (h : Pr a d) (hn : n ≤ 40) : Chn n a d := Chn.mk40 h.le h.pos h.d3 hn
theorem Pr.chn2 {a d n : Nat} (h : Pr a d) (hd : d ≤ 100) (hn : n ≤ 60) : Chn n a d :=
 ⟨h.le, h.pos, h.d3, hn, Nat.le_trans (Nat.pow_le_pow_left hd n) (Nat.le_trans (Nat.pow_le_pow_right (by decide) hn) (by decide +kernel))⟩
theorem lo_fr {a d : Nat} (h : Nat.gcd a d = 1) : lo a d = fr a d := by unfold lo; rw [low_self h]
theorem v26 (a b c d : Nat) (ha : L36 a) (hb : L36 b) (hc : L36 c) (hd : L36 d) (h1 : 0 < b) (h2 : 0 < d) (g1 : Nat.gcd a b = 1) (g2 : Nat.gcd c d = 1) (hn : L36 (a * d + c * b)) (hm : L36 (b * d)) : S26 2000 (fr a b) (fr c d) = some (lo (a * d + c * b) (b * d), 0) := by
 have l := v52 false (a * d + c * b) (b * d) hn hm (Nat.mul_pos h1 h2)
 unfold S26
 simp only [g26_0, g26_1, g26_2, g26_4, g26_5, g26_6, g26_8, g26_9, g26_10, g26_12, g26_13, g26_14, g26_15, g26_17, g26_19, g26_22, g26_26, g26_27, g26, vF54 ha hb h1 g1, vF54 hc hd h2 g2, Option.bind_some, Bool.not_true, brB_false]
 simp only [fr, v57 a d c b ha hd hc hb, vM58 b d hb hd, vA59 _ _ hn, l, Option.bind_some, bne_self_eq_false, beq_self_eq_true, brB_true, brB_false, Bool.false_and]
 rfl
theorem vN54 {n d : Nat} (hn : L36 n) (hd : L36 d) (h0 : n ≠ 0) (h : 0 < d) (hg : Nat.gcd n d = 1) : S54 2000 (true, (nd n, ()), (nd d, ()), ()) = some true := by
 have e := validF_fr hn hd h hg
 have e2 : ¬ nd n = [] := fun h => h0 (nd_nil.1 h)
 rw [v54 _ _ _ fun _ _ => ⟨hn.len, hd.len⟩]
 simp only [validF, e2, decide_false, Bool.false_and, Bool.not_false, Bool.and_true] at e ⊢
 rw [e]
end Go.Fw.L51
