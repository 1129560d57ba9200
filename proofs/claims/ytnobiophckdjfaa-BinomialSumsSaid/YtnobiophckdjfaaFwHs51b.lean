/- Natural numbers: products, sums, differences. -/
import Derived.Test.YtnobiophckdjfaaFwHs51a
set_option linter.unusedVariables false
set_option linter.unusedSimpArgs false
namespace Go.Fw.L51
open Go Go.Fw
set_option maxRecDepth 100000
set_option linter.unusedSimpArgs false
set_option linter.unusedVariables false
theorem wN {n : Nat} (h : n ≤ 9223372036854775807) : IntKind.i64.wrap (n : Int) = (n : Int) := wrap_id (by omega)
theorem tdN (n : Nat) : Int.tdiv (n : Int) 10000 = ((n / 10000 : Nat) : Int) := by
 rw [Int.tdiv_eq_ediv_of_nonneg (by omega)]; omega
theorem tmN (n : Nat) : Int.tmod (n : Int) 10000 = ((n % 10000 : Nat) : Int) := by
 rw [Int.tmod_eq_emod_of_nonneg (by omega)]; omega
theorem toN_set : ∀ (l : List Int) (p : Nat) (v : Int), p < l.length → toN (l.set p v) + 10000 ^ p * (l.getD p 0).toNat = toN l + 10000 ^ p * v.toNat
 | [], p, v, h => by simp at h
 | d :: l, 0, v, h => by simp [toN]; omega
 | d :: l, p + 1, v, h => by
   have ih := toN_set l p v (by simpa using h)
   simp only [List.set_cons_succ, toN, List.getD_cons_succ, Nat.pow_succ]
   generalize (l.getD p 0).toNat = u at *
   generalize v.toNat = v at *
   generalize 10000 ^ p = P at *
   rw [show P * 10000 * u = 10000 * (P * u) by simp only [Nat.mul_left_comm, Nat.mul_comm, Nat.mul_assoc], show P * 10000 * v = 10000 * (P * v) by simp only [Nat.mul_left_comm, Nat.mul_comm, Nat.mul_assoc]]
   omega
theorem dig_set {l : List Int} {p : Nat} {v : Int} (h : Dig l) (hv : 0 ≤ v ∧ v < 10000) : Dig (l.set p v) := by
 intro x hx
 rcases List.mem_or_eq_of_mem_set hx with hx | rfl
 ·exact h x hx
 ·exact hv
theorem dig_get {l : List Int} (h : Dig l) (p : Nat) : 0 ≤ l.getD p 0 ∧ l.getD p 0 < 10000 := by
 rw [List.getD_eq_getElem?_getD]
 by_cases hp : p < l.length
 ·rw [List.getElem?_eq_getElem hp]; exact h _ (List.getElem_mem hp)
 ·rw [List.getElem?_eq_none (by omega)]; simp
theorem lmul1 (a : List Int) (la io : Int) {b : List Int} (hb : Dig b) {x i : Nat} (hx : x < 10000) : ∀ (ys pre out : List Int) (c : Nat), b = pre ++ ys → c < 10000 → Dig out → i + b.length ≤ out.length → out.length ≤ 100000 →
  ∃ (out' : List Int) (c' : Nat), c' < 10000 ∧ Dig out' ∧ out'.length = out.length ∧ (∀ q, i + b.length ≤ q → out'.getD q 0 = out.getD q 0) ∧
    toN out' + 10000 ^ (i + b.length) * c' = toN out + 10000 ^ (i + pre.length) * (x * toN ys + c) ∧
    ∀ {R : Type} (k : List Int → List Int → Int → Int → Int → List Int → Int → Int → List Int → Int → Int → Option R) (m : Nat), ys.length < m →
      l114_18 k m b out (i : Int) (x : Int) (c : Int) a la io b (b.length : Int) (pre.length : Int) = k b out' (i : Int) (x : Int) (c' : Int) a la io b (b.length : Int) (b.length : Int) := by
 intro ys
 induction ys with
 | nil =>
   intro pre out c hp hc ho hl hl2
   have hpre : pre = b := by simpa using hp.symm
   subst hpre
   refine ⟨out, c, hc, ho, rfl, fun _ _ => rfl, by simp [toN], fun {R} k m hm => ?_⟩
   obtain ⟨m, rfl⟩ : ∃ j, m = j + 1 := ⟨m - 1, by simp at hm; omega⟩
   unfold l114_18
   simp only [g114_28, g114_2, g114_3, g114_21, g114_7, g114_8, g114_14, g114_16, g114_17, g114_18, g114_20, g114_23, g114_24, g114_25, g114_27, g114_28b, g114]
   have : decide ((pre.length : Int) < (pre.length : Int)) = false := by simp
   simp only [this, brB_false]
 | cons y ys ih =>
   intro pre out c hp hc ho hl hl2
   have hy := hb y (by rw [hp]; simp)
   obtain ⟨y, rfl⟩ := Int.eq_ofNat_of_zero_le hy.1
   have hy2 : y < 10000 := by omega
   have hlen : b.length = pre.length + (ys.length + 1) := by rw [hp]; simp
   have hp1 : i + pre.length < out.length := by omega
   have hg := dig_get ho (i + pre.length)
   obtain ⟨o, ho2⟩ := Int.eq_ofNat_of_zero_le hg.1
   have ho3 : o < 10000 := by omega
   have hxy : x * y ≤ 9999 * 9999 := Nat.mul_le_mul (by omega) (by omega)
   have hq : (o + x * y + c) / 10000 < 10000 := by omega
   obtain ⟨out', c', h1, h2, h3, h4, h5, h6⟩ := ih (pre ++ [(y : Int)]) (out.set (i + pre.length) (((o + x * y + c) % 10000 : Nat) : Int)) ((o + x * y + c) / 10000) (by rw [hp]; simp) hq (dig_set ho (by omega)) (by simpa using hl) (by simpa using hl2)
   refine ⟨out', c', h1, h2, by simpa using h3, fun q hq => ?_, ?_, fun {R} k m hm => ?_⟩
   ·rw [h4 q hq]
    have : i + pre.length ≠ q := by omega
    simp [List.getD_eq_getElem?_getD, List.getElem?_set, this]
   ·rw [h5]
    have hs := toN_set out (i + pre.length) (((o + x * y + c) % 10000 : Nat) : Int) hp1
    rw [ho2] at hs
    simp only [Int.ofNat_eq_natCast, Int.toNat_natCast, List.length_append, List.length_cons, List.length_nil, toN] at hs ⊢
    rw [show i + (pre.length + (0 + 1)) = (i + pre.length) + 1 by omega, Nat.pow_succ]
    generalize 10000 ^ (i + pre.length) = P at *
    generalize toN (out.set (i + pre.length) (((o + x * y + c) % 10000 : Nat) : Int)) = T1 at *
    generalize toN ys = T at *
    have hd : P * ((o + x * y + c) % 10000) + P * (10000 * ((o + x * y + c) / 10000)) = P * o + P * (x * y) + P * c := by
     rw [← Nat.mul_add, ← Nat.mul_add, ← Nat.mul_add]; congr 1; omega
    generalize (o + x * y + c) % 10000 = r at *
    generalize (o + x * y + c) / 10000 = t at *
    rw [show P * 10000 * (x * T + t) = P * (x * (10000 * T)) + P * (10000 * t) by rw [Nat.mul_assoc, ← Nat.mul_add]; congr 1; rw [Nat.mul_add]; congr 1; simp only [Nat.mul_left_comm, Nat.mul_comm, Nat.mul_assoc]]
    rw [Nat.mul_add, Nat.mul_add x, Nat.mul_add P]
    omega
   ·obtain ⟨m, rfl⟩ : ∃ j, m = j + 1 := ⟨m - 1, by simp at hm; omega⟩
    unfold l114_18
    simp only [g114_28, g114_2, g114_3, g114_21, g114_7, g114_8, g114_14, g114_16, g114_17, g114_18, g114_20, g114_23, g114_24, g114_25, g114_27, g114_28b, g114]
    have e0 : decide ((pre.length : Int) < (b.length : Int)) = true := by simp; omega
    have e1 : (0 ≤ (pre.length : Int) ∧ (pre.length : Int) < (b.length : Int)) := by omega
    have g1 : b.getD pre.length 0 = (y : Int) := by rw [hp]; simp
    have w1 : IntKind.i64.wrap ((i : Int) + (pre.length : Int)) = ((i + pre.length : Nat) : Int) := by rw [wrap_id (by omega)]; omega
    have e2 : (0 ≤ ((i + pre.length : Nat) : Int) ∧ ((i + pre.length : Nat) : Int) < (out.length : Int)) := by omega
    have w2 : IntKind.i64.wrap ((x : Int) * (y : Int)) = ((x * y : Nat) : Int) := by rw [← Int.natCast_mul]; exact wN (by omega)
    have w3 : IntKind.i64.wrap ((o : Int) + ((x * y : Nat) : Int)) = ((o + x * y : Nat) : Int) := by rw [← Int.natCast_add]; exact wN (by omega)
    have w4 : IntKind.i64.wrap ((c : Int) + ((o + x * y : Nat) : Int)) = ((o + x * y + c : Nat) : Int) := by rw [← Int.natCast_add, Nat.add_comm c]; exact wN (by omega)
    have w5 : IntKind.i64.wrap ((((o + x * y + c) / 10000 : Nat)) : Int) = ((((o + x * y + c) / 10000 : Nat)) : Int) := wN (by omega)
    have w6 : IntKind.i64.wrap ((pre.length : Int) + 1) = ((pre ++ [(y : Int)]).length : Int) := by rw [wrap_id (by omega)]; simp
    have e3 : (i + pre.length) < out.length := hp1
    have ho4 : out.getD (i + pre.length) 0 = (o : Int) := ho2
    simp only [e0, brB_true, if_pos e1, Int.toNat_natCast, g1, Int.ofNat_eq_natCast, w1, if_pos e2, if_pos e3, ho4, w2, w3, w4, tdN, tmN, w5, w6]
    exact h6 k m (by simp at hm; omega)
theorem lmul2 {a b : List Int} (ha : Dig a) (hb : Dig b) (hb2 : b.length ≤ 1900) : ∀ (ys pre out : List Int), a = pre ++ ys → out.length = a.length + b.length → out.length ≤ 100000 → Dig out → (∀ q, pre.length + b.length ≤ q → out.getD q 0 = 0) → toN out = toN pre * toN b →
  ∃ out' : List Int, Dig out' ∧ out'.length = out.length ∧ toN out' = toN a * toN b ∧
    ∀ {R : Type} (k : List Int → List Int → List Int → Int → Int → Option R) (m : Nat), ys.length < m →
      l114_25 2000 k m b out a (a.length : Int) (pre.length : Int) = k b out' a (a.length : Int) (a.length : Int) := by
 intro ys
 induction ys with
 | nil =>
   intro pre out hp hl hl2 ho hz ht
   have hpre : pre = a := by simpa using hp.symm
   subst hpre
   refine ⟨out, ho, rfl, ht, fun {R} k m hm => ?_⟩
   obtain ⟨m, rfl⟩ : ∃ j, m = j + 1 := ⟨m - 1, by simp at hm; omega⟩
   unfold l114_25
   simp only [g114_28, g114_2, g114_3, g114_21, g114_7, g114_8, g114_14, g114_16, g114_17, g114_18, g114_20, g114_23, g114_24, g114_25, g114_27, g114_28b, g114]
   have : decide ((pre.length : Int) < (pre.length : Int)) = false := by simp
   simp only [this, brB_false]
 | cons x ys ih =>
   intro pre out hp hl hl2 ho hz ht
   have hx := ha x (by rw [hp]; simp)
   obtain ⟨x, rfl⟩ := Int.eq_ofNat_of_zero_le hx.1
   have hx2 : x < 10000 := by omega
   have hlen : a.length = pre.length + (ys.length + 1) := by rw [hp]; simp
   obtain ⟨o1, c, h1, h2, h3, h4, h5, h6⟩ := lmul1 a (a.length : Int) (pre.length : Int) hb (i := pre.length) hx2 b [] out 0 rfl (by omega) ho (by omega) hl2
   have hz1 : o1.getD (pre.length + b.length) 0 = 0 := by rw [h4 _ (Nat.le_refl _)]; exact hz _ (Nat.le_refl _)
   have hp1 : pre.length + b.length < o1.length := by omega
   obtain ⟨out', k1, k2, k3, k4⟩ := ih (pre ++ [(x : Int)]) (o1.set (pre.length + b.length) (c : Int)) (by rw [hp]; simp) (by simp; omega) (by simp; omega) (dig_set h2 (by omega)) (fun q hq => by
    simp only [List.length_append, List.length_cons, List.length_nil] at hq
    have hne : pre.length + b.length ≠ q := by omega
    have := h4 q (by omega)
    rw [hz q (by omega)] at this
    simpa [List.getD_eq_getElem?_getD, List.getElem?_set, hne] using this) (by
    have hs := toN_set o1 (pre.length + b.length) (c : Int) hp1
    rw [hz1] at hs
    simp only [Int.toNat_natCast, Int.toNat_zero, Nat.mul_zero, Nat.add_zero, List.length_nil] at hs h5
    rw [hs, h5, ht, toN_app]
    simp only [toN, Int.ofNat_eq_natCast, Int.toNat_natCast, Nat.mul_zero, Nat.add_zero]
    rw [Nat.add_mul, Nat.mul_assoc])
   refine ⟨out', k1, by rw [k2]; simp; omega, k3, fun {R} k m hm => ?_⟩
   obtain ⟨m, rfl⟩ : ∃ j, m = j + 1 := ⟨m - 1, by simp at hm; omega⟩
   unfold l114_25
   simp only [g114_28, g114_2, g114_3, g114_21, g114_7, g114_8, g114_14, g114_16, g114_17, g114_18, g114_20, g114_23, g114_24, g114_25, g114_27, g114_28b, g114]
   have e0 : decide ((pre.length : Int) < (a.length : Int)) = true := by simp; omega
   have e1 : (0 ≤ (pre.length : Int) ∧ (pre.length : Int) < (a.length : Int)) := by omega
   have g1 : a.getD pre.length 0 = (x : Int) := by rw [hp]; simp
   have w1 : IntKind.i64.wrap ((pre.length : Int) + (b.length : Int)) = ((pre.length + b.length : Nat) : Int) := by rw [wrap_id (by omega)]; omega
   have e2 : (0 ≤ ((pre.length + b.length : Nat) : Int) ∧ ((pre.length + b.length : Nat) : Int) < (o1.length : Int)) := by omega
   have w2 : IntKind.i64.wrap ((0 : Int) + (c : Int)) = (c : Int) := by rw [Int.zero_add]; exact wN (by omega)
   have w3 : IntKind.i64.wrap ((pre.length : Int) + 1) = ((pre ++ [(x : Int)]).length : Int) := by rw [wrap_id (by omega)]; simp
   have h7 := fun {R : Type} (k : List Int → List Int → Int → Int → Int → List Int → Int → Int → List Int → Int → Int → Option R) => h6 k 2000 (by omega)
   simp only [List.length_nil, Int.natCast_zero, Int.ofNat_eq_natCast] at h7 k4
   simp only [e0, brB_true, if_pos e1, Int.toNat_natCast, g1, Int.ofNat_eq_natCast, h7, w1, if_pos e2, if_pos hp1, hz1, w2, w3]
   exact k4 k m (by simp at hm; omega)
theorem v114 (a b : List Int) (ha : Dig a) (hb : Dig b) (h1 : a.length ≤ 900) (h2 : b.length ≤ 900) : S114 2000 a b = some (nd (toN a * toN b)) := by
 obtain ⟨out, k1, k2, k3, k4⟩ := lmul2 ha hb (by omega) a [] (List.replicate (a.length + b.length) 0) rfl (by simp) (by simp; omega) (Dig.zeros _) (fun q _ => by simp [List.getD_eq_getElem?_getD, List.getElem?_replicate]; split <;> rfl) (by rw [toN_zeros]; simp [toN])
 unfold S114
 simp only [g114_28, g114_2, g114_3, g114_21, g114_7, g114_8, g114_14, g114_16, g114_17, g114_18, g114_20, g114_23, g114_24, g114_25, g114_27, g114_28b, g114]
 have w1 : IntKind.i64.wrap ((a.length : Int) + (b.length : Int)) = ((a.length + b.length : Nat) : Int) := by rw [wrap_id (by omega)]; omega
 have e1 : (0 ≤ ((a.length + b.length : Nat) : Int) ∧ ((a.length + b.length : Nat) : Int) ≤ ((a.length + b.length : Nat) : Int) ∧ ((a.length + b.length : Nat) : Int) ≤ ((17592186044416 : Nat) : Int)) := by omega
 simp only [w1, if_pos e1, Int.toNat_natCast]
 have k5 := k4 (R := List Int) (fun y0 y1 y2 y3 y4 => (S118 2000 y1).bind fun r => some r) 2000 (by omega)
 simp only [List.length_nil, Int.natCast_zero] at k5
 refine k5.trans ?_
 rw [v118 out k1 (by rw [k2]; simp; omega), k3]; rfl
end Go.Fw.L51
