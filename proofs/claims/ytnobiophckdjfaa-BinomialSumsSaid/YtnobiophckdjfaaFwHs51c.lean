/- Natural numbers: sums, differences, quotients. -/
import Derived.Test.YtnobiophckdjfaaFwHs51b
set_option linter.unusedVariables false
set_option linter.unusedSimpArgs false
namespace Go.Fw.L51
open Go Go.Fw
set_option maxRecDepth 100000
set_option linter.unusedSimpArgs false
set_option linter.unusedVariables false
theorem toN_take : ∀ (b : List Int) (i : Nat), toN (b.take (i + 1)) = toN (b.take i) + 10000 ^ i * (b.getD i 0).toNat
 | [], i => by simp [toN]
 | d :: b, 0 => by simp [toN]
 | d :: b, i + 1 => by
   have ih := toN_take b i
   simp only [List.take_succ_cons, toN, List.getD_cons_succ, Nat.pow_succ]
   rw [ih, Nat.mul_add, Nat.mul_comm (10000 ^ i) 10000, Nat.mul_assoc]
   omega
theorem getD_lt {b : List Int} (hb : Dig b) (i : Nat) : ∃ u : Nat, b.getD i 0 = (u : Int) ∧ u < 10000 := by
 have h := dig_get hb i
 obtain ⟨u, hu⟩ := Int.eq_ofNat_of_zero_le h.1
 exact ⟨u, hu, by omega⟩
theorem getD_out {b : List Int} {i : Nat} (h : b.length ≤ i) : b.getD i 0 = 0 := by
 rw [List.getD_eq_getElem?_getD, List.getElem?_eq_none h]; rfl
theorem ladd {a b : List Int} (ha : Dig a) (hb : Dig b) (hl : a.length ≤ 100000) : ∀ (ys pre out : List Int) (c : Nat), a = pre ++ ys → c ≤ 1 → Dig out → out.length = pre.length → toN out + 10000 ^ pre.length * c = toN pre + toN (b.take pre.length) →
  ∃ (out' : List Int) (c' : Nat), c' ≤ 1 ∧ Dig out' ∧ out'.length = a.length ∧ toN out' + 10000 ^ a.length * c' = toN a + toN (b.take a.length) ∧
    ∀ {R : Type} (k : List Int → List Int → Int → List Int → Int → Int → Option R) (m : Nat), ys.length < m →
      l107_23 k m b out (c : Int) a (a.length : Int) (pre.length : Int) = k b out' (c' : Int) a (a.length : Int) (a.length : Int) := by
 intro ys
 induction ys with
 | nil =>
   intro pre out c hp hc ho hlo ht
   have hpre : pre = a := by simpa using hp.symm
   subst hpre
   refine ⟨out, c, hc, ho, hlo, ht, fun {R} k m hm => ?_⟩
   obtain ⟨m, rfl⟩ : ∃ j, m = j + 1 := ⟨m - 1, by simp at hm; omega⟩
   unfold l107_23
   simp only [g107_0, g107_1, g107_2, g107_4, g107_30, g107_7, g107_8, g107_19, g107_12, g107_13, g107_15, g107_18, g107_21, g107_22, g107_23, g107_25, g107_26, g107_28, g107_29, g107_31, g107]
   have : decide ((pre.length : Int) < (pre.length : Int)) = false := by simp
   simp only [this, brB_false]
 | cons y ys ih =>
   intro pre out c hp hc ho hlo ht
   have hy := ha y (by rw [hp]; simp)
   obtain ⟨y, rfl⟩ := Int.eq_ofNat_of_zero_le hy.1
   have hy2 : y < 10000 := by omega
   have hlen : a.length = pre.length + (ys.length + 1) := by rw [hp]; simp
   obtain ⟨u, hu, hu2⟩ := getD_lt hb pre.length
   obtain ⟨out', c', h1, h2, h3, h4, h5⟩ := ih (pre ++ [(y : Int)]) (out ++ [(((c + y + u) % 10000 : Nat) : Int)]) ((c + y + u) / 10000) (by rw [hp]; simp) (by omega) (ho.app (Dig.one (by omega))) (by simp [hlo]) (by
    rw [toN_app, toN_app, hlo, List.length_append, List.length_singleton, toN_take, hu, Nat.pow_succ]
    simp only [toN, Int.ofNat_eq_natCast, Int.toNat_natCast, Nat.mul_zero, Nat.add_zero]
    generalize 10000 ^ pre.length = P at *
    have hd : P * ((c + y + u) % 10000) + P * (10000 * ((c + y + u) / 10000)) = P * c + P * y + P * u := by
     rw [← Nat.mul_add, ← Nat.mul_add, ← Nat.mul_add]; congr 1; omega
    rw [Nat.mul_assoc]
    omega)
   refine ⟨out', c', h1, h2, h3, h4, fun {R} k m hm => ?_⟩
   obtain ⟨m, rfl⟩ : ∃ j, m = j + 1 := ⟨m - 1, by simp at hm; omega⟩
   unfold l107_23
   simp only [g107_0, g107_1, g107_2, g107_4, g107_30, g107_7, g107_8, g107_19, g107_12, g107_13, g107_15, g107_18, g107_21, g107_22, g107_23, g107_25, g107_26, g107_28, g107_29, g107_31, g107]
   have e0 : decide ((pre.length : Int) < (a.length : Int)) = true := by simp; omega
   have e1 : (0 ≤ (pre.length : Int) ∧ (pre.length : Int) < (a.length : Int)) := by omega
   have g1 : a.getD pre.length 0 = (y : Int) := by rw [hp]; simp
   have w1 : IntKind.i64.wrap ((c : Int) + (y : Int)) = ((c + y : Nat) : Int) := by rw [← Int.natCast_add]; exact wN (by omega)
   have w6 : IntKind.i64.wrap ((pre.length : Int) + 1) = ((pre ++ [(y : Int)]).length : Int) := by rw [wrap_id (by omega)]; simp
   have w5 : IntKind.i64.wrap ((((c + y + u) / 10000 : Nat)) : Int) = ((((c + y + u) / 10000 : Nat)) : Int) := wN (by omega)
   have e4 : ∀ z : Int, (out.length + [z].length ≤ 17592186044416) := fun z => by simp; omega
   by_cases hib : pre.length < b.length
   ·have e2 : decide ((pre.length : Int) < (b.length : Int)) = true := by simp; omega
    have e3 : (0 ≤ (pre.length : Int) ∧ (pre.length : Int) < (b.length : Int)) := by omega
    have w2 : IntKind.i64.wrap (((c + y : Nat) : Int) + (u : Int)) = ((c + y + u : Nat) : Int) := by rw [← Int.natCast_add]; exact wN (by omega)
    simp only [e0, brB_true, if_pos e1, Int.toNat_natCast, g1, Int.ofNat_eq_natCast, w1, e2, if_pos e3, hu, w2, tmN, tdN, if_pos (e4 _), w5, w6]
    exact h5 k m (by simp at hm; omega)
   ·have e2 : decide ((pre.length : Int) < (b.length : Int)) = false := by simp; omega
    have hu0 : u = 0 := by have := getD_out (b := b) (i := pre.length) (by omega); omega
    subst hu0
    simp only [Nat.add_zero] at h5 w5
    simp only [e0, brB_true, if_pos e1, Int.toNat_natCast, g1, Int.ofNat_eq_natCast, w1, e2, brB_false, tmN, tdN, if_pos (e4 _), w5, w6]
    exact h5 k m (by simp at hm; omega)
theorem sadd {a b : List Int} (ha : Dig a) (hb : Dig b) (h1 : a.length ≤ 900) (h2 : b.length ≤ a.length) : ∃ l, Dig l ∧ toN l = toN a + toN b ∧ l.length ≤ a.length + 1 ∧
  ∀ {R : Type} (k : List Int → List Int → Int → List Int → Int → Int → Option R), ∃ (out' : List Int) (c' : Nat), l = (if c' > 0 then out' ++ [(c' : Int)] else out') ∧ out'.length ≤ 900 ∧ l107_23 k 2000 b [] 0 a (a.length : Int) 0 = k b out' (c' : Int) a (a.length : Int) (a.length : Int) := by
 obtain ⟨out, c, k1, k2, k3, k4, k5⟩ := ladd ha hb (by omega) a [] [] 0 rfl (by omega) Dig.nil rfl (by simp [toN])
 rw [List.take_of_length_le h2] at k4
 refine ⟨if c > 0 then out ++ [(c : Int)] else out, ?_, ?_, ?_, fun {R} k => ⟨out, c, rfl, by omega, ?_⟩⟩
 ·split
  ·exact k2.app (Dig.one (by omega))
  ·exact k2
 ·split
  ·rw [toN_app, k3]; simpa [toN] using k4
  ·have : c = 0 := by omega
   subst this; simpa using k4
 ·split
  ·simp; omega
  ·omega
 ·have := k5 k 2000 (by omega)
  simpa using this
theorem v107 (a b : List Int) (ha : Dig a) (hb : Dig b) (h1 : a.length ≤ 900) (h2 : b.length ≤ 900) : ∃ l, S107 2000 a b = some l ∧ Dig l ∧ toN l = toN a + toN b ∧ l.length ≤ max a.length b.length + 1 := by
 unfold S107
 simp only [g107_0, g107_1, g107_2, g107_4, g107_30, g107_7, g107_8, g107_19, g107_12, g107_13, g107_15, g107_18, g107_21, g107_22, g107_23, g107_25, g107_26, g107_28, g107_29, g107_31, g107]
 have fin : ∀ (x y : List Int), Dig x → Dig y → x.length ≤ 900 → y.length ≤ x.length → ∃ l, (if (0 : Int) ≤ 0 ∧ (0 : Int) ≤ IntKind.i64.wrap ((x.length : Int) + 1) ∧ IntKind.i64.wrap ((x.length : Int) + 1) ≤ ((17592186044416 : Nat) : Int) then
   l107_23 (fun y0 y1 y2 y3 y4 y5 => brB (decide (y2 > 0)) (if y1.length + [y2].length ≤ 17592186044416 then some (y1 ++ [y2]) else none) (some y1)) 2000 y (List.replicate (0 : Int).toNat 0) 0 x (x.length : Int) 0 else none) = some l ∧ Dig l ∧ toN l = toN x + toN y ∧ l.length ≤ x.length + 1 := by
  intro x y hx hy hl hxy
  obtain ⟨l, k1, k2, k3, k4⟩ := sadd hx hy hl hxy
  obtain ⟨out, c, rfl, k5, k6⟩ := k4 (R := List Int) (fun y0 y1 y2 y3 y4 y5 => brB (decide (y2 > 0)) (if y1.length + [y2].length ≤ 17592186044416 then some (y1 ++ [y2]) else none) (some y1))
  refine ⟨_, ?_, k1, k2, k3⟩
  have w1 : IntKind.i64.wrap ((x.length : Int) + 1) = (x.length : Int) + 1 := wrap_id (by omega)
  rw [w1, if_pos (by omega)]
  refine (show _ = _ from k6).trans ?_
  by_cases hc : c > 0
  ·have e : decide ((c : Int) > 0) = true := by simp; omega
   rw [e, brB_true, if_pos (by simp; omega), if_pos hc]
  ·have e : decide ((c : Int) > 0) = false := by simp; omega
   rw [e, brB_false, if_neg hc]
 by_cases h : a.length < b.length
 ·have e : decide ((a.length : Int) < (b.length : Int)) = true := by simp; omega
  obtain ⟨l, q1, q2, q3, q4⟩ := fin b a hb ha h2 (by omega)
  simp only [e, brB_true]
  exact ⟨l, q1, q2, by omega, by omega⟩
 ·have e : decide ((a.length : Int) < (b.length : Int)) = false := by simp; omega
  obtain ⟨l, q1, q2, q3, q4⟩ := fin a b ha hb h1 (by omega)
  simp only [e, brB_false]
  exact ⟨l, q1, q2, by omega, by omega⟩
theorem set_mid (o ys : List Int) (y v : Int) : (o ++ y :: ys).set o.length v = o ++ v :: ys := by simp
theorem lsub {b : List Int} (hb : Dig b) (n : Nat) (hn : n ≤ 100000) : ∀ (ys pre o : List Int) (c : Nat), Dig (pre ++ ys) → n = pre.length + ys.length → c ≤ 1 → Dig o → o.length = pre.length → toN o + toN (b.take pre.length) = toN pre + 10000 ^ pre.length * c →
  ∃ (o' : List Int) (c' : Nat), c' ≤ 1 ∧ Dig o' ∧ o'.length = n ∧ toN o' + toN (b.take n) = toN (pre ++ ys) + 10000 ^ n * c' ∧
    ∀ {R : Type} (k : List Int → List Int → Int → Int → Int → Option R) (m : Nat), ys.length < m →
      l119_23 k m b (o ++ ys) (c : Int) (n : Int) (pre.length : Int) = k b o' (c' : Int) (n : Int) (n : Int) := by
 intro ys
 induction ys with
 | nil =>
   intro pre o c hd hl hc ho hlo ht
   simp only [List.length_nil, Nat.add_zero] at hl
   subst hl
   refine ⟨o, c, hc, ho, hlo, by simpa using ht, fun {R} k m hm => ?_⟩
   obtain ⟨m, rfl⟩ : ∃ j, m = j + 1 := ⟨m - 1, by simp at hm; omega⟩
   unfold l119_23
   simp only [g119_26, g119_3, g119_4, g119_19, g119_8, g119_9, g119_11, g119_18, g119_16, g119_20, g119_21, g119_22, g119_23, g119_25, g119_26b, g119]
   have : decide ((pre.length : Int) < (pre.length : Int)) = false := by simp
   simp only [this, brB_false, List.append_nil]
 | cons y ys ih =>
   intro pre o c hd hl hc ho hlo ht
   have hy := hd y (by simp)
   obtain ⟨y, rfl⟩ := Int.eq_ofNat_of_zero_le hy.1
   have hy2 : y < 10000 := by omega
   simp only [List.length_cons] at hl
   obtain ⟨u, hu, hu2⟩ := getD_lt hb pre.length
   -- the digit and what is borrowed
   have key : ∃ (v c2 : Nat), v < 10000 ∧ c2 ≤ 1 ∧ v + u + c = y + 10000 * c2 ∧ (c2 = if ((y : Int) - c - u < 0) then 1 else 0) ∧ ((v : Int) = if ((y : Int) - c - u < 0) then (y : Int) - c - u + 10000 else (y : Int) - c - u) := by
    by_cases hneg : (y : Int) - c - u < 0
    ·exact ⟨y + 10000 - c - u, 1, by omega, by omega, by omega, by rw [if_pos hneg], by rw [if_pos hneg]; omega⟩
    ·exact ⟨y - c - u, 0, by omega, by omega, by omega, by rw [if_neg hneg], by rw [if_neg hneg]; omega⟩
   obtain ⟨v, c2, hv, hc2, heq, hc3, hv3⟩ := key
   obtain ⟨o', c', h1, h2, h3, h4, h5⟩ := ih (pre ++ [(y : Int)]) (o ++ [(v : Int)]) c2 (by simpa using hd) (by simp; omega) hc2 (ho.app (Dig.one (by omega))) (by simp [hlo]) (by
    rw [toN_app, toN_app, hlo, List.length_append, List.length_singleton, toN_take, hu, Nat.pow_succ]
    simp only [toN, Int.ofNat_eq_natCast, Int.toNat_natCast, Nat.mul_zero, Nat.add_zero]
    generalize 10000 ^ pre.length = P at *
    have hd2 : P * v + P * u + P * c = P * y + P * (10000 * c2) := by
     rw [← Nat.mul_add, ← Nat.mul_add, ← Nat.mul_add]; congr 1
    rw [Nat.mul_assoc]
    omega)
   refine ⟨o', c', h1, h2, h3, by simpa using h4, fun {R} k m hm => ?_⟩
   obtain ⟨m, rfl⟩ : ∃ j, m = j + 1 := ⟨m - 1, by simp at hm; omega⟩
   unfold l119_23
   simp only [g119_26, g119_3, g119_4, g119_19, g119_8, g119_9, g119_11, g119_18, g119_16, g119_20, g119_21, g119_22, g119_23, g119_25, g119_26b, g119]
   have e0 : decide ((pre.length : Int) < (n : Int)) = true := by simp; omega
   have lo : ∀ z : Int, (o ++ z :: ys).length = n := fun z => by simp [hlo]; omega
   have e1 : ∀ z : Int, (0 ≤ (pre.length : Int) ∧ (pre.length : Int) < ((o ++ z :: ys).length : Int)) := fun z => by rw [lo]; omega
   have e2 : ∀ z : Int, pre.length < (o ++ z :: ys).length := fun z => by rw [lo]; omega
   have g1 : ∀ z : Int, (o ++ z :: ys).getD pre.length 0 = z := fun z => by rw [← hlo]; simp
   have s1 : ∀ z v : Int, (o ++ z :: ys).set pre.length v = o ++ v :: ys := fun z v => by rw [← hlo]; exact set_mid o ys z v
   have w1 : IntKind.i64.wrap ((y : Int) - (c : Int)) = (y : Int) - c := wrap_id (by omega)
   have w2 : IntKind.i64.wrap ((y : Int) - (c : Int) - (u : Int)) = (y : Int) - c - u := wrap_id (by omega)
   have w3 : IntKind.i64.wrap ((y : Int) - (c : Int) - (u : Int) + 10000) = (y : Int) - c - u + 10000 := wrap_id (by omega)
   have w6 : IntKind.i64.wrap ((pre.length : Int) + 1) = ((pre ++ [(y : Int)]).length : Int) := by rw [wrap_id (by omega)]; simp
   have fin := h5 k m (by simp at hm; omega)
   simp only [List.append_assoc, List.cons_append, List.nil_append] at fin
   by_cases hib : pre.length < b.length
   ·have e3 : decide ((pre.length : Int) < (b.length : Int)) = true := by simp; omega
    have e4 : (0 ≤ (pre.length : Int) ∧ (pre.length : Int) < (b.length : Int)) := by omega
    simp only [e0, brB_true, if_pos (e1 _), Int.toNat_natCast, if_pos (e2 _), g1, s1, Int.ofNat_eq_natCast, w1, e3, if_pos e4, hu, w2, w6]
    by_cases hneg : (y : Int) - c - u < 0
    ·rw [if_pos hneg] at hc3 hv3
     have e5 : decide ((y : Int) - c - u < 0) = true := decide_eq_true hneg
     subst hc3; rw [hv3] at fin
     simp only [e5, brB_true, if_pos (e1 _), if_pos (e2 _), g1, s1, w3, w6]
     exact fin
    ·rw [if_neg hneg] at hc3 hv3
     have e5 : decide ((y : Int) - c - u < 0) = false := decide_eq_false hneg
     subst hc3; rw [hv3] at fin
     simp only [e5, brB_false, w6]
     exact fin
   ·have e3 : decide ((pre.length : Int) < (b.length : Int)) = false := by simp; omega
    have hu0 : u = 0 := by have := getD_out (b := b) (i := pre.length) (by omega); omega
    subst hu0
    simp only [Int.natCast_zero, Int.sub_zero] at hc3 hv3 w2 w3
    simp only [e0, brB_true, if_pos (e1 _), Int.toNat_natCast, if_pos (e2 _), g1, s1, Int.ofNat_eq_natCast, w1, e3, brB_false, w6]
    by_cases hneg : (y : Int) - c < 0
    ·rw [if_pos hneg] at hc3 hv3
     have e5 : decide ((y : Int) - c < 0) = true := decide_eq_true hneg
     subst hc3; rw [hv3] at fin
     simp only [e5, brB_true, if_pos (e1 _), if_pos (e2 _), g1, s1, w3, w6]
     exact fin
    ·rw [if_neg hneg] at hc3 hv3
     have e5 : decide ((y : Int) - c < 0) = false := decide_eq_false hneg
     subst hc3; rw [hv3] at fin
     simp only [e5, brB_false, w6]
     exact fin
theorem v119 (a b : List Int) (ha : Dig a) (hb : Dig b) (h1 : a.length ≤ 900) (h2 : b.length ≤ a.length) (h : toN b ≤ toN a) : S119 2000 a b = some (nd (toN a - toN b)) := by
 obtain ⟨o, c, k1, k2, k3, k4, k5⟩ := lsub hb a.length (by omega) a [] [] 0 (by simpa using ha) (by simp) (by omega) Dig.nil rfl (by simp [toN])
 rw [List.take_of_length_le h2, List.nil_append] at k4
 have hc : c = 0 := by
  have := toN_lt k2
  rw [k3] at this
  rcases Nat.lt_or_ge 0 c with h0 | h0
  ·have : c = 1 := by omega
   subst this
   rw [Nat.mul_one] at k4
   omega
  ·omega
 subst hc
 unfold S119 S117
 have e : a.length ≤ 17592186044416 := by omega
 simp only [g119_26, g119_3, g119_4, g119_19, g119_8, g119_9, g119_11, g119_18, g119_16, g119_20, g119_21, g119_22, g119_23, g119_25, g119_26b, g119, if_pos e, Option.bind_some]
 have k6 := k5 (R := List Int) (fun y0 y1 y2 y3 y4 => (S118 2000 y1).bind fun r => some r) 2000 (by omega)
 simp only [List.length_nil, Int.natCast_zero, List.nil_append] at k6
 refine k6.trans ?_
 rw [v118 o k2 (by omega)]
 have : toN o = toN a - toN b := by omega
 rw [this]; rfl
end Go.Fw.L51
