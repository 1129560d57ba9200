/- Natural numbers: the reference's functions on digits. -/
import Derived.Test.YtnobiophckdjfaaFwHs51e
set_option linter.unusedVariables false
set_option linter.unusedSimpArgs false
namespace Go.Fw.L51
open Go Go.Fw
set_option maxRecDepth 100000
set_option linter.unusedSimpArgs false
set_option linter.unusedVariables false
theorem ltrimr {R : Type} (k : List Int → Option R) : ∀ (m : Nat) (l : List Int), l.length < m → l.length ≤ 100000 → Dig l → l113_6 k m l = k (nd (toN l)) := by
 intro m
 induction m with
 | zero => intro l h; omega
 | succ m ih =>
   intro l hm hl hd
   unfold l113_6
   simp only [g113_0, g113_1, g113_3, g113_5, g113_6, g113_8, g113_9, g113]
   rcases snoc_cases l with rfl | ⟨ys, d, rfl⟩
   ·simp [brB, toN, nd_zero]
   ·have e0 : decide (((ys ++ [d]).length : Int) > 0) = true := by simp <;> omega
    have e1 : IntKind.i64.wrap (((ys ++ [d]).length : Int) - 1) = (ys.length : Int) := by
     rw [List.length_append]; exact wsub1 (by simp at hl; omega)
    have e2 : (0 ≤ (ys.length : Int) ∧ (ys.length : Int) < ((ys ++ [d]).length : Int)) := by simp <;> omega
    have e3 : (0 ≤ (0 : Int) ∧ (0 : Int) ≤ (ys.length : Int) ∧ (ys.length : Int) ≤ ((ys ++ [d]).length : Int) ∧ ((ys ++ [d]).length : Int) ≤ ((ys ++ [d]).length : Int)) := by simp <;> omega
    simp only [e0, brB_true, e1, if_pos e2, if_pos e3, Int.toNat_natCast, getD_snoc]
    by_cases h : d = 0
    ·subst h
     simp only [beq_self_eq_true, brB_true]
     have e4 : ((ys ++ [(0 : Int)]).drop (0 : Int).toNat).take (ys.length - (0 : Int).toNat) = ys := by simp
     rw [e4, ih ys (by simp at hm; omega) (by simp at hl; omega) hd.left, nd_snoc0]
    ·have e5 : (d == (0 : Int)) = false := by simpa using h
     simp only [e5, brB_false]
     rw [nd_toN hd (top_snoc h)]
theorem v113 (l : List Int) (hd : Dig l) (hl : l.length ≤ 1900) : S113 2000 l = some (nd (toN l)) := by
 unfold S113
 simp only [g113_0, g113_1, g113_3, g113_5, g113_6, g113_8, g113_9, g113]
 exact ltrimr _ 2000 l (by omega) (by omega) hd
theorem v112 (l : List Int) (i : Nat) : S112 2000 l (i : Int) = some (l.getD i 0) := by
 unfold S112
 simp only [g112_0, g112_1, g112_2, g112_4, g112_5, g112]
 by_cases h : i < l.length
 ·have e : decide ((i : Int) < (l.length : Int)) = true := by simp; omega
  simp only [e, brB_true, if_pos (show 0 ≤ (i : Int) ∧ (i : Int) < (l.length : Int) by omega), Int.toNat_natCast]
 ·have e : decide ((i : Int) < (l.length : Int)) = false := by simp; omega
  simp only [e, brB_false, getD_out (b := l) (i := i) (by omega)]
theorem lcmpr {R : Type} (k : Int → Option R) (t : List Int) : ∀ (m : Nat) (xs ys : List Int), xs.length < m → xs.length ≤ 100000 → xs.length = ys.length → Dig xs → Dig ys →
  l90_19 k (fun a b i => k 0) m (xs ++ t) (ys ++ t) ((xs.length : Int) - 1) = k (cmpN (toN (xs ++ t)) (toN (ys ++ t))) := by
 intro m
 induction m generalizing t with
 | zero => intro xs ys h; omega
 | succ m ih =>
   intro xs ys hm hb hl hx hy
   unfold l90_19
   simp only [g90_0, g90_1, g90_2, g90_4, g90_5, g90_7, g90_8, g90_10, g90_11, g90_13, g90_14, g90_17, g90_18, g90_19, g90_21, g90_22, g90]
   rcases snoc_cases xs with rfl | ⟨xs, d, rfl⟩
   ·have : ys = [] := List.length_eq_zero_iff.1 (by simpa using hl.symm)
    subst this
    simp [brB, cmpN_self]
   ·rcases snoc_cases ys with rfl | ⟨ys, e, rfl⟩
    ·simp at hl
    ·have hl' : xs.length = ys.length := by simpa using hl
     have e0 : (((xs ++ [d]).length : Int) - 1) = (xs.length : Int) := by simp
     have e1 : decide ((xs.length : Int) ≥ 0) = true := by simp
     have e2 : (0 ≤ (xs.length : Int) ∧ (xs.length : Int) < ((xs ++ [d] ++ t).length : Int)) := by simp; omega
     have e3 : (0 ≤ (xs.length : Int) ∧ (xs.length : Int) < ((ys ++ [e] ++ t).length : Int)) := by simp; omega
     have g1 : (xs ++ [d] ++ t).getD xs.length 0 = d := by simp
     have g2 : (ys ++ [e] ++ t).getD xs.length 0 = e := by simp [hl']
     have hd := hx d (by simp); have he := hy e (by simp)
     simp only [e0, e1, brB_true, if_pos e2, if_pos e3, Int.toNat_natCast, g1, g2]
     simp only [List.append_assoc, List.cons_append, List.nil_append]
     by_cases hlt : d < e
     ·have := top_lt (t := t) hx.left hl' hd.1 hlt
      have e4 : decide (d < e) = true := decide_eq_true hlt
      simp only [e4, brB_true, cmpN, if_pos this]
     ·have e4 : decide (d < e) = false := decide_eq_false hlt
      by_cases hgt : d > e
      ·have := top_lt (t := t) hy.left hl'.symm he.1 (by omega : e < d)
       have e5 : decide (d > e) = true := decide_eq_true hgt
       simp only [e4, e5, brB_true, brB_false, cmpN, if_neg (Nat.lt_asymm this), if_pos this]
      ·have h : d = e := by omega
       subst h
       have e5 : decide (d > d) = false := decide_eq_false hgt
       have e6 : IntKind.i64.wrap ((xs.length : Int) - 1) = (xs.length : Int) - 1 := wrap_id (by simp at hb; omega)
       simp only [e4, e5, brB_false, e6]
       exact ih (d :: t) xs ys (by simp at hm; omega) (by simp at hb; omega) hl' hx.left hy.left
theorem v90 (a b : Nat) (ha : (nd a).length ≤ 1900) (hb : (nd b).length ≤ 1900) : S90 2000 (nd a) (nd b) = some (cmpN a b) := by
 unfold S90
 simp only [g90_0, g90_1, g90_2, g90_4, g90_5, g90_7, g90_8, g90_10, g90_11, g90_13, g90_14, g90_17, g90_18, g90_19, g90_21, g90_22, g90]
 by_cases hlt : (nd a).length < (nd b).length
 ·have : a < b := Nat.lt_of_not_le fun hc => by have := len_nd_mono hc; omega
  have e2 : decide (((nd a).length : Int) < ((nd b).length : Int)) = true := by simp; omega
  simp only [e2, brB_true, cmpN, if_pos this]
 ·have e2 : decide (((nd a).length : Int) < ((nd b).length : Int)) = false := by simp; omega
  by_cases hgt : (nd b).length < (nd a).length
  ·have : b < a := Nat.lt_of_not_le fun hc => by have := len_nd_mono hc; omega
   have e3 : decide (((nd a).length : Int) > ((nd b).length : Int)) = true := by simp; omega
   simp only [e2, e3, brB_false, brB_true, cmpN, if_neg (Nat.lt_asymm this), if_pos this]
  ·have e3 : decide (((nd a).length : Int) > ((nd b).length : Int)) = false := by simp; omega
   have e4 : IntKind.i64.wrap (((nd a).length : Int) - 1) = ((nd a).length : Int) - 1 := wrap_id (by omega)
   simp only [e2, e3, brB_false, e4]
   have := lcmpr (R := Int) some [] 2000 (nd a) (nd b) (by omega) (by omega) (by omega) (dig_nd a) (dig_nd b)
   simpa [toN_nd] using this
theorem v60 (a b : Nat) (ha : (nd a).length ≤ 1900) (hb : (nd b).length ≤ 1900) : S60 2000 (nd a, ()) (nd b, ()) = some (cmpN a b) := by
 unfold S60
 simp only [g60_2, g60_2b, g60, v90 a b ha hb, Option.bind_some]
theorem v51 (a b : Nat) (ha : (nd a).length ≤ 1900) (hb : (nd b).length ≤ 1900) : S51 2000 (nd a, ()) (nd b, ()) = some (decide (a = b)) := by
 unfold S51
 simp only [g51_2, g51_2b, g51, v60 a b ha hb, Option.bind_some]
 by_cases h : a = b
 ·subst h; simp [cmpN_self]
 ·have := mt cmpN_eq.1 h
  simp [h, this]
theorem lsum {a b : List Int} (ha : Dig a) (hb : Dig b) {M : Nat} (hM : M = max a.length b.length) (hl : M ≤ 100000) : ∀ (d i : Nat) (out : List Int) (c : Nat), d + i = M → c ≤ 1 → Dig out → out.length = i → toN out + 10000 ^ i * c = toN (a.take i) + toN (b.take i) →
  ∃ (out' : List Int) (c' : Nat), c' ≤ 1 ∧ Dig out' ∧ out'.length = M ∧ toN out' + 10000 ^ M * c' = toN a + toN b ∧
    ∀ {R : Type} (k : List Int → List Int → List Int → Int → Int → Option R) (m : Nat), d < m →
      l89_13 (S112 2000) k m a b out (c : Int) (i : Int) = k a b out' (c' : Int) (M : Int) := by
 intro d
 induction d with
 | zero =>
   intro i out c hd hc ho hlo ht
   have : i = M := by omega
   subst this
   rw [List.take_of_length_le (by omega), List.take_of_length_le (by omega)] at ht
   refine ⟨out, c, hc, ho, hlo, ht, fun {R} k m hm => ?_⟩
   obtain ⟨m, rfl⟩ : ∃ j, m = j + 1 := ⟨m - 1, by omega⟩
   rw [l89_13]
   have e1 : decide ((i : Int) < (a.length : Int)) = false := by simp; omega
   have e2 : decide ((i : Int) < (b.length : Int)) = false := by simp; omega
   simp only [g89_16, g89_3, g89_4, g89_9, g89_11, g89_12, g89_13, g89_15, g89_16b, g89, e1, e2, brB_false]
 | succ d ih =>
   intro i out c hd hc ho hlo ht
   obtain ⟨y, hy, hy2⟩ := getD_lt ha i
   obtain ⟨u, hu, hu2⟩ := getD_lt hb i
   obtain ⟨out', c', h1, h2, h3, h4, h5⟩ := ih (i + 1) (out ++ [(((y + u + c) % 10000 : Nat) : Int)]) ((y + u + c) / 10000) (by omega) (by omega) (ho.app (Dig.one (by omega))) (by simp [hlo]) (by
    rw [toN_app, toN_take, toN_take, hlo, hy, hu, Nat.pow_succ]
    simp only [toN, Int.ofNat_eq_natCast, Int.toNat_natCast, Nat.mul_zero, Nat.add_zero]
    generalize 10000 ^ i = P at *
    have hd : P * ((y + u + c) % 10000) + P * (10000 * ((y + u + c) / 10000)) = P * y + P * u + P * c := by
     rw [← Nat.mul_add, ← Nat.mul_add, ← Nat.mul_add]; congr 1; omega
    rw [Nat.mul_assoc]
    omega)
   refine ⟨out', c', h1, h2, h3, h4, fun {R} k m hm => ?_⟩
   obtain ⟨m, rfl⟩ : ∃ j, m = j + 1 := ⟨m - 1, by omega⟩
   have w1 : IntKind.i64.wrap ((y : Int) + (u : Int)) = ((y + u : Nat) : Int) := by rw [← Int.natCast_add]; exact wN (by omega)
   have w2 : IntKind.i64.wrap (((y + u : Nat) : Int) + (c : Int)) = ((y + u + c : Nat) : Int) := by rw [← Int.natCast_add]; exact wN (by omega)
   have w5 : IntKind.i64.wrap ((((y + u + c) / 10000 : Nat)) : Int) = ((((y + u + c) / 10000 : Nat)) : Int) := wN (by omega)
   have w6 : IntKind.i64.wrap ((i : Int) + 1) = ((i + 1 : Nat) : Int) := by rw [wrap_id (by omega)]; omega
   have e4 : ∀ z : Int, (out.length + [z].length ≤ 17592186044416) := fun z => by simp; omega
   rw [l89_13]
   have fin := h5 k m (by omega)
   by_cases hia : i < a.length
   ·have e1 : decide ((i : Int) < (a.length : Int)) = true := by simp; omega
    simp only [g89_16, g89_3, g89_4, g89_9, g89_11, g89_12, g89_13, g89_15, g89_16b, g89, e1, brB_true, v112, hy, hu, Option.bind_some, w1, w2, tmN, tdN, if_pos (e4 _), w5, w6]
    exact fin
   ·have e1 : decide ((i : Int) < (a.length : Int)) = false := by simp; omega
    have e2 : decide ((i : Int) < (b.length : Int)) = true := by simp; omega
    simp only [g89_16, g89_3, g89_4, g89_9, g89_11, g89_12, g89_13, g89_15, g89_16b, g89, e1, e2, brB_true, brB_false, v112, hy, hu, Option.bind_some, w1, w2, tmN, tdN, if_pos (e4 _), w5, w6]
    exact fin
theorem v89 (a b : List Int) (ha : Dig a) (hb : Dig b) (h1 : a.length ≤ 900) (h2 : b.length ≤ 900) : S89 2000 a b = some (nd (toN a + toN b)) := by
 obtain ⟨out, c, k1, k2, k3, k4, k5⟩ := lsum ha hb rfl (by omega) (max a.length b.length) 0 [] 0 (by omega) (by omega) Dig.nil rfl (by simp [toN])
 unfold S89
 simp only [g89_16, g89_3, g89_4, g89_9, g89_11, g89_12, g89_13, g89_15, g89_16b, g89]
 have k6 := fun (k : List Int → List Int → List Int → Int → Int → Option (List Int)) => k5 k 2000 (by omega)
 simp only [Int.natCast_zero] at k6
 refine (k6 _).trans ?_
 rw [if_pos (by simp; omega), v113 _ (k2.app (Dig.one (by omega))) (by simp; omega), toN_app, k3, toN_one, k4]
 rfl
theorem lless {a b : List Int} (ha : Dig a) (hb : Dig b) (hl : a.length ≤ 100000) : ∀ (ys pre o : List Int) (c : Nat), a = pre ++ ys → c ≤ 1 → Dig o → o.length = pre.length → toN o + toN (b.take pre.length) = toN pre + 10000 ^ pre.length * c →
  ∃ (o' : List Int) (c' : Nat), c' ≤ 1 ∧ Dig o' ∧ o'.length = a.length ∧ toN o' + toN (b.take a.length) = toN a + 10000 ^ a.length * c' ∧
    ∀ {R : Type} (k : List Int → List Int → List Int → Int → Int → Option R) (m : Nat), ys.length < m →
      l91_19 (S112 2000) k m a b o (c : Int) (pre.length : Int) = k a b o' (c' : Int) (a.length : Int) := by
 intro ys
 induction ys with
 | nil =>
   intro pre o c hp hc ho hlo ht
   have hpre : pre = a := by simpa using hp.symm
   subst hpre
   refine ⟨o, c, hc, ho, hlo, ht, fun {R} k m hm => ?_⟩
   obtain ⟨m, rfl⟩ : ∃ j, m = j + 1 := ⟨m - 1, by simp at hm; omega⟩
   rw [l91_19]
   have : decide ((pre.length : Int) < (pre.length : Int)) = false := by simp
   simp only [g91_22, g91_3, g91_4, g91_15, g91_8, g91_11, g91_13, g91_14, g91_17, g91_18, g91_19, g91_21, g91_22b, g91, this, brB_false]
 | cons y ys ih =>
   intro pre o c hp hc ho hlo ht
   have hy := ha y (by rw [hp]; simp)
   obtain ⟨y, rfl⟩ := Int.eq_ofNat_of_zero_le hy.1
   have hy2 : y < 10000 := by omega
   have hlen : a.length = pre.length + (ys.length + 1) := by rw [hp]; simp
   obtain ⟨u, hu, hu2⟩ := getD_lt hb pre.length
   have key : ∃ (v c2 : Nat), v < 10000 ∧ c2 ≤ 1 ∧ v + u + c = y + 10000 * c2 ∧ (c2 = if ((y : Int) - u - c < 0) then 1 else 0) ∧ ((v : Int) = if ((y : Int) - u - c < 0) then (y : Int) - u - c + 10000 else (y : Int) - u - c) := by
    by_cases hneg : (y : Int) - u - c < 0
    ·exact ⟨y + 10000 - u - c, 1, by omega, by omega, by omega, by rw [if_pos hneg], by rw [if_pos hneg]; omega⟩
    ·exact ⟨y - u - c, 0, by omega, by omega, by omega, by rw [if_neg hneg], by rw [if_neg hneg]; omega⟩
   obtain ⟨v, c2, hv, hc2, heq, hc3, hv3⟩ := key
   obtain ⟨o', c', h1, h2, h3, h4, h5⟩ := ih (pre ++ [(y : Int)]) (o ++ [(v : Int)]) c2 (by rw [hp]; simp) hc2 (ho.app (Dig.one (by omega))) (by simp [hlo]) (by
    rw [toN_app, toN_app, hlo, List.length_append, List.length_singleton, toN_take, hu, Nat.pow_succ]
    simp only [toN, Int.ofNat_eq_natCast, Int.toNat_natCast, Nat.mul_zero, Nat.add_zero]
    generalize 10000 ^ pre.length = P at *
    have hd2 : P * v + P * u + P * c = P * y + P * (10000 * c2) := by
     rw [← Nat.mul_add, ← Nat.mul_add, ← Nat.mul_add]; congr 1
    rw [Nat.mul_assoc]
    omega)
   refine ⟨o', c', h1, h2, h3, h4, fun {R} k m hm => ?_⟩
   obtain ⟨m, rfl⟩ : ∃ j, m = j + 1 := ⟨m - 1, by simp at hm; omega⟩
   have e0 : decide ((pre.length : Int) < (a.length : Int)) = true := by simp; omega
   have e1 : (0 ≤ (pre.length : Int) ∧ (pre.length : Int) < (a.length : Int)) := by omega
   have g1 : a.getD pre.length 0 = (y : Int) := by rw [hp]; simp
   have w1 : IntKind.i64.wrap ((y : Int) - (u : Int)) = (y : Int) - u := wrap_id (by omega)
   have w2 : IntKind.i64.wrap ((y : Int) - (u : Int) - (c : Int)) = (y : Int) - u - c := wrap_id (by omega)
   have w3 : IntKind.i64.wrap ((y : Int) - (u : Int) - (c : Int) + 10000) = (y : Int) - u - c + 10000 := wrap_id (by omega)
   have w6 : IntKind.i64.wrap ((pre.length : Int) + 1) = ((pre ++ [(y : Int)]).length : Int) := by rw [wrap_id (by omega)]; simp
   have e4 : ∀ z : Int, (o.length + [z].length ≤ 17592186044416) := fun z => by simp; omega
   have fin := h5 k m (by simp at hm; omega)
   rw [l91_19]
   simp only [g91_22, g91_3, g91_4, g91_15, g91_8, g91_11, g91_13, g91_14, g91_17, g91_18, g91_19, g91_21, g91_22b, g91, e0, brB_true, if_pos e1, v112, hu, Option.bind_some, Int.toNat_natCast, g1, Int.ofNat_eq_natCast, w1, w2]
   by_cases hneg : (y : Int) - u - c < 0
   ·rw [if_pos hneg] at hc3 hv3
    have e5 : decide ((y : Int) - u - c < 0) = true := decide_eq_true hneg
    subst hc3; rw [hv3] at fin
    simp only [e5, brB_true, w3, if_pos (e4 _), w6]
    exact fin
   ·rw [if_neg hneg] at hc3 hv3
    have e5 : decide ((y : Int) - u - c < 0) = false := decide_eq_false hneg
    subst hc3; rw [hv3] at fin
    simp only [e5, brB_false, if_pos (e4 _), w6]
    exact fin
theorem v91 (a b : List Int) (ha : Dig a) (hb : Dig b) (h1 : a.length ≤ 900) (h2 : b.length ≤ a.length) (h : toN b ≤ toN a) : S91 2000 a b = some (nd (toN a - toN b)) := by
 obtain ⟨o, c, k1, k2, k3, k4, k5⟩ := lless ha hb (by omega) a [] [] 0 rfl (by omega) Dig.nil rfl (by simp [toN])
 rw [List.take_of_length_le h2] at k4
 have hc : c = 0 := by
  have := toN_lt k2
  rw [k3] at this
  rcases Nat.lt_or_ge 0 c with h0 | h0
  ·have : c = 1 := by omega
   subst this
   rw [Nat.mul_one] at k4
   omega
  ·omega
 subst hc
 unfold S91
 simp only [g91_22, g91_3, g91_4, g91_15, g91_8, g91_11, g91_13, g91_14, g91_17, g91_18, g91_19, g91_21, g91_22b, g91]
 have k6 := fun (k : List Int → List Int → List Int → Int → Int → Option (List Int)) => k5 k 2000 (by omega)
 simp only [List.length_nil, Int.natCast_zero] at k6
 refine (k6 _).trans ?_
 have : toN o = toN a - toN b := by omega
 rw [v113 o k2 (by omega), this]; rfl
theorem ltm1 {a b : List Int} (ha : Dig a) (hb : Dig b) {i : Nat} (hi : i < a.length) {x : Nat} (hx : a.getD i 0 = (x : Int)) (hx2 : x < 10000) : ∀ (ys pre out : List Int) (c : Nat), b = pre ++ ys → c < 10000 → Dig out → i + b.length + 1 ≤ out.length → out.length ≤ 100000 → out.getD (i + b.length) 0 = 0 →
  ∃ (out' : List Int) (kf : Int), Dig out' ∧ out'.length = out.length ∧ (∀ q, i + b.length + 1 ≤ q → out'.getD q 0 = out.getD q 0) ∧
    toN out' = toN out + 10000 ^ (i + pre.length) * (x * toN ys + c) ∧
    ∀ {R : Type} (k : List Int → List Int → List Int → Int → Int → Int → Option R) (m : Nat), ys.length + 1 < m →
      l88_16 (S112 2000) k m a b out (i : Int) (c : Int) (pre.length : Int) = k a b out' (i : Int) 0 kf := by
 intro ys
 induction ys with
 | nil =>
   intro pre out c hp hc ho hl hl2 hz
   have hpre : pre = b := by simpa using hp.symm
   subst hpre
   have e1 : decide ((pre.length : Int) < (pre.length : Int)) = false := by simp
   by_cases hc0 : c = 0
   ·subst hc0
    refine ⟨out, (pre.length : Int), ho, rfl, fun _ _ => rfl, by simp [toN], fun {R} k m hm => ?_⟩
    obtain ⟨m, rfl⟩ : ∃ j, m = j + 1 := ⟨m - 1, by omega⟩
    rw [l88_16]
    simp [g88_25, g88_2, g88_3, g88_18, g88_7, g88_12, g88_14, g88_15, g88_16, g88_20, g88_21, g88_22, g88_24, g88_25b, g88, brB]
   ·have hp1 : i + pre.length < out.length := by omega
    refine ⟨out.set (i + pre.length) (c : Int), ((pre.length + 1 : Nat) : Int), dig_set ho (by omega), by simp, fun q hq => ?_, ?_, fun {R} k m hm => ?_⟩
    ·have : i + pre.length ≠ q := by omega
     simp [List.getD_eq_getElem?_getD, List.getElem?_set, this]
    ·have hs := toN_set out (i + pre.length) (c : Int) hp1
     rw [hz] at hs
     simpa [toN] using hs
    ·obtain ⟨m, rfl⟩ : ∃ j, m = j + 2 := ⟨m - 2, by omega⟩
     have e2 : decide ((c : Int) > 0) = true := by simp; omega
     have w1 : IntKind.i64.wrap ((i : Int) + (pre.length : Int)) = ((i + pre.length : Nat) : Int) := by rw [wrap_id (by omega)]; omega
     have e3 : (0 ≤ ((i + pre.length : Nat) : Int) ∧ ((i + pre.length : Nat) : Int) < (out.length : Int)) := by omega
     have e4 : (0 ≤ (i : Int) ∧ (i : Int) < (a.length : Int)) := by omega
     have g2 : pre.getD pre.length 0 = 0 := getD_out (Nat.le_refl _)
     have w2 : IntKind.i64.wrap (0 : Int) = 0 := wrap_id (by omega)
     have w3 : IntKind.i64.wrap (c : Int) = (c : Int) := wN (by omega)
     have w4 : IntKind.i64.wrap ((pre.length : Int) + 1) = ((pre.length + 1 : Nat) : Int) := by rw [wrap_id (by omega)]; omega
     have q1 : c % 10000 = c := Nat.mod_eq_of_lt hc
     have q2 : c / 10000 = 0 := Nat.div_eq_of_lt hc
     have e5 : decide (((pre.length + 1 : Nat) : Int) < (pre.length : Int)) = false := by simp; omega
     have e6 : decide ((0 : Int) > 0) = false := by simp
     rw [l88_16]
     simp only [g88_25, g88_2, g88_3, g88_18, g88_7, g88_12, g88_14, g88_15, g88_16, g88_20, g88_21, g88_22, g88_24, g88_25b, g88, e1, e2, brB_true, brB_false, w1, if_pos e3, if_pos e4, Int.toNat_natCast, if_pos hp1, v112, g2, Option.bind_some, Int.mul_zero, Int.add_zero, hz, w2, Int.zero_add, w3, tmN, tdN, q1, q2, w4, Int.natCast_zero]
     rw [l88_16]
     simp only [g88_25, g88_2, g88_3, g88_18, g88_7, g88_12, g88_14, g88_15, g88_16, g88_20, g88_21, g88_22, g88_24, g88_25b, g88, e5, e6, brB_false]
 | cons y ys ih =>
   intro pre out c hp hc ho hl hl2 hz
   have hy := hb y (by rw [hp]; simp)
   obtain ⟨y, rfl⟩ := Int.eq_ofNat_of_zero_le hy.1
   have hy2 : y < 10000 := by omega
   have hlen : b.length = pre.length + (ys.length + 1) := by rw [hp]; simp
   have hp1 : i + pre.length < out.length := by omega
   have hg := dig_get ho (i + pre.length)
   obtain ⟨o, ho2⟩ := Int.eq_ofNat_of_zero_le hg.1
   have ho3 : o < 10000 := by omega
   have hxy : x * y ≤ 9999 * 9999 := Nat.mul_le_mul (by omega) (by omega)
   have hq : (o + x * y + c) / 10000 < 10000 := by omega
   obtain ⟨out', kf, h2, h3, h4, h5, h6⟩ := ih (pre ++ [(y : Int)]) (out.set (i + pre.length) (((o + x * y + c) % 10000 : Nat) : Int)) ((o + x * y + c) / 10000) (by rw [hp]; simp) hq (dig_set ho (by omega)) (by simpa using hl) (by simpa using hl2) (by
    have : ¬ pre.length = b.length := by omega
    simpa [List.getD_eq_getElem?_getD, List.getElem?_set, this] using hz)
   refine ⟨out', kf, h2, by simpa using h3, fun q hq => ?_, ?_, fun {R} k m hm => ?_⟩
   ·rw [h4 q hq]
    have : i + pre.length ≠ q := by omega
    simp [List.getD_eq_getElem?_getD, List.getElem?_set, this]
   ·rw [h5]
    have hs := toN_set out (i + pre.length) (((o + x * y + c) % 10000 : Nat) : Int) hp1
    rw [ho2] at hs
    simp only [Int.ofNat_eq_natCast, Int.toNat_natCast, List.length_append, List.length_cons, List.length_nil, toN] at hs ⊢
    rw [show i + (pre.length + (0 + 1)) = (i + pre.length) + 1 by omega, Nat.pow_succ]
    generalize 10000 ^ (i + pre.length) = P at *
    generalize toN (out.set (i + pre.length) (((o + x * y + c) % 10000 : Nat) : Int)) = T1 at *
    generalize toN ys = T at *
    have hd : P * ((o + x * y + c) % 10000) + P * (10000 * ((o + x * y + c) / 10000)) = P * o + P * (x * y) + P * c := by
     rw [← Nat.mul_add, ← Nat.mul_add, ← Nat.mul_add]; congr 1; omega
    generalize (o + x * y + c) % 10000 = r at *
    generalize (o + x * y + c) / 10000 = t at *
    rw [show P * 10000 * (x * T + t) = P * (x * (10000 * T)) + P * (10000 * t) by rw [Nat.mul_assoc, ← Nat.mul_add]; congr 1; rw [Nat.mul_add]; congr 1; simp only [Nat.mul_left_comm, Nat.mul_comm, Nat.mul_assoc]]
    rw [Nat.mul_add, Nat.mul_add x, Nat.mul_add P]
    omega
   ·obtain ⟨m, rfl⟩ : ∃ j, m = j + 1 := ⟨m - 1, by omega⟩
    have e0 : decide ((pre.length : Int) < (b.length : Int)) = true := by simp; omega
    have e1 : (0 ≤ (i : Int) ∧ (i : Int) < (a.length : Int)) := by omega
    have g1 : b.getD pre.length 0 = (y : Int) := by rw [hp]; simp
    have w1 : IntKind.i64.wrap ((i : Int) + (pre.length : Int)) = ((i + pre.length : Nat) : Int) := by rw [wrap_id (by omega)]; omega
    have e2 : (0 ≤ ((i + pre.length : Nat) : Int) ∧ ((i + pre.length : Nat) : Int) < (out.length : Int)) := by omega
    have w2 : IntKind.i64.wrap ((x : Int) * (y : Int)) = ((x * y : Nat) : Int) := by rw [← Int.natCast_mul]; exact wN (by omega)
    have w3 : IntKind.i64.wrap ((o : Int) + ((x * y : Nat) : Int)) = ((o + x * y : Nat) : Int) := by rw [← Int.natCast_add]; exact wN (by omega)
    have w4 : IntKind.i64.wrap (((o + x * y : Nat) : Int) + (c : Int)) = ((o + x * y + c : Nat) : Int) := by rw [← Int.natCast_add]; exact wN (by omega)
    have w5 : IntKind.i64.wrap ((((o + x * y + c) / 10000 : Nat)) : Int) = ((((o + x * y + c) / 10000 : Nat)) : Int) := wN (by omega)
    have w6 : IntKind.i64.wrap ((pre.length : Int) + 1) = ((pre ++ [(y : Int)]).length : Int) := by rw [wrap_id (by omega)]; simp
    have ho4 : out.getD (i + pre.length) 0 = (o : Int) := ho2
    rw [l88_16]
    simp only [g88_25, g88_2, g88_3, g88_18, g88_7, g88_12, g88_14, g88_15, g88_16, g88_20, g88_21, g88_22, g88_24, g88_25b, g88, e0, brB_true, if_pos e1, Int.toNat_natCast, v112, g1, Option.bind_some, Int.ofNat_eq_natCast, w1, if_pos e2, if_pos hp1, ho4, hx, w2, w3, w4, tdN, tmN, w5, w6]
    exact h6 k m (by simp at hm; omega)
theorem ltm2 {a b : List Int} (ha : Dig a) (hb : Dig b) (hb2 : b.length ≤ 1900) : ∀ (ys pre out : List Int), a = pre ++ ys → out.length = a.length + b.length + 1 → out.length ≤ 100000 → Dig out → (∀ q, pre.length + b.length ≤ q → out.getD q 0 = 0) → toN out = toN pre * toN b →
  ∃ out' : List Int, Dig out' ∧ out'.length = out.length ∧ toN out' = toN a * toN b ∧
    ∀ {R : Type} (k : List Int → List Int → List Int → Int → Option R) (m : Nat), ys.length < m →
      l88_22 2000 (S112 2000) k m a b out (pre.length : Int) = k a b out' (a.length : Int) := by
 intro ys
 induction ys with
 | nil =>
   intro pre out hp hl hl2 ho hz ht
   have hpre : pre = a := by simpa using hp.symm
   subst hpre
   refine ⟨out, ho, rfl, ht, fun {R} k m hm => ?_⟩
   obtain ⟨m, rfl⟩ : ∃ j, m = j + 1 := ⟨m - 1, by simp at hm; omega⟩
   rw [l88_22]
   have : decide ((pre.length : Int) < (pre.length : Int)) = false := by simp
   simp only [g88_25, g88_2, g88_3, g88_18, g88_7, g88_12, g88_14, g88_15, g88_16, g88_20, g88_21, g88_22, g88_24, g88_25b, g88, this, brB_false]
 | cons x ys ih =>
   intro pre out hp hl hl2 ho hz ht
   have hx := ha x (by rw [hp]; simp)
   obtain ⟨x, rfl⟩ := Int.eq_ofNat_of_zero_le hx.1
   have hx2 : x < 10000 := by omega
   have hlen : a.length = pre.length + (ys.length + 1) := by rw [hp]; simp
   have g1 : a.getD pre.length 0 = (x : Int) := by rw [hp]; simp
   obtain ⟨o1, kf, h2, h3, h4, h5, h6⟩ := ltm1 ha hb (i := pre.length) (by omega) g1 hx2 b [] out 0 rfl (by omega) ho (by omega) hl2 (hz _ (Nat.le_refl _))
   obtain ⟨out', k1, k2, k3, k4⟩ := ih (pre ++ [(x : Int)]) o1 (by rw [hp]; simp) (by omega) (by omega) h2 (fun q hq => by
    simp only [List.length_append, List.length_cons, List.length_nil] at hq
    rw [h4 q (by omega)]; exact hz q (by omega)) (by
    simp only [List.length_nil, Nat.add_zero] at h5
    rw [h5, ht, toN_app]
    simp only [toN, Int.ofNat_eq_natCast, Int.toNat_natCast, Nat.mul_zero, Nat.add_zero]
    rw [Nat.add_mul, Nat.mul_assoc])
   refine ⟨out', k1, by omega, k3, fun {R} k m hm => ?_⟩
   obtain ⟨m, rfl⟩ : ∃ j, m = j + 1 := ⟨m - 1, by simp at hm; omega⟩
   have e0 : decide ((pre.length : Int) < (a.length : Int)) = true := by simp; omega
   have w3 : IntKind.i64.wrap ((pre.length : Int) + 1) = ((pre ++ [(x : Int)]).length : Int) := by rw [wrap_id (by omega)]; simp
   have h7 := fun {R : Type} (k : List Int → List Int → List Int → Int → Int → Int → Option R) => h6 k 2000 (by omega)
   simp only [List.length_nil, Int.natCast_zero] at h7
   rw [l88_22]
   simp only [g88_25, g88_2, g88_3, g88_18, g88_7, g88_12, g88_14, g88_15, g88_16, g88_20, g88_21, g88_22, g88_24, g88_25b, g88, e0, brB_true, h7, w3]
   exact k4 k m (by simp at hm; omega)
theorem v88 (a b : List Int) (ha : Dig a) (hb : Dig b) (h1 : a.length ≤ 900) (h2 : b.length ≤ 900) : S88 2000 a b = some (nd (toN a * toN b)) := by
 obtain ⟨out, k1, k2, k3, k4⟩ := ltm2 ha hb (by omega) a [] (List.replicate (a.length + b.length + 1) 0) rfl (by simp) (by simp; omega) (Dig.zeros _) (fun q _ => by simp [List.getD_eq_getElem?_getD, List.getElem?_replicate]; split <;> rfl) (by rw [toN_zeros]; simp [toN])
 unfold S88
 simp only [g88_25, g88_2, g88_3, g88_18, g88_7, g88_12, g88_14, g88_15, g88_16, g88_20, g88_21, g88_22, g88_24, g88_25b, g88]
 have w0 : IntKind.i64.wrap ((a.length : Int) + (b.length : Int)) = ((a.length + b.length : Nat) : Int) := by rw [wrap_id (by omega)]; omega
 have w1 : IntKind.i64.wrap (((a.length + b.length : Nat) : Int) + 1) = ((a.length + b.length + 1 : Nat) : Int) := by rw [wrap_id (by omega)]; omega
 have e1 : (0 ≤ ((a.length + b.length + 1 : Nat) : Int) ∧ ((a.length + b.length + 1 : Nat) : Int) ≤ ((a.length + b.length + 1 : Nat) : Int) ∧ ((a.length + b.length + 1 : Nat) : Int) ≤ ((17592186044416 : Nat) : Int)) := by omega
 simp only [w0, w1, if_pos e1, Int.toNat_natCast]
 have k5 := fun (k : List Int → List Int → List Int → Int → Option (List Int)) => k4 k 2000 (by omega)
 simp only [List.length_nil, Int.natCast_zero] at k5
 refine (k5 _).trans ?_
 rw [v113 out k1 (by rw [k2]; simp; omega), k3]; rfl
theorem lsearchr {bn r : Nat} (hb : 0 < bn) (hbl : (nd bn).length ≤ 800) (hr : r < 10000 * bn) (q a : List Int) (i : Int) : ∀ (j low high : Nat), high - low < 2 ^ j → low ≤ high → high ≤ 9999 → low * bn ≤ r → r < (high + 1) * bn →
  ∀ {R : Type} (k : List Int → List Int → List Int → List Int → Int → Int → Int → Option R) (m : Nat), j < m →
    l110_18 (S88 2000) (S90 2000) k m a (nd bn) q (nd r) i (low : Int) (high : Int) = k a (nd bn) q (nd r) i ((r / bn : Nat) : Int) ((r / bn : Nat) : Int) := by
 have hrl : (nd r).length ≤ 801 := by
  have h1 := len_mul 10000 bn
  have h2 := len_nd_mono (Nat.le_of_lt hr)
  have h3 : (nd 10000).length ≤ 2 := by rw [len_nd_le]; decide
  have h4 : (nd r).length ≤ (nd bn).length + 1 := by
   rw [len_nd_le, Nat.pow_succ]
   have := len_nd_le.1 (Nat.le_refl (nd bn).length)
   omega
  omega
 intro j
 induction j with
 | zero =>
   intro low high h1 h2 h3 h4 h5 R k m hm
   have : low = high := by simp at h1; omega
   subst this
   obtain ⟨m, rfl⟩ : ∃ j, m = j + 1 := ⟨m - 1, by omega⟩
   unfold l110_18
   simp only [g110_30, g110_3, g110_4, g110_23, g110_8, g110_15, g110_12, g110_13, g110_17, g110_18, g110_22, g110_25, g110_26, g110_27, g110_29, g110_30b, g110]
   have e0 : decide ((low : Int) < (low : Int)) = false := by simp
   have hq : r / bn = low := Nat.div_eq_of_lt_le (by rw [Nat.mul_comm] at h4; rw [Nat.mul_comm]; exact h4) (by simpa [Nat.mul_comm] using h5)
   simp only [e0, brB_false, hq]
 | succ j ih =>
   intro low high h1 h2 h3 h4 h5 R k m hm
   obtain ⟨m, rfl⟩ : ∃ j, m = j + 1 := ⟨m - 1, by omega⟩
   unfold l110_18
   simp only [g110_30, g110_3, g110_4, g110_23, g110_8, g110_15, g110_12, g110_13, g110_17, g110_18, g110_22, g110_25, g110_26, g110_27, g110_29, g110_30b, g110]
   by_cases he : low = high
   ·subst he
    have e0 : decide ((low : Int) < (low : Int)) = false := by simp
    have hq : r / bn = low := Nat.div_eq_of_lt_le (by rw [Nat.mul_comm] at h4; rw [Nat.mul_comm]; exact h4) (by simpa [Nat.mul_comm] using h5)
    simp only [e0, brB_false, hq]
   ·have e0 : decide ((low : Int) < (high : Int)) = true := by simp; omega
    have w1 : IntKind.i64.wrap ((low : Int) + (high : Int)) = ((low + high : Nat) : Int) := by rw [← Int.natCast_add]; exact wN (by omega)
    have w2 : IntKind.i64.wrap (((low + high : Nat) : Int) + 1) = ((low + high + 1 : Nat) : Int) := by rw [wrap_id (by omega)]; omega
    have w3 : IntKind.i64.wrap (((low + high + 1) / 2 : Nat) : Int) = (((low + high + 1) / 2 : Nat) : Int) := wN (by omega)
    rw [Nat.pow_succ] at h1
    generalize hmid : (low + high + 1) / 2 = mid at *
    have hm1 : low < mid ∧ mid ≤ high := by omega
    have hmul := v88 (nd bn) [(mid : Int)] (dig_nd bn) (Dig.one (by omega)) (by omega) (by simp)
    rw [toN_nd, toN_one] at hmul
    have hcl : (nd (bn * mid)).length ≤ 1900 := by
     have h6 := len_mul bn mid
     have h7 := len_dig (n := mid) (by omega)
     omega
    have hcmp := v90 (bn * mid) r hcl (by omega)
    simp only [e0, brB_true, w1, w2, td2, hmid, w3, hmul, hcmp, Option.bind_some]
    by_cases hle : bn * mid ≤ r
    ·have e1 : decide (cmpN (bn * mid) r ≤ 0) = true := decide_eq_true (cmpN_le.2 hle)
     simp only [e1, brB_true]
     exact ih mid high (by omega) hm1.2 h3 (by rw [Nat.mul_comm]; exact hle) h5 k m (by omega)
    ·have e1 : decide (cmpN (bn * mid) r ≤ 0) = false := decide_eq_false fun h => hle (cmpN_le.1 h)
     have w4 : IntKind.i64.wrap ((mid : Int) - 1) = ((mid - 1 : Nat) : Int) := by rw [wrap_id (by omega)]; omega
     simp only [e1, brB_false, w4]
     refine ih low (mid - 1) (by omega) (by omega) (by omega) h4 ?_ k m (by omega)
     rw [show mid - 1 + 1 = mid by omega, Nat.mul_comm]; omega
end Go.Fw.L51
