/- BinomialUrns. -/
import Derived.Test.YtnobiophckdjfaaFwHu51o
set_option linter.unusedVariables false
set_option linter.unusedSimpArgs false
namespace Go.Fw.L51
open Go Go.Fw
set_option maxRecDepth 100000
set_option linter.unusedSimpArgs false
set_option linter.unusedVariables false
def fa : Nat → Nat
 | 0 => 1
 | n + 1 => (n + 1) * fa n
theorem fa_pos (n : Nat) : 0 < fa n := by
 induction n with
 | zero => decide
 | succ n ih => exact Nat.mul_pos (by omega) ih
theorem ch_fa {n : Nat} : ∀ k, k ≤ n → ch n k * (fa k * fa (n - k)) = fa n := by
 intro k
 induction k with
 | zero => intro _; rw [ch_0]; simp [fa]
 | succ k ih =>
   intro hk
   have e1 := ih (by omega)
   have e2 := ch_step (n := n) (k := k) (by omega)
   obtain ⟨r, hr⟩ : ∃ r, n - k = r + 1 := ⟨n - k - 1, by omega⟩
   rw [hr] at e1 e2
   rw [show n - (k + 1) = r by omega, ← e1]
   simp only [fa]
   rw [show ch n (k + 1) * ((k + 1) * fa k * fa r) = (k + 1) * ch n (k + 1) * (fa k * fa r) by simp only [Nat.mul_left_comm, Nat.mul_comm, Nat.mul_assoc], e2]
   simp only [Nat.mul_left_comm, Nat.mul_comm, Nat.mul_assoc]
theorem ch_rev {n p q : Nat} (h : p + q ≤ n) : ch n (p + q) * ch (p + q) p = ch n p * ch (n - p) q := by
 have e1 := ch_fa (n := n) (p + q) h
 have e2 := ch_fa (n := p + q) p (by omega)
 have e3 := ch_fa (n := n) p (by omega)
 have e4 := ch_fa (n := n - p) q (by omega)
 rw [show p + q - p = q by omega] at e2
 rw [show n - p - q = n - (p + q) by omega] at e4
 have p1 := fa_pos p; have p2 := fa_pos q; have p3 := fa_pos (n - (p + q))
 apply Nat.eq_of_mul_eq_mul_right (Nat.mul_pos p1 (Nat.mul_pos p2 p3))
 have l : ch n (p + q) * ch (p + q) p * (fa p * (fa q * fa (n - (p + q)))) = fa n := by
  rw [show ch n (p + q) * ch (p + q) p * (fa p * (fa q * fa (n - (p + q)))) = ch n (p + q) * ((ch (p + q) p * (fa p * fa q)) * fa (n - (p + q))) by simp only [Nat.mul_left_comm, Nat.mul_comm, Nat.mul_assoc], e2, e1]
 have r : ch n p * ch (n - p) q * (fa p * (fa q * fa (n - (p + q)))) = fa n := by
  rw [show ch n p * ch (n - p) q * (fa p * (fa q * fa (n - (p + q)))) = ch n p * (fa p * (ch (n - p) q * (fa q * fa (n - (p + q))))) by simp only [Nat.mul_left_comm, Nat.mul_comm, Nat.mul_assoc], e4, e3]
 rw [l, r]
theorem ch_two {N p q : Nat} (hp : p ≤ N) (hq : q ≤ N) : ch N p * ch (N - p) q = ch N q * ch (N - q) p := by
 by_cases h : p + q ≤ N
 ·rw [← ch_rev h, ← ch_rev (n := N) (p := q) (q := p) (by omega), Nat.add_comm q p]
  have := ch_symm (n := p + q) (k := q) (by omega)
  rw [show p + q - q = p by omega] at this
  rw [this]
 ·rw [ch_gt (n := N - p) (by omega), ch_gt (n := N - q) (by omega), Nat.mul_zero, Nat.mul_zero]
theorem hy_sym {t m d k : Nat} (hm : m ≤ t) (hd : d ≤ t) (k1 : k ≤ m) (k2 : k ≤ d) : hy t m d k * ch t m = hy t d m k * ch t d := by
 unfold hy
 have e1 := ch_rev (n := t) (p := k) (q := m - k) (by omega)
 have e2 := ch_rev (n := t) (p := k) (q := d - k) (by omega)
 rw [show k + (m - k) = m by omega] at e1
 rw [show k + (d - k) = d by omega] at e2
 have e3 := ch_two (N := t - k) (p := m - k) (q := d - k) (by omega) (by omega)
 rw [show t - k - (m - k) = t - m by omega, show t - k - (d - k) = t - d by omega] at e3
 rw [show ch m k * ch (t - m) (d - k) * ch t m = ch t m * ch m k * ch (t - m) (d - k) by simp only [Nat.mul_left_comm, Nat.mul_comm, Nat.mul_assoc], e1, Nat.mul_assoc, e3]
 rw [show ch d k * ch (t - d) (m - k) * ch t d = ch t d * ch d k * ch (t - d) (m - k) by simp only [Nat.mul_left_comm, Nat.mul_comm, Nat.mul_assoc], e2, Nat.mul_assoc]
theorem bad_ok {t m d k : Nat} (h1 : t ≤ 400) (h2 : m ≤ t) (h3 : d ≤ t) (h4 : k ≤ d) : badD t m d k = false := by
 unfold badD
 simp
 omega
theorem lurns (x : List Int) {t m d : Nat} (ht : t ≤ 24) (hm : m ≤ t) (hd : d ≤ t) : ∀ (u j : Nat), u + j = d + 1 →
  ∀ {R : Type} (k0 : Bool → Option R) (k : List Int → Int → Int → Int → List Fra → Int → Int → Option R) (mm : Nat), u < mm →
    l8_20 (S27 2000) k0 k mm x (t : Int) (m : Int) (d : Int) (rowG (hy t m d) (ch t d) j) ((d + 1 : Nat) : Int) (j : Int) = k x (t : Int) (m : Int) (d : Int) (rowG (hy t m d) (ch t d) (d + 1)) ((d + 1 : Nat) : Int) ((d + 1 : Nat) : Int) := by
 intro u
 induction u with
 | zero =>
   intro j hj R k0 k mm hmm
   obtain ⟨mm, rfl⟩ : ∃ q, mm = q + 1 := ⟨mm - 1, by omega⟩
   obtain rfl : j = d + 1 := by omega
   have e0 : decide (((d + 1 : Nat) : Int) < ((d + 1 : Nat) : Int)) = false := by simp
   rw [l8_20]
   simp only [g8_0, g8_1, g8_2, g8_28, g8_7, g8_8, g8_16, g8_12, g8_13, g8_15, g8_18, g8_19, g8_20, g8_27, g8_29, g8, e0, brB_false]
 | succ u ih =>
   intro j hj R k0 k mm hmm
   obtain ⟨mm, rfl⟩ : ∃ q, mm = q + 1 := ⟨mm - 1, by omega⟩
   have e0 : decide ((j : Int) < ((d + 1 : Nat) : Int)) = true := by simp; omega
   have w1 : IntKind.i64.wrap ((j : Int) + 1) = ((j + 1 : Nat) : Int) := by rw [wrap_id (by omega)]; omega
   have lg : (rowG (hy t m d) (ch t d) j).length + [lo (hy t m d j) (ch t d)].length ≤ 2513169434916 := by rw [rowG_len]; simp only [List.length_cons, List.length_nil]; omega
   rw [l8_20]
   simp only [g8_0, g8_1, g8_2, g8_28, g8_7, g8_8, g8_16, g8_12, g8_13, g8_15, g8_18, g8_19, g8_20, g8_27, g8_29, g8, e0, brB_true, v27 t m d j (by omega) hm hd (by omega) (bad_ok (by omega) hm hd (by omega)), Option.bind_some, bne_self_eq_false, brB_false, if_pos lg, w1, ← rowG_succ]
   exact ih (j + 1) (by omega) k0 k mm (by omega)
theorem main8 (x : List Int) (i0 : InR (.arr 4 (.int .u8)) x) : S8 2000 x = some true := by
 have e8 : S11 2000 = some true := rfl
 obtain ⟨hl, hx⟩ : x.length = 4 ∧ ∀ y ∈ x, InR (.int .u8) y := i0
 obtain ⟨a, b, c, e, rfl⟩ : ∃ a b c e, x = [a, b, c, e] := by
  match x, hl with
  | [a, b, c, e], _ => exact ⟨a, b, c, e, rfl⟩
 obtain ⟨a1, a2⟩ := inR_u8 (hx a (by simp))
 obtain ⟨b1, b2⟩ := inR_u8 (hx b (by simp))
 obtain ⟨c1, c2⟩ := inR_u8 (hx c (by simp))
 obtain ⟨f1, f2⟩ := inR_u8 (hx e (by simp))
 obtain ⟨a, rfl⟩ := Int.eq_ofNat_of_zero_le a1
 obtain ⟨b, rfl⟩ := Int.eq_ofNat_of_zero_le b1
 obtain ⟨c, rfl⟩ := Int.eq_ofNat_of_zero_le c1
 obtain ⟨e, rfl⟩ := Int.eq_ofNat_of_zero_le f1
 have w1 : IntKind.i64.wrap (Int.tmod (a : Int) 25) = ((a % 25 : Nat) : Int) := by rw [Int.tmod_eq_emod_of_nonneg (by omega), wrap_id (by omega)]; omega
 have ht : a % 25 ≤ 24 := by omega
 generalize a % 25 = t at w1 ht
 have wt : IntKind.i64.wrap ((t : Int) + 1) = ((t + 1 : Nat) : Int) := by rw [wrap_id (by omega)]; omega
 have nt : ¬ ((t + 1 : Nat) : Int) = 0 := by omega
 have wb : Int.tmod (IntKind.i64.wrap (b : Int)) ((t + 1 : Nat) : Int) = ((b % (t + 1) : Nat) : Int) := by rw [wrap_id (by omega), Int.tmod_eq_emod_of_nonneg (by omega)]; rfl
 have wc : Int.tmod (IntKind.i64.wrap (c : Int)) ((t + 1 : Nat) : Int) = ((c % (t + 1) : Nat) : Int) := by rw [wrap_id (by omega), Int.tmod_eq_emod_of_nonneg (by omega)]; rfl
 have hm : b % (t + 1) ≤ t := Nat.le_of_lt_succ (Nat.mod_lt _ (by omega))
 have hd : c % (t + 1) ≤ t := Nat.le_of_lt_succ (Nat.mod_lt _ (by omega))
 have p0 : getP (.arr 4 (.int .u8)) [.ix (0 : Int).toNat] [(a : Int), (b : Int), (c : Int), (e : Int)] = some ⟨.int .u8, (a : Int)⟩ := rfl
 have p1 : getP (.arr 4 (.int .u8)) [.ix (1 : Int).toNat] [(a : Int), (b : Int), (c : Int), (e : Int)] = some ⟨.int .u8, (b : Int)⟩ := rfl
 have p2 : getP (.arr 4 (.int .u8)) [.ix (2 : Int).toNat] [(a : Int), (b : Int), (c : Int), (e : Int)] = some ⟨.int .u8, (c : Int)⟩ := rfl
 have p3 : getP (.arr 4 (.int .u8)) [.ix (3 : Int).toNat] [(a : Int), (b : Int), (c : Int), (e : Int)] = some ⟨.int .u8, (e : Int)⟩ := rfl
 have cu : ∀ v : Int, cast? (.int .u8) ⟨.int .u8, v⟩ = some v := fun v => rfl
 have i0 : 0 ≤ (0 : Int) ∧ (0 : Int) < ((4 : Nat) : Int) := by decide
 have i1 : 0 ≤ (1 : Int) ∧ (1 : Int) < ((4 : Nat) : Int) := by decide
 have i2 : 0 ≤ (2 : Int) ∧ (2 : Int) < ((4 : Nat) : Int) := by decide
 have i3 : 0 ≤ (3 : Int) ∧ (3 : Int) < ((4 : Nat) : Int) := by decide
 generalize hL : [(a : Int), (b : Int), (c : Int), (e : Int)] = L at p0 p1 p2 p3
 generalize b % (t + 1) = m at wb hm
 generalize c % (t + 1) = d at wc hd
 have wd : IntKind.i64.wrap ((d : Int) + 1) = ((d + 1 : Nat) : Int) := by rw [wrap_id (by omega)]; omega
 have lp := fun {R : Type} (q0 : Bool → Option R) (q : List Int → Int → Int → Int → List Fra → Int → Int → Option R) => lurns L ht hm hd (d + 1) 0 rfl q0 q 2000 (by omega)
 have r0 : rowG (hy t m d) (ch t d) 0 = [] := rfl
 simp only [r0, Int.natCast_zero] at lp
 unfold S8
 simp only [g8_0, g8_1, g8_2, g8_28, g8_7, g8_8, g8_16, g8_12, g8_13, g8_15, g8_18, g8_19, g8_20, g8_27, g8_29, g8, e8, if_pos i0, if_pos i1, if_pos i2, p0, p1, p2, cu, w1, wt, if_neg nt, wb, wc, wd, Option.bind_some, Bool.not_true, brB_false]
 refine (lp _ _).trans ?_
 have em : (if (d : Int) < (m : Int) then (d : Int) else (m : Int)) = ((min m d : Nat) : Int) := by split <;> omega
 have hmin : min m d ≤ 24 := by omega
 have k1 : min m d ≤ m := Nat.min_le_left ..
 have k2 : min m d ≤ d := Nat.min_le_right ..
 generalize min m d = q at em hmin k1 k2
 have wq : IntKind.i64.wrap ((q : Int) + 1) = ((q + 1 : Nat) : Int) := by rw [wrap_id (by omega)]; omega
 have nq : ¬ ((q + 1 : Nat) : Int) = 0 := by omega
 have we : Int.tmod (IntKind.i64.wrap (e : Int)) ((q + 1 : Nat) : Int) = ((e % (q + 1) : Nat) : Int) := by rw [wrap_id (by omega), Int.tmod_eq_emod_of_nonneg (by omega)]; rfl
 have hk : e % (q + 1) ≤ q := Nat.le_of_lt_succ (Nat.mod_lt _ (by omega))
 generalize e % (q + 1) = k at we hk
 have t1 := v27 t m d k (by omega) hm hd (by omega) (bad_ok (by omega) hm hd (by omega))
 have t2 := v27 t d m k (by omega) hd hm (by omega) (bad_ok (by omega) hd hm (by omega))
 have t3 := v29 t m d k (by omega) hm hd (by omega) (bad_ok (by omega) hm hd (by omega))
 have c1 : 0 < ch t d := ch_pos hd
 have c2 : 0 < ch t m := ch_pos hm
 rw [← lo_congr c1 c2 (hy_sym hm hd (show k ≤ m by omega) (show k ≤ d by omega))] at t2
 have hM : Bd (10000 ^ 17) := ⟨by decide, by decide +kernel⟩
 have cb : ch t d ≤ 10000 ^ 17 := Nat.le_trans (ch_le t d) (Nat.le_trans (Nat.pow_le_pow_right (by decide) ht) (by decide +kernel))
 have s1 := v32 hM (hy t m d) (ch t d) (d + 1) cb c1 (by omega) (by rw [hy_all hm]; exact cb)
 have s2 := v32 hM (fun i => hy t m d (k + i)) (ch t d) (d + 1 - k) cb c1 (by omega) (Nat.le_trans (hy_part hm k (d + 1 - k) (by omega)) cb)
 rw [hy_all hm, lo_congr c1 (show 0 < 1 by omega) (n' := 1) (Nat.mul_comm ..)] at s1
 have q1 : 0 ≤ (k : Int) ∧ (k : Int) ≤ ((d + 1 : Nat) : Int) ∧ ((d + 1 : Nat) : Int) ≤ ((d + 1 : Nat) : Int) ∧ ((d + 1 : Nat) : Int) ≤ ((d + 1 : Nat) : Int) := ⟨by omega, by omega, by omega, by omega⟩
 have dt : ((rowG (hy t m d) (ch t d) (d + 1)).drop k).take (d + 1 - k) = rowG (fun i => hy t m d (k + i)) (ch t d) (d + 1 - k) := by
  rw [rowG_drop, List.take_of_length_le (by rw [rowG_len]; omega)]
 have eq1 := v31 1 (by omega)
 simp only [Int.natCast_one] at eq1
 have b36 := ch36 (n := t) (by omega) d
 simp only [g8_0, g8_1, g8_2, g8_28, g8_7, g8_8, g8_16, g8_12, g8_13, g8_15, g8_18, g8_19, g8_20, g8_27, g8_29, g8, if_pos i3, p3, cu, em, wq, if_neg nq, we, t1, t2, t3, s1, eq1, rowG_len, if_pos q1, Int.toNat_natCast, dt, s2, Option.bind_some, beq_self_eq_true, brB_true, vL21 _ _ (b36.le (hy_le hm (show k ≤ d by omega))) b36, vL21 _ _ (b36.le (hy_part hm k (d + 1 - k) (by omega))) b36]
end Go.Fw.L51
