/- WeightOpen: the law of plain values. -/
import Derived.Test.YtngkconohhikpaaFwH16
import Derived.Test.YtngkconohhikpaaFwQ
set_option linter.unusedVariables false
set_option linter.unusedSimpArgs false
namespace Go.Fw.L16
open Go Go.Fw
set_option maxRecDepth 100000
set_option linter.unusedSimpArgs false
set_option linter.unusedVariables false
/-- the options of the table, and of the last syllable -/
def o12 (q y : Int) : List Op3 := match S12 60 q y with | some r => r.1 | none => []
def o15 (q : Int) (b : Bool) : List Op3 := match S15 60 q b with | some r => r.1 | none => []

theorem set4 (xs : List Int) (i : Int) (v : Int) (h : i.toNat < xs.length) : setP (.arr 4 (.int .i64)) [.ix i.toNat] xs ⟨.int .i64, v⟩ = some (xs.set i.toNat v) := by
  simp only [setP, if_pos h, cast?, dite_true, Option.bind_some]
theorem get4 (xs : List Int) (i : Nat) (h : i < xs.length) : (getP (.arr 4 (.int .i64)) [.ix i] xs) = some ⟨.int .i64, xs.getD i 0⟩ := by
  simp only [getP, if_pos h]; rfl

theorem body9 (c : Int) (b : Bool) (ks s t : List Int) (q y : Int) (hks : ks.length < 60) (hy : IntKind.i64.wrap ((1 : Int) + (IntKind.i64.wrap (Int.tmod c (4 : Int)))) = y)
    (h12 : S12 60 q y = some (o12 q y, 0)) (h15 : S15 60 q b = some (o15 q b, 0)) (l12 : (o12 q y).length < 60) (l15 : (o15 q b).length < 60) (hs : s.length = 4) (ht : t.length = 4) (h1 : 0 ≤ q) (h3 : q ≤ 3)
    {R : Type} (k0 : Bool → Option R) (k1 : Int → Bool → List Int → List Int → List Int → Int → Option R) (m : Nat) :
    l9_17 (S12 60) (S15 60) (S19 60) (S25 60) k0 k1 (m + 1) c b ks s t q = l9_17 (S12 60) (S15 60) (S19 60) (S25 60) k0 k1 m c b ks (s.set q.toNat (wt ((o12 q y).filter (alw ks)))) (t.set q.toNat (wt ((o15 q b).filter (alw ks)))) (q + 1) := by
  have e1 : decide (q ≤ 3) = true := by simpa using h3
  have e2 : 0 ≤ q ∧ q < ((4 : Nat) : Int) := by omega
  have f1 : ((o12 q y).filter (alw ks)).length < 60 := Nat.lt_of_le_of_lt (List.length_filter_le _ _) l12
  have f2 : ((o15 q b).filter (alw ks)).length < 60 := Nat.lt_of_le_of_lt (List.length_filter_le _ _) l15
  have e0 : ((0 : Int) != 0) = false := rfl
  have w : IntKind.i64.wrap (q + 1) = q + 1 := wrap_id (by omega)
  conv => lhs; unfold l9_17
  simp only [g9_0, g9_1, g9_2, g9_4, g9_5, g9_6, g9_8, g9_9, g9_10, g9_11, g9_13, g9_15, g9_16, g9_17, g9_19, g9_20, g9, e1, hy, h12, h15, Option.bind_some, e0, brB_true, brB_false, v25 _ ks l12 hks, v25 _ ks l15 hks, v19 _ f1, v19 _ f2, if_pos e2]
  rw [set4 _ _ _ (by omega), Option.bind_some, set4 _ _ _ (by omega), Option.bind_some, w]

/-- what the kinds say -/
theorem alw_eq (ks : List Int) : alw ks = fun x => (x.2.2.1 == 0 || ks.any fun k => x.2.2.1 == k) := rfl

def pt (b1 b2 b3 b4 b5 b6 : Bool) (k : Int) : Bool := if k = 1 then b1 else if k = 2 then b2 else if k = 3 then b3 else if k = 4 then b4 else if k = 5 then b5 else b6
def kinds6 (l : List Op3) : Bool := l.all fun x => decide (0 ≤ x.2.2.1) && decide (x.2.2.1 ≤ 6)
theorem filter_pt (p : Int → Bool) {l : List Op3} (h : kinds6 l = true) : (l.filter fun x => (x.2.2.1 == 0 || p x.2.2.1)) = l.filter fun x => (x.2.2.1 == 0 || pt (p 1) (p 2) (p 3) (p 4) (p 5) (p 6) x.2.2.1) := by
  apply List.filter_congr
  intro x hx
  have := List.all_eq_true.1 h x hx
  simp only [Bool.and_eq_true, decide_eq_true_eq] at this
  obtain ⟨h1, h2⟩ := this
  have hc : x.2.2.1 = 0 ∨ x.2.2.1 = 1 ∨ x.2.2.1 = 2 ∨ x.2.2.1 = 3 ∨ x.2.2.1 = 4 ∨ x.2.2.1 = 5 ∨ x.2.2.1 = 6 := by omega
  rcases hc with e | e | e | e | e | e | e <;> rw [e] <;> rfl

def fit12 (b1 b2 b3 b4 b5 b6 : Bool) (y : Int) : Bool := wt ((o12 3 y).filter fun x => (x.2.2.1 == 0 || pt b1 b2 b3 b4 b5 b6 x.2.2.1)) == Go.bits .or .i64 (wt ((o12 1 y).filter fun x => (x.2.2.1 == 0 || pt b1 b2 b3 b4 b5 b6 x.2.2.1))) (wt ((o12 2 y).filter fun x => (x.2.2.1 == 0 || pt b1 b2 b3 b4 b5 b6 x.2.2.1)))
def fit15 (b1 b2 b3 b4 b5 b6 : Bool) (b : Bool) : Bool := wt ((o15 3 b).filter fun x => (x.2.2.1 == 0 || pt b1 b2 b3 b4 b5 b6 x.2.2.1)) == Go.bits .or .i64 (wt ((o15 1 b).filter fun x => (x.2.2.1 == 0 || pt b1 b2 b3 b4 b5 b6 x.2.2.1))) (wt ((o15 2 b).filter fun x => (x.2.2.1 == 0 || pt b1 b2 b3 b4 b5 b6 x.2.2.1)))
theorem all12 : ∀ y ∈ ([1, 2, 3, 4] : List Int), kinds6 (o12 1 y) = true ∧ kinds6 (o12 2 y) = true ∧ kinds6 (o12 3 y) = true ∧ ∀ b1 b2 b3 b4 b5 b6 : Bool, fit12 b1 b2 b3 b4 b5 b6 y = true := by decide +kernel
theorem all15 : ∀ b : Bool, kinds6 (o15 1 b) = true ∧ kinds6 (o15 2 b) = true ∧ kinds6 (o15 3 b) = true ∧ ∀ b1 b2 b3 b4 b5 b6 : Bool, fit15 b1 b2 b3 b4 b5 b6 b = true := by decide +kernel
theorem fin12 (ks : List Int) (y : Int) (hy : y ∈ ([1, 2, 3, 4] : List Int)) : wt ((o12 3 y).filter (alw ks)) = Go.bits .or .i64 (wt ((o12 1 y).filter (alw ks))) (wt ((o12 2 y).filter (alw ks))) := by
  obtain ⟨h1, h2, h3, h4⟩ := all12 y hy
  rw [alw_eq, filter_pt (fun n => ks.any fun k => n == k) h1, filter_pt (fun n => ks.any fun k => n == k) h2, filter_pt (fun n => ks.any fun k => n == k) h3]
  have := h4 (ks.any fun k => 1 == k) (ks.any fun k => 2 == k) (ks.any fun k => 3 == k) (ks.any fun k => 4 == k) (ks.any fun k => 5 == k) (ks.any fun k => 6 == k)
  exact beq_iff_eq.1 this
theorem fin15 (ks : List Int) (b : Bool) : wt ((o15 3 b).filter (alw ks)) = Go.bits .or .i64 (wt ((o15 1 b).filter (alw ks))) (wt ((o15 2 b).filter (alw ks))) := by
  obtain ⟨h1, h2, h3, h4⟩ := all15 b
  rw [alw_eq, filter_pt (fun n => ks.any fun k => n == k) h1, filter_pt (fun n => ks.any fun k => n == k) h2, filter_pt (fun n => ks.any fun k => n == k) h3]
  have := h4 (ks.any fun k => 1 == k) (ks.any fun k => 2 == k) (ks.any fun k => 3 == k) (ks.any fun k => 4 == k) (ks.any fun k => 5 == k) (ks.any fun k => 6 == k)
  exact beq_iff_eq.1 this

def good12 (q y : Int) : Bool := match S12 60 q y with | some r => r.2 == 0 && decide (r.1.length < 60) | none => false
def good15 (q : Int) (b : Bool) : Bool := match S15 60 q b with | some r => r.2 == 0 && decide (r.1.length < 60) | none => false
theorem gd12 : ∀ q ∈ ([1, 2, 3] : List Int), ∀ y ∈ ([1, 2, 3, 4] : List Int), good12 q y = true := by decide +kernel
theorem gd15 : ∀ q ∈ ([1, 2, 3] : List Int), ∀ b : Bool, good15 q b = true := by decide +kernel
theorem s12 (q : Int) (hq : q ∈ ([1, 2, 3] : List Int)) (y : Int) (hy : y ∈ ([1, 2, 3, 4] : List Int)) : S12 60 q y = some (o12 q y, 0) ∧ (o12 q y).length < 60 := by
  have h := gd12 q hq y hy
  unfold good12 at h
  unfold o12
  cases hs : S12 60 q y with
  | none => rw [hs] at h; simp at h
  | some r =>
    rw [hs] at h
    simp only [Bool.and_eq_true, beq_iff_eq, decide_eq_true_eq] at h
    exact ⟨by rw [← h.1], h.2⟩
theorem s15 (q : Int) (hq : q ∈ ([1, 2, 3] : List Int)) (b : Bool) : S15 60 q b = some (o15 q b, 0) ∧ (o15 q b).length < 60 := by
  have h := gd15 q hq b
  unfold good15 at h
  unfold o15
  cases hs : S15 60 q b with
  | none => rw [hs] at h; simp at h
  | some r =>
    rw [hs] at h
    simp only [Bool.and_eq_true, beq_iff_eq, decide_eq_true_eq] at h
    exact ⟨by rw [← h.1], h.2⟩

theorem cast_int (x : Int) : cast? (.int .i64) ⟨.int .i64, x⟩ = some x := by kernel_rfl
theorem t1 (u v w : Int) : getP (.arr 4 (.int .i64)) [.ix (1 : Int).toNat] ((((List.replicate 4 (0 : Int)).set (1 : Int).toNat u).set (2 : Int).toNat v).set (3 : Int).toNat w) = some ⟨.int .i64, u⟩ := by kernel_rfl
theorem t2 (u v w : Int) : getP (.arr 4 (.int .i64)) [.ix (2 : Int).toNat] ((((List.replicate 4 (0 : Int)).set (1 : Int).toNat u).set (2 : Int).toNat v).set (3 : Int).toNat w) = some ⟨.int .i64, v⟩ := by kernel_rfl
theorem t3 (u v w : Int) : getP (.arr 4 (.int .i64)) [.ix (3 : Int).toNat] ((((List.replicate 4 (0 : Int)).set (1 : Int).toNat u).set (2 : Int).toNat v).set (3 : Int).toNat w) = some ⟨.int .i64, w⟩ := by kernel_rfl

theorem f9 (c : Int) (b : Bool) (ks : List Int) (hks : ks.length ≤ 40) (y : Int) (hy : y ∈ ([1, 2, 3, 4] : List Int)) (hc : IntKind.i64.wrap ((1 : Int) + (IntKind.i64.wrap (Int.tmod c (4 : Int)))) = y) : S9 60 c b ks = some true := by
  have e2 : decide ((ks.length : Int) > 40) = false := by simp only [gt_iff_lt, decide_eq_false_iff_not]; omega
  have b1 := fun s t hs ht => @body9 c b ks s t 1 y (by omega) hc (s12 1 (by simp) y hy).1 (s15 1 (by simp) b).1 (s12 1 (by simp) y hy).2 (s15 1 (by simp) b).2 hs ht (by omega) (by omega)
  have b2 := fun s t hs ht => @body9 c b ks s t 2 y (by omega) hc (s12 2 (by simp) y hy).1 (s15 2 (by simp) b).1 (s12 2 (by simp) y hy).2 (s15 2 (by simp) b).2 hs ht (by omega) (by omega)
  have b3 := fun s t hs ht => @body9 c b ks s t 3 y (by omega) hc (s12 3 (by simp) y hy).1 (s15 3 (by simp) b).1 (s12 3 (by simp) y hy).2 (s15 3 (by simp) b).2 hs ht (by omega) (by omega)
  have last : ∀ {R : Type} (k0 : Bool → Option R) (k1 : Int → Bool → List Int → List Int → List Int → Int → Option R) (m : Nat) (s t : List Int), l9_17 (S12 60) (S15 60) (S19 60) (S25 60) k0 k1 (m + 1) c b ks s t (3 + 1) = k1 c b ks s t (3 + 1) := by
    intro R k0 k1 m s t
    have e : decide ((3 : Int) + 1 ≤ 3) = false := rfl
    conv => lhs; unfold l9_17
    simp only [g9_0, g9_1, g9_2, g9_4, g9_5, g9_6, g9_8, g9_9, g9_10, g9_11, g9_13, g9_15, g9_16, g9_17, g9_19, g9_20, g9, e, brB_false]
  simp only [S9, g9_0, g9_1, g9_2, g9_4, g9_5, g9_6, g9_8, g9_9, g9_10, g9_11, g9_13, g9_15, g9_16, g9_17, g9_19, g9_20, g9, v11, Option.bind_some, Bool.not_true, brB_true, brB_false, e2]
  rw [b1 _ _ rfl rfl, show ((1 : Int) + 1) = 2 from rfl, b2 _ _ rfl rfl, show ((2 : Int) + 1) = 3 from rfl, b3 _ _ rfl rfl, last]
  have n3 : (0 ≤ (3 : Int) ∧ (3 : Int) < ((4 : Nat) : Int)) := by omega
  have n1 : (0 ≤ (1 : Int) ∧ (1 : Int) < ((4 : Nat) : Int)) := by omega
  have n2 : (0 ≤ (2 : Int) ∧ (2 : Int) < ((4 : Nat) : Int)) := by omega
  simp only [if_pos n3, if_pos n1, if_pos n2]
  have g := fin12 ks y hy
  have g' := fin15 ks b
  rw [t3, t1, t2]
  simp only [Option.bind_some, cast_int]
  rw [t3, t1, t2]
  simp only [Option.bind_some, cast_int, g, g', beq_self_eq_true, brB_true]

theorem main9 (c : Int) (b : Bool) (ks : List Int) (hc : inR .u8 c) (_ : True) (hk : InR (.sl (.int .i64)) ks) : S9 60 c b ks = some true := by
  by_cases k40 : ks.length ≤ 40
  · have a2 : (0:Int) ≤ c := hc.1
    have h4 : 0 ≤ c.tmod 4 := Int.tmod_nonneg 4 a2
    have h5 : c.tmod 4 < 4 := Int.tmod_lt_of_pos c (by decide)
    refine f9 c b ks k40 (1 + c.tmod 4) ?_ ?_
    · simp; omega
    · rw [wrap_id (n := c.tmod 4) (by omega), wrap_id (by omega)]
  · have e2 : decide ((ks.length : Int) > 40) = true := by simp only [gt_iff_lt, decide_eq_true_eq]; omega
    simp only [S9, g9_0, g9_1, g9_2, g9_4, g9_5, g9_6, g9_8, g9_9, g9_10, g9_11, g9_13, g9_15, g9_16, g9_17, g9_19, g9_20, g9, v11, Option.bind_some, Bool.not_true, brB_true, brB_false, e2]
end Go.Fw.L16
