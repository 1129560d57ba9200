/- Soundness, part 4: the program's types; constants; reading and writing cells. -/
import Derived.Test.YtggppceiapjadaaFwS3
set_option linter.unusedVariables false
set_option linter.unusedSimpArgs false
namespace Go.Fw
open Go Go.RowKit

/-! ### Constants -/
def eq1 : Value → Value → Bool
  | .int k n, .int k' n' => decide (k = k') && decide (n = n')
  | .bool a, .bool b => a == b
  | .string a, .string b => decide (a = b)
  | .slice none 0 0, .slice none 0 0 => true
  | _, _ => false

theorem eq1_eq {a b : Value} (h : eq1 a b = true) : a = b := by
  unfold eq1 at h
  split at h <;> simp_all

def eqL : List Value → List Value → Bool
  | [], [] => true
  | a :: r, b :: s => eq1 a b && eqL r s
  | _, _ => false

theorem eqL_eq : ∀ {a b : List Value}, eqL a b = true → a = b
  | [], [], _ => rfl
  | a :: r, b :: s, h => by
    simp only [eqL, Bool.and_eq_true] at h
    rw [eq1_eq h.1, eqL_eq h.2]
  | [], _ :: _, h => by simp [eqL] at h
  | _ :: _, [], h => by simp [eqL] at h

def eqV (T : Ty) (vs : List Value) (v : Value) : Bool :=
  match isAggT T, v with
  | true, .agg cs => eqL vs cs.toList
  | false, v => match vs with | [u] => eq1 u v | _ => false
  | _, _ => false

theorem eqV_eq {T : Ty} {vs : List Value} {v : Value} (h : eqV T vs v = true) : v = asVal T vs := by
  unfold eqV at h
  unfold asVal
  split at h
  · rename_i ht
    rw [if_pos ht, eqL_eq h]
  · rename_i ht
    split at h
    · rw [if_neg (by simp [ht]), eq1_eq h]; rfl
    · exact absurd h (by simp)
  · exact absurd h (by simp)

def inRb (k : IntKind) (n : Int) : Bool := decide (k.min ≤ n) && decide (n ≤ k.max)

def repM (n : Nat) (l : List Value) : List Value := match n with | 0 => [] | n + 1 => l ++ repM n l

def constV : (T : Ty) → den T → Option (List Value)
  | .int k, n => if inRb k n then some [.int k n] else none
  | .bool, b => some [.bool b]
  | .str, s => if s.length ≤ 1000000 then some [.string ⟨⟨s⟩⟩] else none
  | .unit, _ => some []
  | .sl _, xs => match xs with | [] => some [.slice none 0 0] | _ => none
  | .pair A B, x => match constV A x.1, constV B x.2 with
    | some a, some b => some (a ++ b)
    | _, _ => none
  | .arr n T, xs => if xs.length = n then (List.foldr (fun x acc => match constV T x, acc with | some a, some b => some (a ++ b) | _, _ => none) (some []) xs) else none
  | .fn _ _, _ => none

/-- how a zero value may be held -/
def annOk : Ty → Ann → Bool
  | .sl _, .hole => false
  | .pair A B, o => annOk A o.l && annOk B o.r
  | _, _ => true

theorem constV_flat (P : Program) : ∀ (T : Ty) {x : den T} {vs : List Value} (w : World) (G : Nat → Nat → Prop) (B : Nat) (o : Ann), annOk T o = true → constV T x = some vs → Flat P T w G B o x vs []
  | .int k, x, vs, w, G, B, o, _, h => by
    simp only [constV] at h
    split at h
    · rename_i hr
      simp only [inRb, Bool.and_eq_true, decide_eq_true_eq] at hr
      simp only [Option.some.injEq] at h
      unfold Flat; exact ⟨h.symm, hr, rfl⟩
    · exact absurd h (by simp)
  | .bool, x, vs, w, G, B, o, _, h => by simp only [constV, Option.some.injEq] at h; unfold Flat; exact ⟨h.symm, rfl⟩
  | .str, x, vs, w, G, B, o, _, h => by
    simp only [constV] at h
    split at h
    · rename_i hr
      simp only [Option.some.injEq] at h
      unfold Flat; exact ⟨h.symm, by unfold maxLen; omega, rfl⟩
    · exact absurd h (by simp)
  | .unit, x, vs, w, G, B, o, _, h => by simp only [constV, Option.some.injEq] at h; unfold Flat; exact ⟨h.symm, rfl⟩
  | .sl T, x, vs, w, G, B, o, ho, h => by
    simp only [constV] at h
    split at h
    · simp only [Option.some.injEq] at h
      subst h
      cases o with
      | no => unfold Flat; exact ⟨rfl, none, 0, rfl, by simp, by simp [maxLen], .inl rfl⟩
      | pair => unfold Flat; exact ⟨rfl, none, 0, rfl, by simp, by simp [maxLen], .inl rfl⟩
      | hole => simp [annOk] at ho
      | own wr e o => unfold Flat; exact ⟨_, [], [], rfl, rowX_of (World.ownsRow_nil _ _ _ _), ⟨rfl, rfl⟩, rfl⟩
    · exact absurd h (by simp)
  | .pair A C, x, vs, w, G, B, o, ho, h => by
    simp only [annOk, Bool.and_eq_true] at ho
    simp only [constV] at h
    split at h
    · rename_i a b ha hb
      simp only [Option.some.injEq] at h
      subst h
      unfold Flat
      exact ⟨a, b, [], [], rfl, rfl, constV_flat P A w G B o.l ho.1 ha, constV_flat P C w G B o.r ho.2 hb⟩
    · exact absurd h (by simp)
  | .arr n T, x, vs, w, G, B, o, _, h => by
    simp only [constV] at h
    split at h
    · rename_i hn
      unfold Flat
      refine ⟨hn, ?_⟩
      clear hn
      revert vs
      induction (x : List (den T)) with
      | nil => intro vs h; simp only [List.foldr_nil, Option.some.injEq] at h; exact ⟨h.symm, rfl⟩
      | cons y ys ih =>
        intro vs h
        simp only [List.foldr_cons] at h
        split at h
        · rename_i a b ha hb
          simp only [Option.some.injEq] at h
          have hy : Flat P T w G B .no y a [] := constV_flat P T w G B .no (by cases T <;> simp [annOk, Ann.l, Ann.r] <;> exact annOk_no' _ _) ha
          exact ⟨a, b, [], [], h.symm, rfl, hy, ih _ hb⟩
        · exact absurd h (by simp)
    · exact absurd h (by simp)
  | .fn _ _, x, vs, w, G, B, o, _, h => by simp [constV] at h
where
  annOk_no : ∀ T, annOk T .no = true
    | .int _ => rfl | .bool => rfl | .str => rfl | .unit => rfl | .sl _ => rfl | .arr _ _ => rfl | .fn _ _ => rfl
    | .pair A B => by simp only [annOk, Bool.and_eq_true]; exact ⟨annOk_no A, annOk_no B⟩
  annOk_no' : ∀ A B, annOk A .no = true ∧ annOk B .no = true := fun A B => ⟨annOk_no A, annOk_no B⟩

/-! ### Types of the program -/
def aggD : TypeDesc → Bool
  | .struct _ | .array _ _ => true
  | _ => false

mutual
def tyOk (P : Program) : Nat → TypeId → Ty → Bool
  | 0, _, _ => false
  | n + 1, t, T => (match P.info? t with | some i => i.size == cellsN T | none => false) &&
    match P.underlying t with
    | some (.int k) => (match T with | .int k' => decide (k = k') | _ => false)
    | some .bool => (match T with | .bool => true | _ => false)
    | some .string => (match T with | .str => true | _ => false)
    | some (.slice e) => (match T with | .sl T' => tyOk P n e T' | _ => false)
    | some (.array m e) => (match T with | .arr m' T' => m == m' && tyOk P n e T' | _ => false)
    | some (.struct fs) => fldOk P n fs.toList T 0
    | some (.func _ _ _) => (match T with | .fn _ _ => true | _ => false)
    | _ => false
def fldOk (P : Program) : Nat → List Field → Ty → Nat → Bool
  | 0, _, _, _ => false
  | _ + 1, [], T, _ => (match T with | .unit => true | _ => false)
  | n + 1, f :: fs, T, off => (match T with | .pair A B => f.offset == off && tyOk P n f.type A && fldOk P n fs B (off + cellsN A) | _ => false)
end

structure TyR (P : Program) (t : TypeId) (T : Ty) : Prop where
  ok : ∃ n, tyOk P n t T = true

theorem TyR.size {P : Program} {t : TypeId} {T : Ty} (h : TyR P t T) : ∃ i, P.info? t = some i ∧ i.size = cellsN T := by
  obtain ⟨⟨n, h⟩⟩ := h
  cases n with
  | zero => simp [tyOk] at h
  | succ n =>
    simp only [tyOk, Bool.and_eq_true] at h
    cases hi : P.info? t with
    | none => simp [hi] at h
    | some i => exact ⟨i, rfl, by simpa [hi] using h.1⟩

theorem TyR.agg {P : Program} {t : TypeId} {T : Ty} (h : TyR P t T) : ∃ d, P.underlying t = some d ∧ aggD d = isAggT T := by
  obtain ⟨⟨n, h⟩⟩ := h
  cases n with
  | zero => simp [tyOk] at h
  | succ n =>
    simp only [tyOk, Bool.and_eq_true] at h
    have h2 := h.2
    cases hu : P.underlying t with
    | none => simp [hu] at h2
    | some d =>
      refine ⟨d, rfl, ?_⟩
      cases d with
      | struct fs =>
        simp only [hu] at h2
        cases n with
        | zero => simp [fldOk] at h2
        | succ n =>
          cases hfs : fs.toList with
          | nil => rw [hfs] at h2; cases T <;> first | rfl | (simp [fldOk] at h2; done)
          | cons f fs => rw [hfs] at h2; cases T <;> first | rfl | (simp [fldOk] at h2; done)
      | _ => cases T <;> first | rfl | (simp [hu] at h2; done)

theorem TyR.cases {P : Program} {t : TypeId} {T : Ty} (h : TyR P t T) (hT : ∀ A B, T ≠ .pair A B) (hT' : T ≠ .unit) : ∃ n d, P.underlying t = some d ∧ (∀ fs, d ≠ .struct fs) ∧
    (match d with
    | .int k => (match T with | .int k' => decide (k = k') | _ => false)
    | .bool => (match T with | .bool => true | _ => false)
    | .string => (match T with | .str => true | _ => false)
    | .slice e => (match T with | .sl T' => tyOk P n e T' | _ => false)
    | .array m e => (match T with | .arr m' T' => m == m' && tyOk P n e T' | _ => false)
    | .func _ _ _ => (match T with | .fn _ _ => true | _ => false)
    | _ => false) = true := by
  obtain ⟨⟨n, h⟩⟩ := h
  cases n with
  | zero => simp [tyOk] at h
  | succ n =>
    simp only [tyOk, Bool.and_eq_true] at h
    have h2 := h.2
    cases hu : P.underlying t with
    | none => simp [hu] at h2
    | some d =>
      refine ⟨n, d, rfl, ?_, ?_⟩
      · rintro fs rfl
        simp only [hu] at h2
        cases n with
        | zero => simp [fldOk] at h2
        | succ n =>
          cases hfs : fs.toList with
          | nil => rw [hfs] at h2; cases T <;> first | exact hT' rfl | (simp [fldOk] at h2; done)
          | cons f fs => rw [hfs] at h2; cases T <;> first | exact hT _ _ rfl | (simp [fldOk] at h2; done)
      · rw [hu] at h2
        cases d with
        | struct fs =>
          exfalso
          cases n with
          | zero => simp [fldOk] at h2
          | succ n =>
            cases hfs : fs.toList with
            | nil => simp only [hfs] at h2; cases T <;> first | exact hT' rfl | (simp [fldOk] at h2; done)
            | cons f fs => simp only [hfs] at h2; cases T <;> first | exact hT _ _ rfl | (simp [fldOk] at h2; done)
        | _ => cases T <;> first | exact h2 | (simp at h2; done)

theorem TyR.slice {P : Program} {t : TypeId} {T : Ty} (h : TyR P t (.sl T)) : ∃ e, P.underlying t = some (.slice e) ∧ TyR P e T := by
  obtain ⟨n, d, hu, _, h2⟩ := h.cases (by simp) (by simp)
  cases d <;> first | (simp at h2; done) | exact ⟨_, hu, ⟨n, h2⟩⟩

theorem TyR.int {P : Program} {t : TypeId} {k : IntKind} (h : TyR P t (.int k)) : P.underlying t = some (.int k) := by
  obtain ⟨n, d, hu, _, h2⟩ := h.cases (by simp) (by simp)
  cases d <;> first | (simp at h2; done) | (rw [hu, of_decide_eq_true h2])

theorem TyR.bool {P : Program} {t : TypeId} (h : TyR P t .bool) : P.underlying t = some .bool := by
  obtain ⟨n, d, hu, _, h2⟩ := h.cases (by simp) (by simp)
  cases d <;> first | (simp at h2; done) | exact hu

theorem TyR.str {P : Program} {t : TypeId} (h : TyR P t .str) : P.underlying t = some .string := by
  obtain ⟨n, d, hu, _, h2⟩ := h.cases (by simp) (by simp)
  cases d <;> first | (simp at h2; done) | exact hu

theorem TyR.array {P : Program} {t : TypeId} {m : Nat} {T : Ty} (h : TyR P t (.arr m T)) : ∃ e, P.underlying t = some (.array m e) ∧ TyR P e T := by
  obtain ⟨n, d, hu, _, h2⟩ := h.cases (by simp) (by simp)
  cases d <;> first | (simp at h2; done) | skip
  simp only [Bool.and_eq_true, beq_iff_eq] at h2
  exact ⟨_, by rw [hu, h2.1], ⟨n, h2.2⟩⟩

def fpath : Nat → Path
  | 0 => [.l]
  | f + 1 => .r :: fpath f

/-- a struct's field: its offset, its type -/
theorem fld_at (P : Program) : ∀ (fs : List Field) (n : Nat) (T : Ty) (off f : Nat) (fd : Field), fldOk P n fs T off = true → fs[f]? = some fd → ∃ A, subT T (fpath f) = some A ∧ TyR P fd.type A ∧ off + offT T (fpath f) = fd.offset
  | [], n, T, off, f, fd, _, h => by simp at h
  | g :: fs, n, T, off, f, fd, h, hf => by
    cases n with
    | zero => simp [fldOk] at h
    | succ n =>
      simp only [fldOk] at h
      split at h
      · rename_i A C
        simp only [Bool.and_eq_true, beq_iff_eq] at h
        cases f with
        | zero =>
          simp only [List.getElem?_cons_zero, Option.some.injEq] at hf
          subst hf
          refine ⟨A, ?_, ⟨n, h.1.2⟩, ?_⟩
          · cases A <;> rfl
          · have : offT A [] = 0 := by cases A <;> rfl
            simp only [fpath, offT, this]; omega
        | succ f =>
          simp only [List.getElem?_cons_succ] at hf
          obtain ⟨D, h1, h2, h3⟩ := fld_at P fs n C (off + cellsN A) f fd h.2 hf
          exact ⟨D, by simp only [fpath, subT]; exact h1, h2, by simp only [fpath, offT]; omega⟩
      · exact absurd h (by simp)

theorem TyR.struct {P : Program} {t : TypeId} {T : Ty} {fs : Array Field} (h : TyR P t T) (hu : P.underlying t = some (.struct fs)) {f : Nat} {fd : Field} (hf : fs[f]? = some fd) :
    ∃ A, subT T (fpath f) = some A ∧ TyR P fd.type A ∧ offT T (fpath f) = fd.offset := by
  obtain ⟨⟨n, h⟩⟩ := h
  cases n with
  | zero => simp [tyOk] at h
  | succ n =>
    simp only [tyOk, Bool.and_eq_true, hu] at h
    obtain ⟨A, h1, h2, h3⟩ := fld_at P fs.toList n T 0 f fd h.2 (by simpa using hf)
    exact ⟨A, h1, h2, by omega⟩

/-! ### Cells -/
theorem add_off (b off j : Nat) : (⟨b, off, none⟩ : Addr).add j = ⟨b, off + j, none⟩ := by unfold Addr.add; split <;> simp_all

section
variable {P : Program}

theorem run_sizeT {t : TypeId} {T : Ty} (h : TyR P t T) (w : World) : (sizeOf t).run P w = .ok (cellsN T) w := by
  obtain ⟨i, hi, hs⟩ := h.size
  simp [sizeOf, typeInfo, hi, hs]

theorem run_isAggT {t : TypeId} {T : Ty} (h : TyR P t T) (w : World) : (isAgg t).run P w = .ok (isAggT T) w := by
  obtain ⟨d, hd, ha⟩ := h.agg
  simp only [isAgg, Sem.run_bind, run_underlying hd, Result.andThen_ok]
  rw [← ha]
  cases d <;> rfl

theorem run_loadT {t : TypeId} {T : Ty} (h : TyR P t T) (w : World) {b off : Nat} {vs : List Value} (hl : vs.length = cellsN T) (hc : ∀ j u, vs[j]? = some u → w.cell? ⟨b, off + j, none⟩ = some u) :
    (loadVar t ⟨b, off, none⟩).run P w = .ok (asVal T vs) w := by
  unfold loadVar
  simp only [Sem.run_bind, run_isAggT h, Result.andThen_ok]
  unfold asVal
  by_cases ha : isAggT T = true
  · rw [if_pos ha, if_pos ha]
    have := run_loadCells_list (P := P) w ⟨b, off, none⟩ vs (fun j v hj => by rw [add_off]; exact hc j v hj)
    simp only [Sem.run_bind, run_sizeT h, Result.andThen_ok, ← hl, this]
    rfl
  · rw [if_neg ha, if_neg ha]
    have h1 : vs.length = 1 := by rw [hl]; cases T <;> simp_all [isAggT, cellsN]
    obtain ⟨u, rfl⟩ := List.length_eq_one_iff.1 h1
    have := hc 0 u rfl
    simp only [Nat.add_zero] at this
    simp [run_load, this]

theorem cells_asVal {T : Ty} {vs : List Value} (hl : vs.length = cellsN T) (h1 : ∀ u ∈ vs, u.oneCell' = true) : (asVal T vs).cells = vs.toArray := by
  unfold asVal
  by_cases ha : isAggT T = true
  · rw [if_pos ha]; rfl
  · rw [if_neg ha]
    have h1' : vs.length = 1 := by rw [hl]; cases T <;> simp_all [isAggT, cellsN]
    obtain ⟨u, rfl⟩ := List.length_eq_one_iff.1 h1'
    have := h1 u (by simp)
    cases u <;> simp_all [Value.oneCell', Value.cells]

theorem run_storeCellsX (P : Program) (g o : Nat) (t : TypeId) (fz : Nat × Nat) : ∀ (vs : List Value) (i : Nat) (cur : Array Value) (w : World), w.heap[g]? = some (.cells cur t fz) → frzOk fz cur.size → o + i + vs.length ≤ cur.size → (∀ v ∈ vs, v.oneCell' = true) →
    (storeCells ⟨g, o, none⟩ vs i).run P w = .ok () (w.setRow g (cur.toList.take (o + i) ++ vs ++ cur.toList.drop (o + i + vs.length)).toArray)
  | [], i, cur, w, hg, _, _, _ => by
    simp only [storeCells, List.append_nil, List.length_nil, Nat.add_zero, List.take_append_drop, Array.toArray_toList]
    rw [setRow_self w g cur t fz hg]
    rfl
  | v :: rest, i, cur, w, hg, hfz, hl, h1 => by
    have hi : o + i < cur.size := by simp at hl; omega
    have hadd : (⟨g, o, none⟩ : Addr).add i = ⟨g, o + i, none⟩ := by unfold Addr.add; split <;> simp_all
    have hcell : w.cell? ⟨g, o + i, none⟩ = some cur[o + i] := by simp [World.cell?, hg, hi]
    have hfro : w.frozen? ⟨g, o + i, none⟩ = false := by
      obtain ⟨lo, hi'⟩ := fz
      simp only [World.frozen?, hg, Bool.and_eq_false_iff, decide_eq_false_iff_not]
      rcases hfz with hfz | hfz
      · simp only [Prod.mk.injEq] at hfz; right; omega
      · simp only at hfz; left; omega
    have hst : (store ((⟨g, o, none⟩ : Addr).add i) v).run P w = .ok () (w.setRow g (cur.setIfInBounds (o + i) v)) := by
      rw [hadd, run_store P w _ v _ (h1 v (by simp)), hcell]
      simp [hfro, setCell_eq_setRow w g (o + i) cur t fz v hg]
    have ih := run_storeCellsX P g o t fz rest (i + 1) (cur.setIfInBounds (o + i) v) (w.setRow g (cur.setIfInBounds (o + i) v)) (setRow_heap w g cur _ t _ hg) (by simpa using hfz) (by simp at hl ⊢; omega) (fun x hx => h1 x (by simp [hx]))
    simp only [storeCells, Sem.run_bind, hst, Result.andThen_ok, ih, setRow_setRow]
    congr 3
    have e := list_seg_step cur.toList (o + i) v rest (by simp at hl ⊢; omega)
    simpa [Array.toList_setIfInBounds, Nat.add_assoc] using e

theorem run_storeT {t : TypeId} {T : Ty} (h : TyR P t T) (w : World) {g off : Nat} {e : TypeId} {fz : Nat × Nat} {cur : Array Value} {vs : List Value} (hg : w.heap[g]? = some (.cells cur e fz)) (hfz : frzOk fz cur.size) (hl : vs.length = cellsN T)
    (h1 : ∀ u ∈ vs, u.oneCell' = true) (hfit : off + vs.length ≤ cur.size) :
    (storeVar t ⟨g, off, none⟩ (asVal T vs)).run P w = .ok () (w.setRow g (cur.toList.take off ++ vs ++ cur.toList.drop (off + vs.length)).toArray) := by
  have := run_storeCellsX P g off e fz vs 0 cur w hg hfz (by simpa using hfit) h1
  simp only [Nat.add_zero] at this
  simp [storeVar, run_sizeT h, cells_asVal hl h1, hl, this]

end
end Go.Fw
