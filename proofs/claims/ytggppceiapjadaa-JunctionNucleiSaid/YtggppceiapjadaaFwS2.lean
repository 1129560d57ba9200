/- Soundness, part 2: parts of values; what a state of the machine says of memory. -/
import Derived.Test.YtggppceiapjadaaFwS1
set_option linter.unusedVariables false
set_option linter.unusedSimpArgs false
namespace Go.Fw
open Go Go.RowKit

theorem annAt_no : ∀ p, annAt .no p = .no
  | [] => rfl
  | .l :: p => annAt_no p
  | .r :: p => annAt_no p
  | .ix _ :: _ => rfl

theorem setAnn_pure : ∀ (p : Path) (a b : Ann), a.pure = true → b.pure = true → (setAnn a p b).pure = true
  | [], _, _, _, h => h
  | .l :: p, a, b, ha, hb => by simp only [setAnn, Ann.pure, Bool.and_eq_true]; exact ⟨setAnn_pure p _ _ (Ann.pure_l ha) hb, Ann.pure_r ha⟩
  | .r :: p, a, b, ha, hb => by simp only [setAnn, Ann.pure, Bool.and_eq_true]; exact ⟨Ann.pure_l ha, setAnn_pure p _ _ (Ann.pure_r ha) hb⟩
  | .ix _ :: _, _, _, ha, _ => ha

theorem cast?_self (T : Ty) (y : den T) : cast? T ⟨T, y⟩ = some y := by simp [cast?]
theorem cast?_some {T : Ty} {y : TV} {z : den T} (h : cast? T y = some z) : y = ⟨T, z⟩ := by
  obtain ⟨T', y⟩ := y
  simp only [cast?] at h
  split at h
  · rename_i e; subst e; simp at h; rw [h]
  · exact absurd h (by simp)

theorem getP_subT : ∀ (p : Path) (T : Ty) {P : Program} {w : World} {G : Nat → Nat → Prop} {B : Nat} {o : Ann} {x : den T} {vs : List Value} {ob : OB} {y : TV}, Flat P T w G B o x vs ob → getP T p x = some y → subT T p = some y.1
  | [], T, _, _, _, _, _, _, _, _, _, _, h => by simp only [getP, Option.some.injEq] at h; subst h; cases T <;> rfl
  | .l :: p, .pair A C, _, _, _, _, _, _, _, _, _, hF, h => by
    unfold Flat at hF; obtain ⟨v1, v2, b1, b2, rfl, rfl, h1, h2⟩ := hF
    simp only [getP, subT] at h ⊢; exact getP_subT p A h1 h
  | .r :: p, .pair A C, _, _, _, _, _, _, _, _, _, hF, h => by
    unfold Flat at hF; obtain ⟨v1, v2, b1, b2, rfl, rfl, h1, h2⟩ := hF
    simp only [getP, subT] at h ⊢; exact getP_subT p C h2 h
  | .ix i :: p, .arr n T, _, _, _, _, _, _, _, _, _, hF, h => by
    unfold Flat at hF; obtain ⟨hn, hF⟩ := hF
    simp only [getP, subT] at h ⊢
    split at h
    · rename_i hi
      obtain ⟨v1, v2, v3, b1, b2, b3, _, _, _, h2, _⟩ := Elems.split (fun x v b hx => Flat.len _ T hx) i (zero T) hF hi
      rw [if_pos (by omega)]; exact getP_subT p T h2 h
    · exact absurd h (by simp)
  | .l :: _, .int _, _, _, _, _, _, _, _, _, _, _, h | .l :: _, .bool, _, _, _, _, _, _, _, _, _, _, h | .l :: _, .str, _, _, _, _, _, _, _, _, _, _, h | .l :: _, .unit, _, _, _, _, _, _, _, _, _, _, h | .l :: _, .sl _, _, _, _, _, _, _, _, _, _, _, h | .l :: _, .arr _ _, _, _, _, _, _, _, _, _, _, _, h | .l :: _, .fn _ _, _, _, _, _, _, _, _, _, _, _, h => by simp [getP] at h
  | .r :: _, .int _, _, _, _, _, _, _, _, _, _, _, h | .r :: _, .bool, _, _, _, _, _, _, _, _, _, _, h | .r :: _, .str, _, _, _, _, _, _, _, _, _, _, h | .r :: _, .unit, _, _, _, _, _, _, _, _, _, _, h | .r :: _, .sl _, _, _, _, _, _, _, _, _, _, _, h | .r :: _, .arr _ _, _, _, _, _, _, _, _, _, _, _, h | .r :: _, .fn _ _, _, _, _, _, _, _, _, _, _, _, h => by simp [getP] at h
  | .ix _ :: _, .int _, _, _, _, _, _, _, _, _, _, _, h | .ix _ :: _, .bool, _, _, _, _, _, _, _, _, _, _, h | .ix _ :: _, .str, _, _, _, _, _, _, _, _, _, _, h | .ix _ :: _, .unit, _, _, _, _, _, _, _, _, _, _, h | .ix _ :: _, .sl _, _, _, _, _, _, _, _, _, _, _, h | .ix _ :: _, .pair _ _, _, _, _, _, _, _, _, _, _, _, h | .ix _ :: _, .fn _ _, _, _, _, _, _, _, _, _, _, _, h => by simp [getP] at h

/-- a part of a value: where its cells lie, and what may stand there instead -/
theorem Flat.lens (P : Program) : ∀ (p : Path) (T : Ty) {w : World} {G : Nat → Nat → Prop} {B : Nat} {o : Ann} {x : den T} {vs : List Value} {ob : OB} {T' : Ty} {y : den T'}, Flat P T w G B o x vs ob → getP T p x = some ⟨T', y⟩ →
    ∃ v1 v2 v3 b1 b2 b3, vs = v1 ++ v2 ++ v3 ∧ ob = b1 ++ b2 ++ b3 ∧ v1.length = offT T p ∧ Flat P T' w G B (annAt o p) y v2 b2 ∧
      ∀ (o2 : Ann) (y2 : den T') (u : List Value) (c : OB) (x2 : den T), (hasIx p = true → o2.pure = true) → Flat P T' w G B o2 y2 u c → setP T p x ⟨T', y2⟩ = some x2 → Flat P T w G B (setAnn o p o2) x2 (v1 ++ u ++ v3) (b1 ++ c ++ b3)
  | [], T, w, G, B, o, x, vs, ob, T', y, hF, h => by
    simp only [getP, Option.some.injEq] at h
    obtain ⟨rfl, h⟩ := Sigma.mk.inj h
    rw [eq_of_heq h] at hF
    refine ⟨[], vs, [], [], ob, [], by simp, by simp, by cases T <;> rfl, hF, ?_⟩
    intro o2 y2 u c x2 _ hy hs
    have hs' : cast? T ⟨T, y2⟩ = some x2 := by cases T <;> exact hs
    rw [cast?_self, Option.some.injEq] at hs'
    subst hs'
    simpa [setAnn] using hy
  | .l :: p, .pair A C, w, G, B, o, x, vs, ob, T', y, hF, h => by
    unfold Flat at hF; obtain ⟨u1, u2, c1, c2, rfl, rfl, h1, h2⟩ := hF
    simp only [getP] at h
    obtain ⟨v1, v2, v3, b1, b2, b3, rfl, rfl, hl, hF2, hset⟩ := Flat.lens P p A h1 h
    refine ⟨v1, v2, v3 ++ u2, b1, b2, b3 ++ c2, by simp, by simp, hl, hF2, ?_⟩
    intro o2 y2 u c x2 hix hy hs
    simp only [setP, Option.bind_eq_some_iff, Option.some.injEq] at hs
    obtain ⟨z, hz, rfl⟩ := hs
    unfold Flat
    exact ⟨v1 ++ u ++ v3, u2, b1 ++ c ++ b3, c2, by simp, by simp, hset o2 y2 u c z hix hy hz, h2⟩
  | .r :: p, .pair A C, w, G, B, o, x, vs, ob, T', y, hF, h => by
    have hlen : ∀ {vs ob}, Flat P A w G B o.l x.1 vs ob → vs.length = cellsN A := fun h => Flat.len P A h
    unfold Flat at hF; obtain ⟨u1, u2, c1, c2, rfl, rfl, h1, h2⟩ := hF
    simp only [getP] at h
    obtain ⟨v1, v2, v3, b1, b2, b3, rfl, rfl, hl, hF2, hset⟩ := Flat.lens P p C h2 h
    refine ⟨u1 ++ v1, v2, v3, c1 ++ b1, b2, b3, by simp, by simp, by rw [List.length_append, hlen h1, hl]; rfl, hF2, ?_⟩
    intro o2 y2 u c x2 hix hy hs
    simp only [setP, Option.bind_eq_some_iff, Option.some.injEq] at hs
    obtain ⟨z, hz, rfl⟩ := hs
    unfold Flat
    exact ⟨u1, v1 ++ u ++ v3, c1, b1 ++ c ++ b3, by simp, by simp, h1, hset o2 y2 u c z hix hy hz⟩
  | .ix i :: p, .arr n T, w, G, B, o, x, vs, ob, T', y, hF, h => by
    unfold Flat at hF; obtain ⟨hn, hF⟩ := hF
    simp only [getP] at h
    split at h
    · rename_i hi
      obtain ⟨u1, u2, u3, c1, c2, c3, rfl, rfl, hl1, hE, hst⟩ := Elems.split (fun x v b hx => Flat.len _ T hx) i (zero T) hF hi
      obtain ⟨v1, v2, v3, b1, b2, b3, rfl, rfl, hl, hF2, hset⟩ := Flat.lens P p T hE h
      rw [annAt_no] at hF2
      refine ⟨u1 ++ v1, v2, v3 ++ u3, c1 ++ b1, b2, b3 ++ c3, by simp, by simp, by rw [List.length_append, hl1, hl]; rfl, hF2, ?_⟩
      intro o2 y2 u c x2 hix hy hs
      simp only [setP] at hs
      rw [if_pos hi] at hs
      simp only [Option.bind_eq_some_iff, Option.some.injEq] at hs
      obtain ⟨z, hz, rfl⟩ := hs
      have ho2 := hix rfl
      have hnew := hset o2 y2 u c z (fun _ => ho2) hy hz
      obtain ⟨e, hnew⟩ := Flat.pure P T (setAnn_pure p .no o2 rfl ho2) (o' := .no) rfl hnew
      have hE2 := hst z (v1 ++ u ++ v3) [] hnew
      unfold Flat
      refine ⟨by rw [List.length_set]; exact hn, ?_⟩
      have e' : c1 ++ b1 ++ c ++ (b3 ++ c3) = c1 ++ [] ++ c3 := by
        rw [show c1 ++ b1 ++ c ++ (b3 ++ c3) = c1 ++ (b1 ++ c ++ b3) ++ c3 by simp, e]
      rw [e']
      simpa using hE2
    · exact absurd h (by simp)
  | .l :: _, .int _, _, _, _, _, _, _, _, _, _, _, h | .l :: _, .bool, _, _, _, _, _, _, _, _, _, _, h | .l :: _, .str, _, _, _, _, _, _, _, _, _, _, h | .l :: _, .unit, _, _, _, _, _, _, _, _, _, _, h | .l :: _, .sl _, _, _, _, _, _, _, _, _, _, _, h | .l :: _, .arr _ _, _, _, _, _, _, _, _, _, _, _, h | .l :: _, .fn _ _, _, _, _, _, _, _, _, _, _, _, h => by simp [getP] at h
  | .r :: _, .int _, _, _, _, _, _, _, _, _, _, _, h | .r :: _, .bool, _, _, _, _, _, _, _, _, _, _, h | .r :: _, .str, _, _, _, _, _, _, _, _, _, _, h | .r :: _, .unit, _, _, _, _, _, _, _, _, _, _, h | .r :: _, .sl _, _, _, _, _, _, _, _, _, _, _, h | .r :: _, .arr _ _, _, _, _, _, _, _, _, _, _, _, h | .r :: _, .fn _ _, _, _, _, _, _, _, _, _, _, _, h => by simp [getP] at h
  | .ix _ :: _, .int _, _, _, _, _, _, _, _, _, _, _, h | .ix _ :: _, .bool, _, _, _, _, _, _, _, _, _, _, h | .ix _ :: _, .str, _, _, _, _, _, _, _, _, _, _, h | .ix _ :: _, .unit, _, _, _, _, _, _, _, _, _, _, h | .ix _ :: _, .sl _, _, _, _, _, _, _, _, _, _, _, h | .ix _ :: _, .pair _ _, _, _, _, _, _, _, _, _, _, _, h | .ix _ :: _, .fn _ _, _, _, _, _, _, _, _, _, _, _, h => by simp [getP] at h

theorem offT_append : ∀ (p q : Path) (T : Ty) {T' : Ty}, subT T p = some T' → offT T (p ++ q) = offT T p + offT T' q ∧ subT T (p ++ q) = subT T' q
  | [], q, T, T', h => by
    have : T = T' := by cases T <;> simpa [subT] using h
    subst this
    have : offT T [] = 0 := by cases T <;> rfl
    simp [this]
  | .l :: p, q, .pair A C, T', h => by simp only [subT] at h; simp only [List.cons_append, offT, subT]; exact offT_append p q A h
  | .r :: p, q, .pair A C, T', h => by
    simp only [subT] at h; simp only [List.cons_append, offT, subT]
    have := offT_append p q C h
    exact ⟨by rw [this.1]; omega, this.2⟩
  | .ix i :: p, q, .arr n T, T', h => by
    simp only [subT] at h; simp only [List.cons_append, offT, subT]
    split at h
    · rename_i hi
      have := offT_append p q T h
      exact ⟨by rw [this.1]; omega, by rw [if_pos hi]; exact this.2⟩
    · exact absurd h (by simp)
  | .l :: _, _, .int _, _, h | .l :: _, _, .bool, _, h | .l :: _, _, .str, _, h | .l :: _, _, .unit, _, h | .l :: _, _, .sl _, _, h | .l :: _, _, .arr _ _, _, h | .l :: _, _, .fn _ _, _, h => by simp [subT] at h
  | .r :: _, _, .int _, _, h | .r :: _, _, .bool, _, h | .r :: _, _, .str, _, h | .r :: _, _, .unit, _, h | .r :: _, _, .sl _, _, h | .r :: _, _, .arr _ _, _, h | .r :: _, _, .fn _ _, _, h => by simp [subT] at h
  | .ix _ :: _, _, .int _, _, h | .ix _ :: _, _, .bool, _, h | .ix _ :: _, _, .str, _, h | .ix _ :: _, _, .unit, _, h | .ix _ :: _, _, .sl _, _, h | .ix _ :: _, _, .pair _ _, _, h | .ix _ :: _, _, .fn _ _, _, h => by simp [subT] at h

/-! ### What an entry says of a slot -/
def headAt (w : World) (tm : Array Value) (env : Env) (s : Nat) (p : Path) : Option Value :=
  match look env s with
  | .own .. => match p with | [] => some (tm.getD s undef) | _ => none
  | .loc T _ _ => match tm.getD s undef with | .pointer (some a) => w.cell? ⟨a.block, offT T p, none⟩ | _ => none
  | _ => none

def ERep1 (P : Program) (w : World) (G : Nat → Nat → Prop) (B : Nat) (tm : Array Value) (env : Env) : E → Value → OB → Prop
  | .dead, _, ob => ob = []
  | .und, v, ob => v = undef ∧ ob = []
  | .v T x, v, ob => ob = [] ∧ ∃ vs, Flat P T w G B .no x vs [] ∧ v = asVal T vs
  | .own wr e T o xs, v, ob => Flat P (.sl T) w G B (.own wr e o) xs [v] ob
  | .loc T o x, v, ob => ∃ b cur e ob', v = .pointer (some ⟨b, 0, none⟩) ∧ B ≤ b ∧ w.heap[b]? = some (.cells cur e (0, 0)) ∧ Flat P T w G B o x cur.toList ob' ∧ ob = (b, 0) :: ob'
  | .ref s p, v, ob => ob = [] ∧ headAt w tm env s p = some v ∧ (heldAt env s p).isSome = true
  | .ptr s p, v, ob => ob = [] ∧ ∃ T o x b, look env s = .loc T o x ∧ tm.getD s undef = .pointer (some ⟨b, 0, none⟩) ∧ (subT T p).isSome = true ∧ v = .pointer (some ⟨b, offT T p, none⟩)
  | .ptre s p i q, v, ob => ob = [] ∧ ∃ h g n c, heldAt env s p = some h ∧ headAt w tm env s p = some (.slice (some ⟨g, 0, none⟩) n c) ∧ i < h.xs.length ∧ (subT h.T q).isSome = true ∧
      v = .pointer (some ⟨g, i * cellsN h.T + offT h.T q, none⟩)
  | .at T x, v, ob => ob = [] ∧ ∃ b off vs, v = .pointer (some ⟨b, off, none⟩) ∧ Flat P T w G B .no x vs [] ∧ ∀ j u, vs[j]? = some u → w.cell? ⟨b, off + j, none⟩ = some u ∧ (b < B ∨ G b (off + j))
  | .tup _, _, _ => False
  | .clo _ _ _ _, _, _ => False
  | .nw T o x, v, ob => ob = [] ∧ ∃ vs, Flat P T w G B o x vs [] ∧ v = asVal T vs
  | .it s pos, v, ob => ∃ b, v = .pointer (some ⟨b, 0, none⟩) ∧ B ≤ b ∧ w.heap[b]? = some (.stringIter ⟨⟨s⟩⟩ pos) ∧ s.length ≤ maxLen ∧ ob = [(b, 0)]

def TupRep (R : E → Value → OB → Prop) : List E → List Value → OB → Prop
  | [], vs, ob => vs = [] ∧ ob = []
  | e :: es, vs, ob => ∃ v r b1 b2, vs = v :: r ∧ ob = b1 ++ b2 ∧ R e v b1 ∧ TupRep R es r b2

def ERep (P : Program) (w : World) (G : Nat → Nat → Prop) (B : Nat) (tm : Array Value) (env : Env) : E → Value → OB → Prop
  | .tup es, v, ob => (∀ e ∈ es, ∀ s, leads s e = false) ∧ ∃ vs, v = .tuple vs ∧ TupRep (ERep1 P w G B tm env) es vs.toList ob
  | .clo f _ _ caps, v, ob => ob = [] ∧ ∃ cv, v = .func (.func f) #[] cv ∧ TupRep (ERep1 P w G B tm env) caps cv.toList []
  | e, v, ob => ERep1 P w G B tm env e v ob

/-- cells that may be read: old ones, as G0 says; new ones, where nobody writes -/
def Gd (B : Nat) (G0 : Nat → Nat → Prop) (ob : Nat → OB) (b i : Nat) : Prop :=
  (b < B ∧ G0 b i) ∨ (B ≤ b ∧ ∀ k lim, (b, lim) ∈ ob k → i < lim)

structure Conc (P : Program) (B : Nat) (G0 : Nat → Nat → Prop) (W0 : World) (n : Nat) (env : Env) (tm : Array Value) (w : World) (ob : Nat → OB) : Prop where
  rep : ∀ k, ERep P w (Gd B G0 ob) B tm env (look env k) (tm.getD k undef) (ob k)
  dist : ∀ j k b, b ∈ blocks (ob j) → b ∈ blocks (ob k) → j = k
  nodup : ∀ k, (blocks (ob k)).Nodup
  low : ∀ k b, b ∈ blocks (ob k) → B ≤ b ∧ b < w.heap.size
  below : Below B W0 w
  base : B ≤ w.heap.size
  size : tm.size = n

end Go.Fw
