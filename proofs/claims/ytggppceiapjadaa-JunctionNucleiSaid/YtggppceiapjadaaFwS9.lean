/- Soundness, part 9: operations without calls: variables, parts, elements that are read. -/
import Derived.Test.YtggppceiapjadaaFwS8
set_option linter.unusedVariables false
set_option linter.unusedSimpArgs false
namespace Go.Fw
open Go Go.RowKit

section
variable {P : Program} {B : Nat} {G0 : Nat → Nat → Prop} {W0 : World} {n : Nat} {env : Env} {a : Act} {w : World} {ob : Nat → OB}
variable {R : Type} {K : Kont R} {r : R} {next : Act → World → Prop} {Q : Exit → Act → World → Prop} {o : Oper} {i : AI} {cl : Cal}

/-- a type's zero value, as the program has it -/
structure ZeroOk (P : Program) (t : TypeId) (T : Ty) : Prop where
  ok : ∃ i z vs, P.info? t = some i ∧ i.zero = some z ∧ constV T (zero T) = some vs ∧ z = asVal T vs

theorem constV_one : ∀ {T : Ty} {x : den T} {vs : List Value}, constV T x = some vs → ∀ u ∈ vs, u.oneCell' = true := by
  intro T x vs h
  exact Flat.one (default : Program) T (w := default) (G := fun _ _ => True) (B := 0) (o := .no) rfl (constV_flat default T default _ 0 .no (constV_flat.annOk_no T) h)

theorem constV_len {T : Ty} {x : den T} {vs : List Value} (h : constV T x = some vs) : vs.length = cellsN T :=
  Flat.len (default : Program) T (w := default) (G := fun _ _ => True) (B := 0) (o := .no) (constV_flat default T default _ 0 .no (constV_flat.annOk_no T) h)

/-- a new variable -/
theorem loc_new {t : TypeId} {T : Ty} {oa : Ann} {x : den T} {vs : List Value} {d : Option Nat} (hC : Conc P B G0 W0 n env a.tmps w ob) (hK : KOk P B G0 W0 n a K r next) (hd : ∀ k, d = some k → k < n)
    (hF : Flat P T w (Gd B G0 ob) B oa x vs []) (hk : K (putO env d (.loc T oa x)) = some r) : next (a.put d (.pointer (some ⟨w.heap.size, 0, none⟩))) (w.alloc (.cells vs.toArray t)) := by
  have hg : Grows w (w.alloc (.cells vs.toArray t)) := Grows.alloc w _
  cases d with
  | none => exact fin0 (e := .dead) hC hK hd hg (v := undef) rfl hk
  | some k =>
    have h := Conc.putG (e := .loc T oa x) (v := .pointer (some ⟨w.heap.size, 0, none⟩)) (bk := [(w.heap.size, 0)]) hC (hd k rfl) hg ?_ (by simp) (by simp)
    · exact hK _ _ _ _ h hk
    · rw [if_neg (by simp [leads])]
      refine ⟨w.heap.size, vs.toArray, t, [], rfl, hC.base, heap_alloc_new w _, ?_, rfl⟩
      exact Flat.mono P T (fun b i hb h => ⟨Gd_upd (fun lim hl => by simp at hl; omega) h, hg.cell hb⟩) ⟨hg.size, fun b hb => hg.block b (Nat.lt_of_lt_of_le hb hC.base)⟩ (by simp) (by simpa using hF)

theorem st_alloc {t : TypeId} {T : Ty} {oa : Ann} (hC : Conc P B G0 W0 n env a.tmps w ob) (hK : KOk P B G0 W0 n a K r next) (hd : ∀ k, o.dst = some k → k < n) (hdst : i.dst = o.dst)
    (ho : o.op = .alloc t) (hi : i.op = .alloc T oa) (hz : ZeroOk P t T) (ha : annOk T oa = true) (h : step cl i env K = some r) : o.wp P a w next Q := by
  unfold step at h; rw [hi] at h; simp only [hdst] at h
  obtain ⟨it, z, vs, h1, h2, h3, h4⟩ := hz.ok
  have hcells : z.cells = vs.toArray := by rw [h4]; exact cells_asVal (constV_len h3) (constV_one h3)
  refine wp_value (v := .pointer (some ⟨w.heap.size, 0, none⟩)) (w' := w.alloc (.cells vs.toArray t)) ?_ (loc_new hC hK hd (constV_flat P T w _ B oa ha h3) h)
  simp [execOp, ho, Instr.alloc, zeroValue, typeInfo, h1, h2, newVar, newRow, hcells]

theorem st_box {t : TypeId} {T : Ty} {x : Operand} {y : Od} (hC : Conc P B G0 W0 n env a.tmps w ob) (hK : KOk P B G0 W0 n a K r next) (hd : ∀ k, o.dst = some k → k < n) (hdst : i.dst = o.dst)
    (ho : o.op = .box t x) (hi : i.op = .box T y) (hx : okOd x y = true) (h : step cl i env K = some r) : o.wp P a w next Q := by
  unfold step at h; rw [hi] at h; simp only [hdst, Option.bind_eq_some_iff] at h
  obtain ⟨⟨env', z⟩, hq, y', hy', h⟩ := h
  obtain ⟨ob', hf, hC', vs, hv, hF⟩ := pub_rep hC hx hq
  have := cast?_some hy'
  simp only at this; subst this
  have hcells : (a.eval x).cells = vs.toArray := by rw [hv]; exact cells_asVal (Flat.len P T hF) (Flat.one P T rfl hF)
  refine wp_value (v := .pointer (some ⟨w.heap.size, 0, none⟩)) (w' := w.alloc (.cells vs.toArray t)) ?_ (loc_new hC' hK hd hF h)
  simp [execOp, ho, Instr.box, newVar, newRow, hcells]

/-! ### A variable's part, an element's part -/
theorem loc_part (hC : Conc P B G0 W0 n env a.tmps w ob) {s : Nat} {T0 : Ty} {oa : Ann} {x : den T0} (hs : look env s = .loc T0 oa x) {p : Path} {T : Ty} {y : den T} (hg : getP T0 p x = some ⟨T, y⟩) :
    ∃ b cur e v1 v2 v3 b1 b2 b3, a.tmps.getD s undef = .pointer (some ⟨b, 0, none⟩) ∧ w.heap[b]? = some (.cells cur e (0, 0)) ∧ B ≤ b ∧ cur.toList = v1 ++ v2 ++ v3 ∧ v1.length = offT T0 p ∧ ob s = (b, 0) :: (b1 ++ b2 ++ b3) ∧
      Flat P T w (Gd B G0 ob) B (annAt oa p) y v2 b2 ∧
      (∀ (o2 : Ann) (y2 : den T) (u : List Value) (c : OB) (x2 : den T0), (hasIx p = true → o2.pure = true) → Flat P T w (Gd B G0 ob) B o2 y2 u c → setP T0 p x ⟨T, y2⟩ = some x2 → Flat P T0 w (Gd B G0 ob) B (setAnn oa p o2) x2 (v1 ++ u ++ v3) (b1 ++ c ++ b3)) := by
  have hr := hC.rep s
  rw [hs] at hr
  obtain ⟨b, cur, e, ob', h1, h2, h3, h4, h5⟩ := hr
  obtain ⟨v1, v2, v3, b1, b2, b3, e1, e2, e3, e4, e5⟩ := Flat.lens P p T0 h4 hg
  exact ⟨b, cur, e, v1, v2, v3, b1, b2, b3, h1, h3, h2, e1, e3, by rw [h5, e2], e4, e5⟩

theorem cells_of_part {b : Nat} {cur : Array Value} {e : TypeId} (h : w.heap[b]? = some (.cells cur e (0, 0))) {v1 v2 v3 : List Value} (hc : cur.toList = v1 ++ v2 ++ v3) : ∀ j u, v2[j]? = some u → w.cell? ⟨b, v1.length + j, none⟩ = some u := by
  intro j u hj
  rw [cell_of_row w b _ cur e (0, 0) h, ← Array.getElem?_toList, hc]
  have hlt := (List.getElem?_eq_some_iff.1 hj).1
  rw [List.getElem?_append_left (by simp; omega), List.getElem?_append_right (by omega)]
  simpa using hj

/-- the slice at a place: its header, its block, its elements -/
theorem held_row (hC : Conc P B G0 W0 n env a.tmps w ob) {s : Nat} {p : Path} {h : Held} {v : Value} (hh : heldAt env s p = some h) (hv : headAt w a.tmps env s p = some v) :
    ∃ cells b2, rowX w B h.e (cellsN h.T) v h.xs.length cells ∧ Elems (Flat P h.T w (Gd B G0 ob) B h.o) h.xs cells b2 ∧ (∀ q ∈ obOf v (if h.wr = true then 0 else h.xs.length * cellsN h.T) ++ b2, q ∈ ob s) := by
  have hr := hC.rep s
  have hh' := hh
  simp only [heldAt] at hh
  simp only [headAt] at hv
  split at hh
  · rename_i wr e T oa xs hs
    rw [hs] at hr hv
    split at hh
    · simp only [Option.some.injEq] at hh hv
      subst hh; subst hv
      have hr' : Flat P (.sl T) w (Gd B G0 ob) B (.own wr e oa) xs [a.tmps.getD s undef] (ob s) := hr
      unfold Flat at hr'
      obtain ⟨v', cells, b2, e1, h2, h3, h4⟩ := hr'
      simp only [List.cons.injEq, and_true] at e1
      subst e1
      exact ⟨cells, b2, h2, h3, fun q hq => by rw [h4]; exact hq⟩
    · exact absurd hh (by simp)
  · rename_i T oa x hs
    split at hh
    · rename_i wr e' o' T' xs he hg
      simp only [Option.some.injEq] at hh
      subst hh
      obtain ⟨b, cur, e, v1, v2, v3, b1, b2, b3, h1, h3, _, h5, h6, h7, h8, _⟩ := loc_part hC hs hg
      rw [hs] at hv
      simp only [h1] at hv
      rw [he] at h8
      have hv2 : v2.length = 1 := Flat.len P (.sl T') h8
      obtain ⟨u, rfl⟩ := List.length_eq_one_iff.1 hv2
      have := cells_of_part h3 h5 0 u rfl
      rw [h6, Nat.add_zero] at this
      rw [this] at hv
      simp only [Option.some.injEq] at hv
      subst hv
      unfold Flat at h8
      obtain ⟨v', cells, b2', e1, h2', h3', h4'⟩ := h8
      simp only [List.cons.injEq, and_true] at e1
      subst e1
      exact ⟨cells, b2', h2', h3', fun q hq => by rw [h7, h4']; simp only [List.mem_cons, List.mem_append] at hq ⊢; exact .inr (.inl (.inr hq))⟩
    · exact absurd hh (by simp)
  · exact absurd hh (by simp)

end
end Go.Fw
