/- The abstract value machine and its soundness, part 6: a call of the machine that answers is a call of the program that answers so; no conditions. -/
import Derived.Test.YtnobiophckdjfaaFwB5
import Derived.OpenShut
import Derived.ChangeOld
import Derived.WideKeyArgs
import Derived.SizedLaws
set_option linter.unusedVariables false
set_option linter.unusedSimpArgs false
/- The glue, generic: what a reading of the arguments says in the machine's values. -/
namespace Go.Fw
open Go Go.RowKit
def InR : (T : Ty) → den T → Prop
  | .int k, n => inR k n
  | .str, s => s.length ≤ maxLen
  | .sl T, xs => xs.length ≤ maxLen ∧ ∀ x ∈ xs, InR T x
  | .pair A B, x => InR A x.1 ∧ InR B x.2
  | .arr n T, xs => xs.length = n ∧ ∀ x ∈ xs, InR T x
  | _, _ => True
def argT : Ty → Bool
  | .int _ | .bool | .str | .unit => true
  | .sl T => argT T && !(cellsN T == 0)
  | .pair A B => argT A && argT B
  | .arr _ T => argT T
  | _ => false
section
variable {H : Type} {enc : TypeId × Value → H} {P : Program} {w : World} {sp : Nat → Bool} {held : Bool} {B : Nat}
theorem cellsOf_ty {t : TypeId} {T : Ty} {n : Nat} (h : tyOk P n t T = true) : P.cellsOf t = cellsN T := by
  obtain ⟨i, hi, hs⟩ := TyR.size (P := P) (t := t) (T := T) ⟨⟨n, h⟩⟩
  simp [Program.cellsOf, hi, hs]
theorem picks {α : Type} {Q : Nat → α → Prop} : ∀ (n : Nat), (∀ i, i < n → ∃ q, Q i q) → ∃ L : List α, L.length = n ∧ ∀ i q, L[i]? = some q → Q i q
  | 0, _ => ⟨[], rfl, by simp⟩
  | n + 1, h => by
    obtain ⟨L, hl, hq⟩ := picks n (fun i hi => h i (by omega))
    obtain ⟨q, hn⟩ := h n (by omega)
    refine ⟨L ++ [q], by simp [hl], fun i r hr => ?_⟩
    by_cases hi : i < n
    · rw [List.getElem?_append_left (by omega)] at hr; exact hq i r hr
    · have : i < (L ++ [q]).length := (List.getElem?_eq_some_iff.1 hr).1
      simp [hl] at this
      have hin : i = n := by omega
      subst hin
      rw [List.getElem?_append_right (by omega)] at hr
      simp [hl] at hr
      subst hr; exact hn
theorem elems_of {α : Type} {R : α → List Value → OB → Prop} : ∀ (L : List (List Value × α)), (∀ q ∈ L, R q.2 q.1 []) → Elems R (L.map (·.2)) ((L.map (·.1)).flatten) []
  | [], _ => ⟨rfl, rfl⟩
  | q :: L, h => ⟨q.1, (L.map (·.1)).flatten, [], [], rfl, rfl, h q (by simp), elems_of L (fun r hr => h r (by simp [hr]))⟩
theorem flat_chunks {α : Type} {c : Nat} : ∀ (L : List (List Value × α)) (cs : List Value), (∀ i q, L[i]? = some q → q.1 = (cs.drop (i * c)).take c) → cs.length = L.length * c → (L.map (·.1)).flatten = cs
  | [], cs, _, h => by
    have : cs = [] := List.eq_nil_of_length_eq_zero (by simpa using h)
    rw [this]; rfl
  | q :: L, cs, h, hl => by
    have h0 := h 0 q rfl
    rw [List.length_cons, Nat.add_mul, Nat.one_mul] at hl
    have ih := flat_chunks (c := c) L (cs.drop c) (fun i q' hq => by
      have := h (i + 1) q' (by simpa using hq)
      rw [this, List.drop_drop, Nat.add_mul, Nat.one_mul, Nat.add_comm c]) (by rw [List.length_drop]; omega)
    rw [List.map_cons, List.flatten_cons, ih, h0]
    simp
theorem flat_get {c : Nat} : ∀ (L : List (List Value)), (∀ l ∈ L, l.length = c) → ∀ (j : Nat) (v : Value), L.flatten[j]? = some v → ∃ i r l, j = i * c + r ∧ r < c ∧ L[i]? = some l ∧ l[r]? = some v
  | [], _, j, v, h => by simp at h
  | l :: L, hl, j, v, h => by
    rw [List.flatten_cons] at h
    have hc := hl l (by simp)
    by_cases hj : j < c
    · rw [List.getElem?_append_left (by omega)] at h
      exact ⟨0, j, l, by omega, hj, rfl, h⟩
    · rw [List.getElem?_append_right (by omega), hc] at h
      obtain ⟨i, r, l', h1, h2, h3, h4⟩ := flat_get L (fun l hl' => hl l (by simp [hl'])) (j - c) v h
      refine ⟨i + 1, r, l', ?_, h2, by simpa using h3, h4⟩
      rw [Nat.add_mul]; omega
theorem add_add (a : Addr) (i j : Nat) (h : (a.add i).spot = none) : ((a.add i).add j) = ⟨a.block, a.off + i + j, none⟩ := by
  obtain ⟨b, off, s⟩ := a
  unfold Addr.add at h ⊢
  by_cases h1 : i = 0 <;> by_cases h2 : j = 0 <;> simp_all
theorem spot_none {w : World} {a : Addr} {v : Value} (h : w.cell? a = some v) : a.spot = none := by
  unfold World.cell? at h
  split at h
  · cases hs : a.spot with
    | none => rfl
    | some s => simp [hs] at h
  · simp at h
theorem open_flat : ∀ (m : Nat),
    (∀ (t : TypeId) (T : Ty) (fuel : Nat) (cs : List Value) (x : DataW H × List MemPlace), tyOk P m t T = true → argT T = true → DataW.trod enc P w 0 sp held fuel t cs = some x → ∃ v, Flat P T w (fun _ _ => True) B .no v cs [] ∧ InR T v) ∧
    (∀ (fs : List Field) (T : Ty) (off : Nat) (cs : List Value), fldOk P m fs T off = true → argT T = true → cs.length = off + cellsN T →
      (∀ (i : Nat) (f : Field), fs[i]? = some f → ∃ n y, DataW.trod enc P w 0 sp held n f.type ((cs.drop f.offset).take (P.cellsOf f.type)) = some y) → ∃ v, Flat P T w (fun _ _ => True) B .no v (cs.drop off) [] ∧ InR T v) := by
  intro m
  induction m with
  | zero => exact ⟨fun t T fuel cs x h => by simp [tyOk] at h, fun fs T off cs h => by simp [fldOk] at h⟩
  | succ m ih =>
    obtain ⟨ih1, ih2⟩ := ih
    refine ⟨fun t T fuel cs x h ha hd => ?_, fun fs T off cs h ha hl hd => ?_⟩
    · have hT : TyR P t T := ⟨⟨m + 1, h⟩⟩
      cases T with
      | int k =>
        obtain ⟨n, rfl, _, hw⟩ := DataW.trod_int hT.int hd
        exact ⟨n, by unfold Flat; exact ⟨rfl, wf_inR hw, rfl⟩, wf_inR hw⟩
      | bool =>
        unfold tyOk at h
        simp only [Bool.and_eq_true] at h
        have h2 := h.2
        split at h2 <;> first | (simp at h2; done) | skip
        · rename_i hu
          obtain ⟨b, rfl, _⟩ := DataW.trod_bool hu hd
          exact ⟨b, by unfold Flat; exact ⟨rfl, rfl⟩, trivial⟩
        · cases m with
          | zero => simp [fldOk] at h2
          | succ m => unfold fldOk at h2; split at h2 <;> simp at h2
      | str =>
        obtain ⟨s, rfl, _, hw⟩ := DataW.trod_string hT.str hd
        obtain ⟨⟨s⟩⟩ := s
        exact ⟨s, by unfold Flat; exact ⟨rfl, hw, rfl⟩, hw⟩
      | unit =>
        unfold tyOk at h
        simp only [Bool.and_eq_true] at h
        have h2 := h.2
        split at h2 <;> first | (simp at h2; done) | skip
        rename_i fs hu
        obtain ⟨xs, n, _, _, hlen, hxl, _⟩ := DataW.trod_struct hu hd
        rw [cellsOf_ty (n := m + 1) (T := .unit) (by unfold tyOk; simp only [Bool.and_eq_true]; refine ⟨h.1, ?_⟩; rw [hu]; exact h2)] at hlen
        have : cs = [] := List.eq_nil_of_length_eq_zero hlen
        subst this
        exact ⟨(), by unfold Flat; exact ⟨rfl, rfl⟩, trivial⟩
      | pair A C =>
        have hsz := cellsOf_ty h
        unfold tyOk at h
        simp only [Bool.and_eq_true] at h
        have h2 := h.2
        split at h2 <;> first | (simp at h2; done) | skip
        rename_i fs hu
        obtain ⟨xs, n, _, _, hlen, hxl, hf⟩ := DataW.trod_struct hu hd
        have := ih2 fs.toList (.pair A C) 0 cs h2 ha (by rw [hlen, hsz]; omega) (fun i f hi => by
          have hi' : fs[i]? = some f := by simpa using hi
          have hlt : i < xs.length := by rw [hxl]; exact (Array.getElem?_eq_some_iff.1 hi').1
          exact ⟨n, xs[i], by rw [hf i f hi']; exact List.getElem?_eq_getElem hlt⟩)
        simpa using this
      | sl T =>
        simp only [argT, Bool.and_eq_true, Bool.not_eq_true', beq_eq_false_iff_ne] at ha
        obtain ⟨e, hu, _⟩ := hT.slice
        have he : tyOk P m e T = true := by
          unfold tyOk at h
          simp only [Bool.and_eq_true] at h
          have h2 := h.2
          rw [hu] at h2
          exact h2
        have hc : P.cellsOf e = cellsN T := cellsOf_ty he
        rcases DataW.trod_slice hu hd with ⟨rfl, _⟩ | ⟨a, len, cap, elems, rest, n, _, rfl, _, hb, hl, hm, hlen, hel, _⟩
        · refine ⟨[], ?_, by simp [InR]⟩
          unfold Flat
          exact ⟨rfl, none, 0, rfl, Nat.le_refl _, by simp, .inl rfl⟩
        · have key : ∀ i, i < len → ∃ q : List Value × den T, (q.1.length = cellsN T ∧ (∀ r, r < cellsN T → w.cell? ((a.add (i * cellsN T)).add r) = q.1[r]?)) ∧ Flat P T w (fun _ _ => True) B .no q.2 q.1 [] ∧ InR T q.2 := by
            intro i hi
            have := hel i hi
            rw [List.getElem?_eq_getElem (by omega)] at this
            obtain ⟨cs', hcs, hy⟩ := Option.bind_eq_some_iff.1 this
            obtain ⟨v, hv1, hv2⟩ := ih1 e T n cs' _ he ha.1 hy
            obtain ⟨_, k1, k2⟩ := World.cells?_some hcs
            rw [hc] at k1 k2
            exact ⟨(cs', v), ⟨k1, k2⟩, hv1, hv2⟩
          obtain ⟨L, hL, hq⟩ := picks len key
          refine ⟨L.map (·.2), ?_, ?_⟩
          · unfold Flat
            refine ⟨rfl, some a, cap, by simp [hL], by simpa [hL] using hl, hm, ?_⟩
            by_cases h0 : len = 0
            · left; have : L = [] := List.eq_nil_of_length_eq_zero (by omega); simp [this]
            · right
              have hpos : 0 < cellsN T := Nat.pos_of_ne_zero ha.2
              have hcell : ∀ i r q, L[i]? = some q → r < cellsN T → ∃ v, q.1[r]? = some v ∧ w.cell? ((a.add (i * cellsN T)).add r) = some v := by
                intro i r q hi hr
                have := (hq i q hi).1
                refine ⟨q.1[r]'(by omega), List.getElem?_eq_getElem _, ?_⟩
                rw [this.2 r hr]; exact List.getElem?_eq_getElem _
              have hsp : a.spot = none := by
                obtain ⟨v, _, hv⟩ := hcell 0 0 (L[0]'(by omega)) (List.getElem?_eq_getElem _) hpos
                have := spot_none hv
                simpa [Addr.add] using this
              obtain ⟨b, off, s⟩ := a
              simp only at hsp
              subst hsp
              refine ⟨b, off, (L.map (·.1)).flatten, rfl, elems_of L (fun q hq' => ?_), fun j v hj => ⟨?_, trivial⟩⟩
              · obtain ⟨i, hi⟩ := List.getElem?_of_mem hq'
                exact (hq i q hi).2.1
              · obtain ⟨i, r, l, rfl, hr, hi, hv⟩ := flat_get _ (fun l hl' => by
                  obtain ⟨q, hq', rfl⟩ := List.mem_map.1 hl'
                  obtain ⟨i, hi⟩ := List.getElem?_of_mem hq'
                  exact (hq i q hi).1.1) j v hj
                rw [List.getElem?_map, Option.map_eq_some_iff] at hi
                obtain ⟨q, hi, rfl⟩ := hi
                obtain ⟨v', hv1, hv2⟩ := hcell i r q hi hr
                rw [hv] at hv1; cases hv1
                rw [WideShapes.add_plain, WideShapes.add_plain, Nat.add_assoc] at hv2
                exact hv2
          · unfold InR
            refine ⟨by simp [hL]; omega, fun x hx => ?_⟩
            obtain ⟨q, hq', rfl⟩ := List.mem_map.1 hx
            obtain ⟨i, hi⟩ := List.getElem?_of_mem hq'
            exact (hq i q hi).2.2
      | arr n T =>
        have hsz := cellsOf_ty h
        unfold tyOk at h
        simp only [Bool.and_eq_true] at h
        have h2 := h.2
        split at h2 <;> first | (simp at h2; done) | skip
        · rename_i n' e hu
          simp only [Bool.and_eq_true, beq_iff_eq] at h2
          obtain ⟨rfl, he⟩ := h2
          simp only [argT] at ha
          have hc : P.cellsOf e = cellsN T := cellsOf_ty he
          obtain ⟨xs, k, _, _, hlen, hxl, hel⟩ := DataW.trod_array hu hd
          have key : ∀ i, i < n' → ∃ q : List Value × den T, q.1 = (cs.drop (i * cellsN T)).take (cellsN T) ∧ Flat P T w (fun _ _ => True) B .no q.2 q.1 [] ∧ InR T q.2 := by
            intro i hi
            have := hel i hi
            rw [List.getElem?_eq_getElem (by omega), hc] at this
            obtain ⟨v, hv1, hv2⟩ := ih1 e T k _ _ he ha this
            exact ⟨(_, v), rfl, hv1, hv2⟩
          obtain ⟨L, hL, hq⟩ := picks n' key
          refine ⟨L.map (·.2), ?_, ?_⟩
          · unfold Flat
            refine ⟨by simp [hL], ?_⟩
            have := elems_of (R := Flat P T w (fun _ _ => True) B .no) L (fun q hq' => by
              obtain ⟨i, hi⟩ := List.getElem?_of_mem hq'
              exact (hq i q hi).2.1)
            rwa [flat_chunks (c := cellsN T) L cs (fun i q hi => (hq i q hi).1) (by rw [hlen, hsz, hL]; rfl)] at this
          · unfold InR
            refine ⟨by simp [hL], fun x hx => ?_⟩
            obtain ⟨q, hq', rfl⟩ := List.mem_map.1 hx
            obtain ⟨i, hi⟩ := List.getElem?_of_mem hq'
            exact (hq i q hi).2.2
        · cases m with
          | zero => simp [fldOk] at h2
          | succ m => unfold fldOk at h2; split at h2 <;> simp at h2
      | fn A C => simp [argT] at ha
    · cases fs with
      | nil =>
        unfold fldOk at h
        cases T <;> first | (exfalso; simp at h; done) | skip
        refine ⟨(), ?_, trivial⟩
        unfold Flat
        exact ⟨by apply List.drop_eq_nil_of_le; simp [cellsN] at hl; omega, rfl⟩
      | cons f fs =>
        unfold fldOk at h
        cases T <;> first | (exfalso; simp at h; done) | skip
        rename_i A C
        simp only [Bool.and_eq_true, beq_iff_eq] at h
        obtain ⟨⟨h1, h2⟩, h3⟩ := h
        simp only [argT, Bool.and_eq_true] at ha
        simp only [cellsN] at hl
        obtain ⟨n, y, hy⟩ := hd 0 f rfl
        obtain ⟨v1, g1, g2⟩ := ih1 f.type A n _ y h2 ha.1 hy
        obtain ⟨v2, g3, g4⟩ := ih2 fs C (off + cellsN A) cs h3 ha.2 (by omega) (fun i f' hi => hd (i + 1) f' (by simpa using hi))
        refine ⟨(v1, v2), ?_, g2, g4⟩
        unfold Flat
        refine ⟨_, _, [], [], ?_, rfl, g1, g3⟩
        rw [h1, cellsOf_ty h2, ← List.drop_drop, List.take_append_drop]
theorem open_arg {r : Reach} {b0 : Nat} {t : TypeId} {T : Ty} {v : Value} {d : DataW H} {ps : List MemPlace} (hT : tyB P t T = true) (ha : argT T = true) (hval : Value.okWide P w r b0 t v) (hd : DataW.Trod enc P w 0 sp held t v d ps) :
    ∃ x : den T, ARep P w (fun _ _ => True) (.v T x) v ∧ InR T x := by
  obtain ⟨fuel, hf⟩ := hd
  obtain ⟨x, h1, h2⟩ := (open_flat (B := w.heap.size) 64).1 t T fuel _ _ hT ha hf
  refine ⟨x, ⟨_, h1, ?_⟩, h2⟩
  have hTy := tyB_ok hT
  obtain ⟨dsc, hu, hag⟩ := hTy.agg
  unfold asVal
  unfold Value.okWide at hval
  by_cases hagg : isAggT T = true
  · rw [if_pos hagg]
    rw [hagg] at hag
    rw [hu] at hval
    cases dsc <;> simp only [aggD] at hag <;> first | (exfalso; simp at hag; done) | (obtain ⟨cs, rfl, _⟩ := hval; simp [Value.cells])
  · rw [if_neg hagg]
    have hagg' : aggD dsc = false := by rw [hag]; simpa using hagg
    have hl : v.cells.toList.length = 1 := by
      have := Flat.len P T h1
      rw [this]; cases T <;> simp_all [isAggT, cellsN]
    cases v <;> first | rfl | skip
    rename_i cs
    exfalso
    rw [hu] at hval
    cases dsc <;> simp only [aggD] at hagg' <;> first | (exfalso; simp at hagg'; done) | (simp [Cell.okWide, Cell.ok, hu] at hval; done) | skip
theorem args_stay {W W' : World} (hl : laidOutB P = true) (hB : Below W.heap.size W W') : ∀ (ts : List TypeId) (vs : List Value) (ds : List (DataW H)) (ps : List MemPlace), (ts.all fun t => P.readableRec t && decide (t < P.types.size)) = true →
    DataW.TrodAll enc P W 0 (fun _ => true) true ts vs ds ps → DataW.TrodAll enc P W' 0 (fun b => decide (b < W.heap.size)) true ts vs ds ps
  | [], vs, ds, ps, _, h => by
    obtain ⟨rfl, rfl, rfl⟩ := ChangeShapes.trodAll_nil h
    exact ChangeShapes.trodAll_mk0
  | t :: ts, vs, ds, ps, ht, h => by
    obtain ⟨v, vs', d, ds', p, q, rfl, rfl, rfl, h1, h2⟩ := ChangeShapes.trodAll_cons h
    simp only [List.all_cons, Bool.and_eq_true, decide_eq_true_eq] at ht
    have lt : ∀ x ∈ p, x.block < W.heap.size := by
      obtain ⟨n, hn⟩ := h1
      exact DataW.trod_lt n _ _ _ hn
    exact ⟨p, q, WideElems.Trod_stays hl ht.1.1 ht.1.2 h1 (fun x hx => hB.same (lt x hx)) (fun x hx => by simpa using lt x hx), args_stay hl hB ts vs' ds' q ht.2 h2, rfl⟩
end
end Go.Fw
/- The glue, generic: how long the arguments' texts are. -/
namespace Go.Fw
open Go Go.RowKit
def InZ (K : Nat) : (T : Ty) → den T → Prop
  | .str, s => s.length ≤ K
  | .sl T, xs => ∀ x ∈ xs, InZ K T x
  | .pair A B, x => InZ K A x.1 ∧ InZ K B x.2
  | .arr _ T, xs => ∀ x ∈ xs, InZ K T x
  | _, _ => True
section
variable {H : Type} {enc : TypeId × Value → H} {P : Program} {w : World} {sp : Nat → Bool} {held : Bool} {B : Nat}
theorem weights_all {e : TypeId} {K : Nat} : ∀ {l : List (DataW H)} {i : Nat} {d : DataW H}, l[i]? = some d → (DataW.weightsAll P e l).all (· ≤ K) = true → (d.weights P e).all (· ≤ K) = true
  | [], i, d, h, _ => by simp at h
  | x :: l, 0, d, h, hz => by
    simp only [List.getElem?_cons_zero, Option.some.injEq] at h
    subst h
    simp only [DataW.weightsAll, List.all_append, Bool.and_eq_true] at hz
    exact hz.1
  | x :: l, i + 1, d, h, hz => by
    simp only [DataW.weightsAll, List.all_append, Bool.and_eq_true] at hz
    exact weights_all (by simpa using h) hz.2
theorem open_flatZ (K : Nat) : ∀ (m : Nat),
    (∀ (t : TypeId) (T : Ty) (fuel : Nat) (cs : List Value) (x : DataW H × List MemPlace), tyOk P m t T = true → argT T = true → DataW.trod enc P w 0 sp held fuel t cs = some x → ∃ v, Flat P T w (fun _ _ => True) B .no v cs [] ∧ InR T v ∧ ((x.1.weights P t).all (· ≤ K) = true → InZ K T v)) ∧
    (∀ (fs : List Field) (T : Ty) (off : Nat) (cs : List Value) (ds : List (DataW H)), fldOk P m fs T off = true → argT T = true → cs.length = off + cellsN T →
      (∀ (i : Nat) (f : Field), fs[i]? = some f → ∃ n y, DataW.trod enc P w 0 sp held n f.type ((cs.drop f.offset).take (P.cellsOf f.type)) = some y ∧ ds[i]? = some y.1) → ∃ v, Flat P T w (fun _ _ => True) B .no v (cs.drop off) [] ∧ InR T v ∧ ((DataW.weightsEach P (fs.map (·.type)) ds).all (· ≤ K) = true → InZ K T v)) := by
  intro m
  induction m with
  | zero => exact ⟨fun t T fuel cs x h => by simp [tyOk] at h, fun fs T off cs ds h => by simp [fldOk] at h⟩
  | succ m ih =>
    obtain ⟨ih1, ih2⟩ := ih
    refine ⟨fun t T fuel cs x h ha hd => ?_, fun fs T off cs ds h ha hl hd => ?_⟩
    · have hT : TyR P t T := ⟨⟨m + 1, h⟩⟩
      cases T with
      | int k =>
        obtain ⟨n, rfl, _, hw⟩ := DataW.trod_int hT.int hd
        exact ⟨n, by unfold Flat; exact ⟨rfl, wf_inR hw, rfl⟩, wf_inR hw, fun _ => trivial⟩
      | bool =>
        unfold tyOk at h
        simp only [Bool.and_eq_true] at h
        have h2 := h.2
        split at h2 <;> first | (simp at h2; done) | skip
        · rename_i hu
          obtain ⟨b, rfl, _⟩ := DataW.trod_bool hu hd
          exact ⟨b, by unfold Flat; exact ⟨rfl, rfl⟩, trivial, fun _ => trivial⟩
        · cases m with
          | zero => simp [fldOk] at h2
          | succ m => unfold fldOk at h2; split at h2 <;> simp at h2
      | str =>
        obtain ⟨s, rfl, hx, hw⟩ := DataW.trod_string hT.str hd
        obtain ⟨⟨s⟩⟩ := s
        refine ⟨s, by unfold Flat; exact ⟨rfl, hw, rfl⟩, hw, fun hz => ?_⟩
        rw [hx] at hz
        simpa [DataW.weights, InZ] using hz
      | unit =>
        unfold tyOk at h
        simp only [Bool.and_eq_true] at h
        have h2 := h.2
        split at h2 <;> first | (simp at h2; done) | skip
        rename_i fs hu
        obtain ⟨xs, n, _, _, hlen, hxl, _⟩ := DataW.trod_struct hu hd
        rw [cellsOf_ty (n := m + 1) (T := .unit) (by unfold tyOk; simp only [Bool.and_eq_true]; refine ⟨h.1, ?_⟩; rw [hu]; exact h2)] at hlen
        have : cs = [] := List.eq_nil_of_length_eq_zero hlen
        subst this
        exact ⟨(), by unfold Flat; exact ⟨rfl, rfl⟩, trivial, fun _ => trivial⟩
      | pair A C =>
        have hsz := cellsOf_ty h
        unfold tyOk at h
        simp only [Bool.and_eq_true] at h
        have h2 := h.2
        split at h2 <;> first | (simp at h2; done) | skip
        rename_i fs hu
        obtain ⟨xs, n, _, hx, hlen, hxl, hf⟩ := DataW.trod_struct hu hd
        obtain ⟨v, g1, g2, g3⟩ := ih2 fs.toList (.pair A C) 0 cs (xs.map (·.1)) h2 ha (by rw [hlen, hsz]; omega) (fun i f hi => by
          have hi' : fs[i]? = some f := by simpa using hi
          have hlt : i < xs.length := by rw [hxl]; exact (Array.getElem?_eq_some_iff.1 hi').1
          exact ⟨n, xs[i], by rw [hf i f hi']; exact List.getElem?_eq_getElem hlt, by rw [List.getElem?_map, List.getElem?_eq_getElem hlt]; rfl⟩)
        refine ⟨v, by simpa using g1, g2, fun hz => g3 ?_⟩
        rw [hx] at hz
        simpa only [DataW.weights, hu] using hz
      | sl T =>
        simp only [argT, Bool.and_eq_true, Bool.not_eq_true', beq_eq_false_iff_ne] at ha
        obtain ⟨e, hu, _⟩ := hT.slice
        have he : tyOk P m e T = true := by
          unfold tyOk at h
          simp only [Bool.and_eq_true] at h
          have h2 := h.2
          rw [hu] at h2
          exact h2
        have hc : P.cellsOf e = cellsN T := cellsOf_ty he
        rcases DataW.trod_slice hu hd with ⟨rfl, _⟩ | ⟨a, len, cap, elems, rest, n, _, rfl, hx, hb, hl, hm, hlen, hel, _⟩
        · refine ⟨[], ?_, by simp [InR], fun _ => by simp [InZ]⟩
          unfold Flat
          exact ⟨rfl, none, 0, rfl, Nat.le_refl _, by simp, .inl rfl⟩
        · have key : ∀ i, i < len → ∃ q : List Value × den T, (q.1.length = cellsN T ∧ (∀ r, r < cellsN T → w.cell? ((a.add (i * cellsN T)).add r) = q.1[r]?)) ∧ Flat P T w (fun _ _ => True) B .no q.2 q.1 [] ∧ InR T q.2 ∧ ∃ y, elems[i]? = some y ∧ ((y.1.weights P e).all (· ≤ K) = true → InZ K T q.2) := by
            intro i hi
            have := hel i hi
            rw [List.getElem?_eq_getElem (by omega)] at this
            obtain ⟨cs', hcs, hy⟩ := Option.bind_eq_some_iff.1 this
            obtain ⟨v, hv1, hv2, hv3⟩ := ih1 e T n cs' _ he ha.1 hy
            obtain ⟨_, k1, k2⟩ := World.cells?_some hcs
            rw [hc] at k1 k2
            exact ⟨(cs', v), ⟨k1, k2⟩, hv1, hv2, _, List.getElem?_eq_getElem _, hv3⟩
          obtain ⟨L, hL, hq⟩ := picks len key
          refine ⟨L.map (·.2), ?_, ?_, fun hz => ?_⟩
          · unfold Flat
            refine ⟨rfl, some a, cap, by simp [hL], by simpa [hL] using hl, hm, ?_⟩
            by_cases h0 : len = 0
            · left; have : L = [] := List.eq_nil_of_length_eq_zero (by omega); simp [this]
            · right
              have hpos : 0 < cellsN T := Nat.pos_of_ne_zero ha.2
              have hcell : ∀ i r q, L[i]? = some q → r < cellsN T → ∃ v, q.1[r]? = some v ∧ w.cell? ((a.add (i * cellsN T)).add r) = some v := by
                intro i r q hi hr
                have := (hq i q hi).1
                refine ⟨q.1[r]'(by omega), List.getElem?_eq_getElem _, ?_⟩
                rw [this.2 r hr]; exact List.getElem?_eq_getElem _
              have hsp : a.spot = none := by
                obtain ⟨v, _, hv⟩ := hcell 0 0 (L[0]'(by omega)) (List.getElem?_eq_getElem _) hpos
                have := spot_none hv
                simpa [Addr.add] using this
              obtain ⟨b, off, s⟩ := a
              simp only at hsp
              subst hsp
              refine ⟨b, off, (L.map (·.1)).flatten, rfl, elems_of L (fun q hq' => ?_), fun j v hj => ⟨?_, trivial⟩⟩
              · obtain ⟨i, hi⟩ := List.getElem?_of_mem hq'
                exact (hq i q hi).2.1
              · obtain ⟨i, r, l, rfl, hr, hi, hv⟩ := flat_get _ (fun l hl' => by
                  obtain ⟨q, hq', rfl⟩ := List.mem_map.1 hl'
                  obtain ⟨i, hi⟩ := List.getElem?_of_mem hq'
                  exact (hq i q hi).1.1) j v hj
                rw [List.getElem?_map, Option.map_eq_some_iff] at hi
                obtain ⟨q, hi, rfl⟩ := hi
                obtain ⟨v', hv1, hv2⟩ := hcell i r q hi hr
                rw [hv] at hv1; cases hv1
                rw [WideShapes.add_plain, WideShapes.add_plain, Nat.add_assoc] at hv2
                exact hv2
          · unfold InR
            refine ⟨by simp [hL]; omega, fun x hx => ?_⟩
            obtain ⟨q, hq', rfl⟩ := List.mem_map.1 hx
            obtain ⟨i, hi⟩ := List.getElem?_of_mem hq'
            exact (hq i q hi).2.2.1
          · unfold InZ
            intro x hx2
            obtain ⟨q, hq', rfl⟩ := List.mem_map.1 hx2
            obtain ⟨i, hi⟩ := List.getElem?_of_mem hq'
            obtain ⟨y, hy1, hy2⟩ := (hq i q hi).2.2.2
            apply hy2
            rw [hx] at hz
            simp only [DataW.weights, hu, List.all_cons, List.all_append, Bool.and_eq_true] at hz
            exact weights_all (by rw [List.getElem?_map, hy1]; rfl) hz.2.1
      | arr n T =>
        have hsz := cellsOf_ty h
        unfold tyOk at h
        simp only [Bool.and_eq_true] at h
        have h2 := h.2
        split at h2 <;> first | (simp at h2; done) | skip
        · rename_i n' e hu
          simp only [Bool.and_eq_true, beq_iff_eq] at h2
          obtain ⟨rfl, he⟩ := h2
          simp only [argT] at ha
          have hc : P.cellsOf e = cellsN T := cellsOf_ty he
          obtain ⟨xs, k, _, hx, hlen, hxl, hel⟩ := DataW.trod_array hu hd
          have key : ∀ i, i < n' → ∃ q : List Value × den T, q.1 = (cs.drop (i * cellsN T)).take (cellsN T) ∧ Flat P T w (fun _ _ => True) B .no q.2 q.1 [] ∧ InR T q.2 ∧ ∃ y, xs[i]? = some y ∧ ((y.1.weights P e).all (· ≤ K) = true → InZ K T q.2) := by
            intro i hi
            have := hel i hi
            rw [List.getElem?_eq_getElem (by omega), hc] at this
            obtain ⟨v, hv1, hv2, hv3⟩ := ih1 e T k _ _ he ha this
            exact ⟨(_, v), rfl, hv1, hv2, _, List.getElem?_eq_getElem _, hv3⟩
          obtain ⟨L, hL, hq⟩ := picks n' key
          refine ⟨L.map (·.2), ?_, ?_, fun hz => ?_⟩
          · unfold Flat
            refine ⟨by simp [hL], ?_⟩
            have := elems_of (R := Flat P T w (fun _ _ => True) B .no) L (fun q hq' => by
              obtain ⟨i, hi⟩ := List.getElem?_of_mem hq'
              exact (hq i q hi).2.1)
            rwa [flat_chunks (c := cellsN T) L cs (fun i q hi => (hq i q hi).1) (by rw [hlen, hsz, hL]; rfl)] at this
          · unfold InR
            refine ⟨by simp [hL], fun x hx => ?_⟩
            obtain ⟨q, hq', rfl⟩ := List.mem_map.1 hx
            obtain ⟨i, hi⟩ := List.getElem?_of_mem hq'
            exact (hq i q hi).2.2.1
          · unfold InZ
            intro x hx2
            obtain ⟨q, hq', rfl⟩ := List.mem_map.1 hx2
            obtain ⟨i, hi⟩ := List.getElem?_of_mem hq'
            obtain ⟨y, hy1, hy2⟩ := (hq i q hi).2.2.2
            apply hy2
            rw [hx] at hz
            simp only [DataW.weights, hu] at hz
            exact weights_all (by rw [List.getElem?_map, hy1]; rfl) hz
        · cases m with
          | zero => simp [fldOk] at h2
          | succ m => unfold fldOk at h2; split at h2 <;> simp at h2
      | fn A C => simp [argT] at ha
    · cases fs with
      | nil =>
        unfold fldOk at h
        cases T <;> first | (exfalso; simp at h; done) | skip
        refine ⟨(), ?_, trivial, fun _ => trivial⟩
        unfold Flat
        exact ⟨by apply List.drop_eq_nil_of_le; simp [cellsN] at hl; omega, rfl⟩
      | cons f fs =>
        unfold fldOk at h
        cases T <;> first | (exfalso; simp at h; done) | skip
        rename_i A C
        simp only [Bool.and_eq_true, beq_iff_eq] at h
        obtain ⟨⟨h1, h2⟩, h3⟩ := h
        simp only [argT, Bool.and_eq_true] at ha
        simp only [cellsN] at hl
        obtain ⟨n, y, hy, hy0⟩ := hd 0 f rfl
        obtain ⟨v1, g1, g2, g5⟩ := ih1 f.type A n _ y h2 ha.1 hy
        obtain ⟨d0, ds', rfl⟩ : ∃ d0 ds', ds = d0 :: ds' := by
          cases ds with
          | nil => simp at hy0
          | cons d r => exact ⟨d, r, rfl⟩
        simp only [List.getElem?_cons_zero, Option.some.injEq] at hy0
        obtain ⟨v2, g3, g4, g6⟩ := ih2 fs C (off + cellsN A) cs ds' h3 ha.2 (by omega) (fun i f' hi => by simpa using hd (i + 1) f' (by simpa using hi))
        refine ⟨(v1, v2), ?_, ⟨g2, g4⟩, fun hz => ?_⟩
        · unfold Flat
          refine ⟨_, _, [], [], ?_, rfl, g1, g3⟩
          rw [h1, cellsOf_ty h2, ← List.drop_drop, List.take_append_drop]
        · simp only [List.map_cons, DataW.weightsEach, List.all_append, Bool.and_eq_true] at hz
          exact ⟨g5 (by rw [← hy0]; exact hz.1), g6 hz.2⟩
theorem weight_at {ts : List TypeId} {ds : List (DataW H)} {K : Nat} (h : (DataW.weightsEach P ts ds).all (· ≤ K) = true) {j : Nat} {t : TypeId} {d : DataW H} (ht : ts[j]? = some t) (hd : ds[j]? = some d) : (d.weights P t).all (· ≤ K) = true := by
  rw [List.all_eq_true] at h ⊢
  intro n hn
  exact h n (DataW.weights_mem_each ht hd n hn)
theorem open_argZ {r : Reach} {b0 : Nat} {t : TypeId} {T : Ty} {v : Value} {d : DataW H} {ps : List MemPlace} (hT : tyB P t T = true) (ha : argT T = true) (hval : Value.okWide P w r b0 t v) (hd : DataW.Trod enc P w 0 sp held t v d ps) (hz : (d.weights P t).all (· ≤ reachBytes) = true) :
    ∃ x : den T, ARep P w (fun _ _ => True) (.v T x) v ∧ InR T x ∧ InZ reachBytes T x := by
  obtain ⟨fuel, hf⟩ := hd
  obtain ⟨x, h1, h2, h3⟩ := (open_flatZ (B := w.heap.size) reachBytes 64).1 t T fuel _ _ hT ha hf
  refine ⟨x, ⟨_, h1, ?_⟩, h2, h3 hz⟩
  have hTy := tyB_ok hT
  obtain ⟨dsc, hu, hag⟩ := hTy.agg
  unfold asVal
  unfold Value.okWide at hval
  by_cases hagg : isAggT T = true
  · rw [if_pos hagg]
    rw [hagg] at hag
    rw [hu] at hval
    cases dsc <;> simp only [aggD] at hag <;> first | (exfalso; simp at hag; done) | (obtain ⟨cs, rfl, _⟩ := hval; simp [Value.cells])
  · rw [if_neg hagg]
    have hagg' : aggD dsc = false := by rw [hag]; simpa using hagg
    have hl : v.cells.toList.length = 1 := by
      have := Flat.len P T h1
      rw [this]; cases T <;> simp_all [isAggT, cellsN]
    cases v <;> first | rfl | skip
    rename_i cs
    exfalso
    rw [hu] at hval
    cases dsc <;> simp only [aggD] at hagg' <;> first | (exfalso; simp at hagg'; done) | (simp [Cell.okWide, Cell.ok, hu] at hval; done) | skip
end
end Go.Fw
