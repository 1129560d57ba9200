/- Soundness: an element of a slice that a variable's part holds is written. -/
import Derived.Test.YtggppceiapjadaaFwS19
set_option linter.unusedVariables false
set_option linter.unusedSimpArgs false
namespace Go.Fw
open Go Go.RowKit

/-- a part of a value, and what may stand there instead in a later world -/
theorem Flat.lens2 (P : Program) : ∀ (p : Path) (T : Ty) {w : World} {G : Nat → Nat → Prop} {B : Nat} {o : Ann} {x : den T} {vs : List Value} {ob : OB} {T' : Ty} {y : den T'}, hasIx p = false → Flat P T w G B o x vs ob → getP T p x = some ⟨T', y⟩ →
    ∃ v1 v2 v3 b1 b2 b3, vs = v1 ++ v2 ++ v3 ∧ ob = b1 ++ b2 ++ b3 ∧ v1.length = offT T p ∧ Flat P T' w G B (annAt o p) y v2 b2 ∧
      ∀ (w' : World) (o2 : Ann) (y2 : den T') (u : List Value) (c : OB) (x2 : den T), (∀ b i, b < w.heap.size → G b i → G b i ∧ w'.cell? ⟨b, i, none⟩ = w.cell? ⟨b, i, none⟩) → Later B w w' → (∀ g, g ∈ blocks b1 ∨ g ∈ blocks b3 → w'.heap[g]? = w.heap[g]?) →
        Flat P T' w' G B o2 y2 u c → setP T p x ⟨T', y2⟩ = some x2 → Flat P T w' G B (setAnn o p o2) x2 (v1 ++ u ++ v3) (b1 ++ c ++ b3)
  | [], T, w, G, B, o, x, vs, ob, T', y, _, hF, h => by
    simp only [getP, Option.some.injEq] at h
    obtain ⟨rfl, h⟩ := Sigma.mk.inj h
    rw [eq_of_heq h] at hF
    refine ⟨[], vs, [], [], ob, [], by simp, by simp, by cases T <;> rfl, hF, ?_⟩
    intro w' o2 y2 u c x2 _ _ _ hy hs
    have hs' : cast? T ⟨T, y2⟩ = some x2 := by cases T <;> exact hs
    rw [cast?_self, Option.some.injEq] at hs'
    subst hs'
    simpa [setAnn] using hy
  | .l :: p, .pair A C, w, G, B, o, x, vs, ob, T', y, hp, hF, h => by
    unfold Flat at hF; obtain ⟨u1, u2, c1, c2, rfl, rfl, h1, h2⟩ := hF
    simp only [getP] at h
    obtain ⟨v1, v2, v3, b1, b2, b3, rfl, rfl, hl, hF2, hset⟩ := Flat.lens2 P p A hp h1 h
    refine ⟨v1, v2, v3 ++ u2, b1, b2, b3 ++ c2, by simp, by simp, hl, hF2, ?_⟩
    intro w' o2 y2 u c x2 hG hL hO hy hs
    simp only [setP, Option.bind_eq_some_iff, Option.some.injEq] at hs
    obtain ⟨z, hz, rfl⟩ := hs
    unfold Flat
    refine ⟨v1 ++ u ++ v3, u2, b1 ++ c ++ b3, c2, by simp, by simp, hset w' o2 y2 u c z hG hL (fun g hg => hO g ?_) hy hz, Flat.mono P C hG hL (fun g hg => hO g (by simp [hg])) h2⟩
    rcases hg with hg | hg
    · exact .inl hg
    · exact .inr (by simp [hg])
  | .r :: p, .pair A C, w, G, B, o, x, vs, ob, T', y, hp, hF, h => by
    have hlen : ∀ {vs ob}, Flat P A w G B o.l x.1 vs ob → vs.length = cellsN A := fun h => Flat.len P A h
    unfold Flat at hF; obtain ⟨u1, u2, c1, c2, rfl, rfl, h1, h2⟩ := hF
    simp only [getP] at h
    obtain ⟨v1, v2, v3, b1, b2, b3, rfl, rfl, hl, hF2, hset⟩ := Flat.lens2 P p C hp h2 h
    refine ⟨u1 ++ v1, v2, v3, c1 ++ b1, b2, b3, by simp, by simp, by rw [List.length_append, hlen h1, hl]; rfl, hF2, ?_⟩
    intro w' o2 y2 u c x2 hG hL hO hy hs
    simp only [setP, Option.bind_eq_some_iff, Option.some.injEq] at hs
    obtain ⟨z, hz, rfl⟩ := hs
    unfold Flat
    refine ⟨u1, v1 ++ u ++ v3, c1, b1 ++ c ++ b3, by simp, by simp, Flat.mono P A hG hL (fun g hg => hO g (by simp [hg])) h1, hset w' o2 y2 u c z hG hL (fun g hg => hO g ?_) hy hz⟩
    rcases hg with hg | hg
    · exact .inl (by simp [hg])
    · exact .inr hg
  | .ix _ :: _, _, _, _, _, _, _, _, _, _, _, hp, _, _ => by simp [hasIx] at hp
  | .l :: _, .int _, _, _, _, _, _, _, _, _, _, _, _, h | .l :: _, .bool, _, _, _, _, _, _, _, _, _, _, _, h | .l :: _, .str, _, _, _, _, _, _, _, _, _, _, _, h | .l :: _, .unit, _, _, _, _, _, _, _, _, _, _, _, h | .l :: _, .sl _, _, _, _, _, _, _, _, _, _, _, _, h | .l :: _, .arr _ _, _, _, _, _, _, _, _, _, _, _, _, h | .l :: _, .fn _ _, _, _, _, _, _, _, _, _, _, _, _, h => by simp [getP] at h
  | .r :: _, .int _, _, _, _, _, _, _, _, _, _, _, _, h | .r :: _, .bool, _, _, _, _, _, _, _, _, _, _, _, h | .r :: _, .str, _, _, _, _, _, _, _, _, _, _, _, h | .r :: _, .unit, _, _, _, _, _, _, _, _, _, _, _, h | .r :: _, .sl _, _, _, _, _, _, _, _, _, _, _, _, h | .r :: _, .arr _ _, _, _, _, _, _, _, _, _, _, _, _, h | .r :: _, .fn _ _, _, _, _, _, _, _, _, _, _, _, _, h => by simp [getP] at h

/-- slices beside one that is replaced by another of its length -/
theorem getP_set_sl : ∀ (q p : Path) (T0 : Ty) {x x1 : den T0} {T1 T' : Ty} {xs ys : List (den T1)} {zs : List (den T')}, hasIx q = false → getP T0 p x = some ⟨.sl T1, xs⟩ → setP T0 p x ⟨.sl T1, ys⟩ = some x1 → ys.length = xs.length → getP T0 q x = some ⟨.sl T', zs⟩ →
    ∃ zs' : List (den T'), getP T0 q x1 = some ⟨.sl T', zs'⟩ ∧ zs'.length = zs.length
  | [], p, T0, x, x1, T1, T', xs, ys, zs, _, hp, hs, hl, hq => by
    have : T0 = .sl T' := by
      simp only [getP, Option.some.injEq] at hq
      exact (Sigma.mk.inj hq).1
    subst this
    cases p with
    | nil =>
      simp only [getP, Option.some.injEq] at hp hq
      obtain ⟨h1, h2⟩ := Sigma.mk.inj hp
      cases h1
      obtain ⟨_, h3⟩ := Sigma.mk.inj hq
      have e1 := eq_of_heq h2; have e2 := eq_of_heq h3
      have hs' : cast? (.sl T1) ⟨.sl T1, ys⟩ = some x1 := hs
      rw [cast?_self, Option.some.injEq] at hs'
      subst hs'
      exact ⟨ys, rfl, by rw [hl, ← e1, ← e2]⟩
    | cons st p => cases st <;> simp [getP] at hp
  | .l :: q, p, .pair A C, x, x1, T1, T', xs, ys, zs, hix, hp, hs, hl, hq => by
    simp only [getP] at hq
    simp only [hasIx] at hix
    match p, hp, hs with
    | [], hp, _ => exact absurd (Sigma.mk.inj (by simpa only [getP, Option.some.injEq] using hp)).1 (by simp)
    | .l :: p, hp, hs =>
      simp only [setP, Option.bind_eq_some_iff, Option.some.injEq] at hs
      obtain ⟨u, hu, rfl⟩ := hs
      simp only [getP] at hp ⊢
      exact getP_set_sl q p A hix hp hu hl hq
    | .r :: p, hp, hs =>
      simp only [setP, Option.bind_eq_some_iff, Option.some.injEq] at hs
      obtain ⟨u, hu, rfl⟩ := hs
      simp only [getP]
      exact ⟨zs, hq, rfl⟩
    | .ix i :: p, hp, hs => simp [setP] at hs
  | .r :: q, p, .pair A C, x, x1, T1, T', xs, ys, zs, hix, hp, hs, hl, hq => by
    simp only [getP] at hq
    simp only [hasIx] at hix
    match p, hp, hs with
    | [], hp, _ => exact absurd (Sigma.mk.inj (by simpa only [getP, Option.some.injEq] using hp)).1 (by simp)
    | .r :: p, hp, hs =>
      simp only [setP, Option.bind_eq_some_iff, Option.some.injEq] at hs
      obtain ⟨u, hu, rfl⟩ := hs
      simp only [getP] at hp ⊢
      exact getP_set_sl q p C hix hp hu hl hq
    | .l :: p, hp, hs =>
      simp only [setP, Option.bind_eq_some_iff, Option.some.injEq] at hs
      obtain ⟨u, hu, rfl⟩ := hs
      simp only [getP]
      exact ⟨zs, hq, rfl⟩
    | .ix i :: p, hp, hs => simp [setP] at hs
  | .ix _ :: _, _, _, _, _, _, _, _, _, _, hix, _, _, _, _ => by simp [hasIx] at hix
  | .l :: _, _, .int _, _, _, _, _, _, _, _, _, _, _, _, h | .l :: _, _, .bool, _, _, _, _, _, _, _, _, _, _, _, h | .l :: _, _, .str, _, _, _, _, _, _, _, _, _, _, _, h | .l :: _, _, .unit, _, _, _, _, _, _, _, _, _, _, _, h | .l :: _, _, .sl _, _, _, _, _, _, _, _, _, _, _, _, h | .l :: _, _, .arr _ _, _, _, _, _, _, _, _, _, _, _, _, h | .l :: _, _, .fn _ _, _, _, _, _, _, _, _, _, _, _, _, h => by simp [getP] at h
  | .r :: _, _, .int _, _, _, _, _, _, _, _, _, _, _, _, h | .r :: _, _, .bool, _, _, _, _, _, _, _, _, _, _, _, h | .r :: _, _, .str, _, _, _, _, _, _, _, _, _, _, _, h | .r :: _, _, .unit, _, _, _, _, _, _, _, _, _, _, _, h | .r :: _, _, .sl _, _, _, _, _, _, _, _, _, _, _, _, h | .r :: _, _, .arr _ _, _, _, _, _, _, _, _, _, _, _, _, h | .r :: _, _, .fn _ _, _, _, _, _, _, _, _, _, _, _, _, h => by simp [getP] at h

section
variable {P : Program} {B : Nat} {G0 : Nat → Nat → Prop} {W0 : World} {n : Nat} {env : Env} {tm : Array Value} {a : Act} {w : World} {ob : Nat → OB} {cl : Cal}

/-- an element of a row is written: the row behind it -/
theorem row_set {G : Nat → Nat → Prop} {e : TypeId} {T0 T : Ty} {oa : Ann} {xs : List (den T0)} {j : Nat} {q : Path} {z : den T} {u : den T0} {vs : List Value} {v : Value} {obv : OB} (hr : Flat P (.sl T0) w G B (.own true e oa) xs [v] obv) (ho : oa.pure = true) (hj : j < xs.length)
    (hset : setP T0 q (xs.getD j (zero T0)) ⟨T, z⟩ = some u) (hz : Flat P T w G B .no z vs []) (hno : ∀ g i, (g, 0) ∈ obv → ¬ G g i) :
    ∃ g cap cur e' fz, v = .slice (some ⟨g, 0, none⟩) xs.length cap ∧ obv = [(g, 0)] ∧ w.heap[g]? = some (.cells cur e' fz) ∧ frzOk fz cur.size ∧ (j * cellsN T0 + offT T0 q) + vs.length ≤ cur.size ∧
      Flat P (.sl T0) (w.setRow g (cur.toList.take (j * cellsN T0 + offT T0 q) ++ vs ++ cur.toList.drop ((j * cellsN T0 + offT T0 q) + vs.length)).toArray) G B (.own true e oa) (xs.set j u) [v] obv := by
  unfold Flat at hr
  obtain ⟨v', cells, ob', e1, hrow, hel, hob⟩ := hr
  simp only [List.cons.injEq, and_true] at e1
  subst e1
  obtain ⟨hobn, hel0⟩ := Elems.pure P (o' := .no) ho rfl hel
  subst hobn
  have hrow' := hrow
  rcases hrow.2 with ⟨_, hn⟩ | ⟨g, cap, cur, e1, fz, hv, hBg, hg, hnc, hcm, hcs, htake, hbf, hfz⟩
  · omega
  have hob2 : obv = [(g, 0)] := by rw [hob, hv]; simp [obOf, Value.ownBlock]
  have hg0 : (g, 0) ∈ obv := by rw [hob2]; simp
  obtain ⟨y, hy⟩ := setP_getP q T0 hset
  obtain ⟨v1, v2, v3, c1, c2, c3, f1, f2, f3, f4, f5⟩ := Elems.split (fun x v b hx => Flat.len P _ hx) j (zero T0) hel0 hj
  obtain ⟨u1, u2, u3, d1, d2, d3, g1, g2, g3, g4, g5⟩ := Flat.lens P q T0 f4 hy
  have hlv : vs.length = u2.length := by rw [Flat.len P T hz, Flat.len P T g4]
  have hc : c1 = [] ∧ c2 = [] ∧ c3 = [] := by
    have : c1 ++ c2 ++ c3 = [] := f2.symm
    simp at this; exact ⟨this.1, this.2.1, this.2.2⟩
  obtain ⟨rfl, rfl, rfl⟩ := hc
  have hd : d1 = [] ∧ d2 = [] ∧ d3 = [] := by
    have : d1 ++ d2 ++ d3 = [] := g2.symm
    simp at this; exact ⟨this.1, this.2.1, this.2.2⟩
  obtain ⟨rfl, rfl, rfl⟩ := hd
  have hnew := f5 u (u1 ++ vs ++ u3) [] (by
    have := g5 .no z vs [] u (fun _ => rfl) hz hset
    exact (Flat.pure P T0 (setAnn_pure q .no .no rfl rfl) (o' := .no) rfl this).2)
  have hcur : cur.toList = (v1 ++ u1) ++ u2 ++ (u3 ++ v3 ++ cur.toList.drop (xs.length * cellsN T0)) := by
    rw [← List.take_append_drop (xs.length * cellsN T0) cur.toList, htake, f1, g1]
    have : (v1 ++ (u1 ++ u2 ++ u3) ++ v3).length = xs.length * cellsN T0 := by rw [← g1, ← f1]; exact hrow.1
    have h2 : (v1 ++ (u1 ++ u2 ++ u3) ++ v3 ++ cur.toList.drop (xs.length * cellsN T0)).drop (xs.length * cellsN T0) = cur.toList.drop (xs.length * cellsN T0) := by
      rw [← this, List.drop_left]
    rw [h2]
    simp only [List.append_assoc]
  have hoff : (v1 ++ u1).length = j * cellsN T0 + offT T0 q := by rw [List.length_append, f3, g3]
  have hcs2 : (cur.toList.take (j * cellsN T0 + offT T0 q) ++ vs ++ cur.toList.drop ((j * cellsN T0 + offT T0 q) + vs.length)) = (v1 ++ u1) ++ vs ++ (u3 ++ v3 ++ cur.toList.drop (xs.length * cellsN T0)) := by
    rw [← hoff]
    have := take_drop_mid (v1 := v1 ++ u1) (v3 := u3 ++ v3 ++ cur.toList.drop (xs.length * cellsN T0)) hlv
    rw [← hcur] at this
    exact this
  refine ⟨g, cap, cur, e1, fz, hv, hob2, hg, hfz, ?_, ?_⟩
  · have : cur.size = cur.toList.length := by simp
    rw [this, hcur, ← hoff, hlv]; simp only [List.length_append]; omega
  rw [hcs2]
  have hcell : ∀ b' i, G b' i → (w.setRow g ((v1 ++ u1) ++ vs ++ (u3 ++ v3 ++ cur.toList.drop (xs.length * cellsN T0))).toArray).cell? ⟨b', i, none⟩ = w.cell? ⟨b', i, none⟩ := by
    intro b' i h
    refine cell_setRow_other w g _ _ ?_
    rintro rfl
    exact hno _ _ hg0 h
  have hlen2 : (v1 ++ (u1 ++ vs ++ u3) ++ v3).length = xs.length * cellsN T0 := by
    have h1 : cells.length = xs.length * cellsN T0 := hrow.1
    rw [f1, g1] at h1
    simp only [List.length_append] at h1 ⊢
    omega
  show Flat P (.sl T0) _ G B (.own true e oa) (xs.set j u) [v] obv
  unfold Flat
  refine ⟨_, v1 ++ (u1 ++ vs ++ u3) ++ v3, [], rfl, ⟨by rw [List.length_set]; exact hlen2, .inr ⟨g, cap, _, e1, fz, by rw [List.length_set]; exact hv, hBg, setRow_heap w g cur _ e1 fz hg, by rw [List.length_set]; exact hnc, hcm, ?_, ?_, hbf, ?_⟩⟩, ?_, ?_⟩
  · rw [← hcs]
    have h1 : cur.size = cur.toList.length := by simp
    have h2 := congrArg List.length hcur
    rw [h1, h2]
    simp only [List.size_toArray, List.length_append]; omega
  · simp only [List.length_set]
    have h1 : (v1 ++ u1) ++ vs ++ (u3 ++ v3 ++ cur.toList.drop (xs.length * cellsN T0)) = (v1 ++ (u1 ++ vs ++ u3) ++ v3) ++ cur.toList.drop (xs.length * cellsN T0) := by simp only [List.append_assoc]
    rw [h1, ← hlen2]
    simp only [List.take_left]
  · have hz1 : cur.size = cur.toList.length := by simp
    have hz2 := congrArg List.length hcur
    rcases hfz with h | h
    · exact .inl h
    · right; simp only [List.size_toArray, List.length_append] at hz2 ⊢; omega
  · exact Elems.imp (fun x v b hb hx => by
      have : b = [] := by cases b with | nil => rfl | cons q r => exact absurd (hb q (by simp)) (by simp)
      subst this
      have hx2 : Flat P T0 (w.setRow g ((v1 ++ u1) ++ vs ++ (u3 ++ v3 ++ cur.toList.drop (xs.length * cellsN T0))).toArray) G B .no x v [] := Flat.mono P T0 (fun b' i _ h => ⟨h, hcell b' i h⟩) ⟨by simp, fun t ht => setRow_other w g t _ (by omega)⟩ (by simp) hx
      exact (Flat.pure P T0 (o := .no) rfl ho hx2).2) (by simpa using hnew)
  · rw [hob]; simp


/-- a part of an element of a slice that a variable's part holds -/
theorem store_elemL (hC : Conc P B G0 W0 n env tm w ob) {s : Nat} {e : TypeId} {T0 T1 T : Ty} {oa o' : Ann} {x0 x1 : den T0} {p : Path} {xs : List (den T1)} {j : Nat} {q : Path} {z : den T} {u : den T1} {vs : List Value} (hs : look env s = .loc T0 oa x0) (ha : annAt oa p = .own true e o')
    (hg : getP T0 p x0 = some ⟨.sl T1, xs⟩) (ho : o'.pure = true) (hj : j < xs.length) (hset : setP T1 q (xs.getD j (zero T1)) ⟨T, z⟩ = some u) (hset2 : setP T0 p x0 ⟨.sl T1, xs.set j u⟩ = some x1) (hz : Flat P T w (Gd B G0 ob) B .no z vs []) :
    ∃ g cap cur e' fz, headAt w tm env s p = some (.slice (some ⟨g, 0, none⟩) xs.length cap) ∧ w.heap[g]? = some (.cells cur e' fz) ∧ frzOk fz cur.size ∧ (j * cellsN T1 + offT T1 q) + vs.length ≤ cur.size ∧
      Conc P B G0 W0 n ((s, .loc T0 oa x1) :: env) tm (w.setRow g (cur.toList.take (j * cellsN T1 + offT T1 q) ++ vs ++ cur.toList.drop ((j * cellsN T1 + offT T1 q) + vs.length)).toArray) ob := by
  have hix : hasIx p = false := annAt_own_noIx p oa ha
  have hr := hC.rep s
  rw [hs] at hr
  obtain ⟨b, cur, e0, ob', k1, k2, k3, k4, k5⟩ := hr
  obtain ⟨v1, v2, v3, b1, b2, b3, e1, e2, e3, e4, e5⟩ := Flat.lens2 P p T0 hix k4 hg
  rw [ha] at e4
  obtain ⟨v, rfl⟩ : ∃ v, v2 = [v] := by
    have := Flat.len P _ e4
    cases v2 with
    | nil => simp [cellsN] at this
    | cons v r => cases r with | nil => exact ⟨v, rfl⟩ | cons => simp [cellsN] at this
  have hsub : ∀ q, q ∈ b2 → q ∈ ob s := fun q hq => by rw [k5, e2]; simp [hq]
  obtain ⟨g, cap, curg, e', fz, r1, r2, r3, rf, r4, r5⟩ := row_set e4 ho hj hset hz (fun g i hg hG => by
    have h0 := hsub _ hg
    have hlow := hC.low s g (mem_blocks.2 ⟨_, h0⟩)
    rcases hG with ⟨h, _⟩ | ⟨_, h⟩
    · omega
    · exact absurd (h s 0 h0) (by simp))
  have hg0 : (g, 0) ∈ ob s := hsub _ (by rw [r2]; simp)
  have hlow := hC.low s g (mem_blocks.2 ⟨_, hg0⟩)
  have hnd := hC.nodup s
  rw [k5, e2, r2] at hnd
  simp only [blocks_cons, blocks_append, blocks_nil, List.nodup_cons, List.nodup_append, List.mem_append, List.mem_cons] at hnd
  have hbg : b ≠ g := fun h => hnd.1 (.inl (.inr (.inl h)))
  have hcellb : w.cell? ⟨b, offT T0 p, none⟩ = some v := by
    rw [cell_of_row w b _ cur e0 (0, 0) k3, ← Array.getElem?_toList, e1, ← e3]
    simp
  have hhead : headAt w tm env s p = some (.slice (some ⟨g, 0, none⟩) xs.length cap) := by
    simp only [headAt, hs, k1, hcellb, r1]
  refine ⟨g, cap, curg, e', fz, hhead, r3, rf, r4, ?_⟩
  refine Conc.touch hC hg0 _ ⟨fun q' v' hq hv => ?_, fun q' h hq => ?_, fun T o x hx => ?_⟩ ?_
  · simp only [headAt, hs, k1] at hv
    simp only [headAt]; rw [look_cons, if_pos rfl]; simp only [k1]
    rw [cell_setRow_other w g _ _ (by exact hbg)]; exact hv
  · simp only [heldAt, hs] at hq
    simp only [heldAt]; rw [look_cons, if_pos rfl]
    simp only
    split at hq
    · rename_i wr ed o2 T' zs ha2 hg2
      simp only [Option.some.injEq] at hq; subst hq
      obtain ⟨zs', h1, h2⟩ := getP_set_sl q' p T0 (annAt_own_noIx q' oa ha2) hg hset2 (by simp) hg2
      exact ⟨⟨wr, ed, T', o2, zs'⟩, by rw [ha2, h1], rfl, h2⟩
    · simp at hq
  · rw [hs] at hx; cases hx
    exact ⟨_, _, by rw [look_cons, if_pos rfl], rfl⟩
  · refine ⟨b, cur, e0, ob', k1, k2, by rw [setRow_other w g b _ hbg]; exact k3, ?_, k5⟩
    have hnew := e5 (w.setRow g (curg.toList.take (j * cellsN T1 + offT T1 q) ++ vs ++ curg.toList.drop ((j * cellsN T1 + offT T1 q) + vs.length)).toArray) (.own true e o') (xs.set j u) [v] b2 x1 (fun b' i _ h => ⟨h, ?_⟩) ⟨by simp, fun t ht => setRow_other w g t _ (by omega)⟩ (fun t ht => setRow_other w g t _ ?_) r5 hset2
    · rw [← ha] at hnew
      rw [e1, e2]
      exact Flat.setAnn_self p T0 hg hnew
    · refine cell_setRow_other w g _ _ ?_
      intro hbb
      replace hbb : b' = g := hbb
      rcases h with ⟨h, _⟩ | ⟨_, h⟩
      · omega
      · rw [hbb] at h; exact absurd (h s 0 hg0) (by simp)
    · rintro rfl
      rcases ht with ht | ht
      · exact hnd.2.1.2.2 _ ht _ (by simp) rfl
      · exact hnd.2.2.2 _ (.inr (by simp)) _ ht rfl

end
end Go.Fw
