/- Soundness, part 13: values that are built. -/
import Derived.Test.YtggppceiapjadaaFwS12
set_option linter.unusedVariables false
set_option linter.unusedSimpArgs false
namespace Go.Fw
open Go Go.RowKit

theorem fold_set : ∀ (vs : List Value) (k off : Nat) (cs : Array Value), off + k + vs.length ≤ cs.size →
    ((vs.zipIdx k).foldl (fun cs (q : Value × Nat) => cs.setIfInBounds (off + q.2) q.1) cs).toList = cs.toList.take (off + k) ++ vs ++ cs.toList.drop (off + k + vs.length)
  | [], k, off, cs, _ => by simp
  | v :: vs, k, off, cs, h => by
    simp only [List.length_cons] at h
    simp only [List.zipIdx_cons, List.foldl_cons]
    rw [fold_set vs (k + 1) off (cs.setIfInBounds (off + k) v) (by rw [Array.size_setIfInBounds]; omega)]
    rw [Array.toList_setIfInBounds]
    apply List.ext_getElem?
    intro j
    simp only [List.getElem?_append, List.length_append, List.length_take, List.length_set, List.length_cons, Array.length_toList, List.getElem?_take, List.getElem?_set, List.getElem?_drop]
    have hs : off + k < cs.size := by omega
    by_cases h1 : j < off + k
    · simp [h1, show j < off + (k + 1) by omega, show min (off + k) cs.size = off + k by omega, show min (off + (k + 1)) cs.size = off + (k + 1) by omega, show ¬ off + k = j by omega, show j < off + (k + 1) + vs.length by omega, show j < off + k + (vs.length + 1) by omega]
    · by_cases h2 : j = off + k
      · subst h2
        simp [show min (off + k) cs.size = off + k by omega, show min (off + (k + 1)) cs.size = off + (k + 1) by omega, show off + k < off + (k + 1) by omega, show off + k < off + (k + 1) + vs.length by omega, hs]
      · simp only [show ¬ j < off + (k + 1) by omega, show min (off + k) cs.size = off + k by omega, show min (off + (k + 1)) cs.size = off + (k + 1) by omega, h1, if_false]
        by_cases h3 : j < off + (k + 1) + vs.length
        · simp only [h3, if_true, show j < off + k + (vs.length + 1) by omega]
          rw [show j - (off + k) = (j - (off + (k + 1))) + 1 by omega, List.getElem?_cons_succ]
        · simp only [h3, if_false, show ¬ j < off + k + (vs.length + 1) by omega]
          rw [if_neg (by omega)]
          congr 1; omega

theorem fill_step {place : Nat → Option (Nat × Nat)} {cells : Array Value} {f off size : Nat} {v : Value} {vs v1 v2 v3 : List Value} {rest : List (Nat × Value)} (hp : place f = some (off, size)) (hv : v.cells = vs.toArray) (hl : vs.length = size)
    (hc : cells.toList = v1 ++ v2 ++ v3) (h1 : v1.length = off) (h2 : v2.length = size) : Instr.fill place cells ((f, v) :: rest) = Instr.fill place (v1 ++ vs ++ v3).toArray rest := by
  have hsz : cells.size = v1.length + v2.length + v3.length := by
    have := congrArg List.length hc
    simp at this; omega
  simp only [Instr.fill, hp, hv]
  rw [if_neg (by simp; omega)]
  congr 1
  apply Array.ext'
  have := fold_set vs 0 off cells (by omega)
  rw [← Array.foldl_toList, Array.toList_zipIdx]
  simp only [Nat.add_zero] at this
  rw [this, hc]
  simp [← h1, ← hl ▸ h2, List.drop_append]

section
variable {P : Program} {B : Nat} {G0 : Nat → Nat → Prop} {W0 : World} {n : Nat} {env : Env} {a : Act} {w : World} {ob : Nat → OB}
variable {R : Type} {K : Kont R} {r : R} {next : Act → World → Prop} {Q : Exit → Act → World → Prop} {o : Oper} {i : AI} {cl : Cal}

theorem Frz.trans {o1 o2 o3 : Nat → OB} (h : Frz o1 o2) (k : Frz o2 o3) : Frz o1 o3 := ⟨fun j => ⟨(k.less j).1.trans (h.less j).1, fun b lim hb => by
  obtain ⟨l1, h1, h2⟩ := (k.less j).2 b lim hb
  obtain ⟨l2, h3, h4⟩ := (h.less j).2 b l1 h1
  exact ⟨l2, h3, Nat.le_trans h4 h2⟩⟩⟩

/-- the parts of a value that is built: where each goes -/
def okParts (T : Ty) (place : Nat → Option (Nat × Nat)) : List (Nat × Operand) → List (Path × Od) → Bool
  | [], [] => true
  | (f, x) :: us, (p, y) :: ys => okOd x y && (match subT T p with | some A => (match place f with | some q => q.1 == offT T p && q.2 == cellsN A | none => false) | none => false) && okParts T place us ys
  | _, _ => false

theorem buildV_sound {T : Ty} {place : Nat → Option (Nat × Nat)} : ∀ {us : List (Nat × Operand)} {ys : List (Path × Od)} {env env' : Env} {ob : Nat → OB} {x x' : den T} {cells : Array Value}, Conc P B G0 W0 n env a.tmps w ob → okParts T place us ys = true →
    Flat P T w (Gd B G0 ob) B .no x cells.toList [] → buildV T x env ys = some (env', x') →
    ∃ ob' cells', Frz ob ob' ∧ Conc P B G0 W0 n env' a.tmps w ob' ∧ Instr.fill place cells (us.map fun q => (q.1, a.eval q.2)) = some cells' ∧ Flat P T w (Gd B G0 ob') B .no x' cells'.toList []
  | [], [], env, env', ob, x, x', cells, hC, _, hF, h => by
    simp only [buildV, Option.some.injEq, Prod.mk.injEq] at h
    obtain ⟨rfl, rfl⟩ := h
    exact ⟨ob, cells, Frz.refl _, hC, rfl, hF⟩
  | (f, u) :: us, (p, y) :: ys, env, env', ob, x, x', cells, hC, hok, hF, h => by
    simp only [okParts, Bool.and_eq_true] at hok
    simp only [buildV, Option.bind_eq_some_iff] at h
    obtain ⟨⟨env1, z⟩, hz, x1, hx1, h⟩ := h
    obtain ⟨ob1, hf1, hC1, vs, hv, hFz⟩ := pub_rep hC hok.1.1 hz
    have hp := hok.1.2
    obtain ⟨A, hA⟩ : ∃ A, subT T p = some A := by
      cases hA : subT T p with
      | none => simp [hA] at hp
      | some A => exact ⟨A, rfl⟩
    obtain ⟨q, hq⟩ : ∃ q, place f = some q := by
      cases hq : place f with
      | none => simp [hA, hq] at hp
      | some q => exact ⟨q, rfl⟩
    rw [hA, hq] at hp
    simp only [Bool.and_eq_true, beq_iff_eq] at hp
    have hF1 : Flat P T w (Gd B G0 ob1) B .no x cells.toList [] := Flat.mono P T (fun b i _ hg => ⟨hf1.Gd hg, rfl⟩) (Later.refl _ _) (fun _ _ => rfl) hF
    -- the part's own type
    obtain ⟨old, hold⟩ := setP_getP p T x z x1 hx1
    obtain ⟨v1, v2, v3, b1, b2, b3, e1, e2, e3, e4, e5⟩ := Flat.lens P p T hF1 hold
    have hnil : b1 = [] ∧ b2 = [] ∧ b3 = [] := by
      have : b1 ++ b2 ++ b3 = [] := e2.symm
      simpa using this
    obtain ⟨rfl, rfl, rfl⟩ := hnil
    have hF2 := e5 .no z.2 vs [] x1 (fun _ => rfl) hFz hx1
    have hann : setAnn .no p .no = .no ∨ (setAnn .no p .no).pure = true := .inr (setAnn_pure p _ _ rfl rfl)
    obtain ⟨_, hF3⟩ := Flat.pure P T (setAnn_pure p .no .no rfl rfl) (o' := .no) rfl hF2
    have hsub := getP_subT p T hF1 hold
    rw [hA] at hsub; simp only [Option.some.injEq] at hsub
    have hvl : vs.length = cellsN z.1 := Flat.len P z.1 hFz
    have hcells : (a.eval u).cells = vs.toArray := by rw [hv]; exact cells_asVal hvl (Flat.one P z.1 rfl hFz)
    have hstep := fill_step (rest := us.map fun q => (q.1, a.eval q.2)) (f := f) (v := a.eval u) (hq) hcells (by rw [hvl, hp.2, hsub]) e1 (by rw [e3, hp.1]) (by rw [Flat.len P z.1 e4, hp.2, hsub])
    obtain ⟨ob2, cells', hf2, hC2, h3, h4⟩ := buildV_sound (cells := (v1 ++ vs ++ v3).toArray) hC1 hok.2 hF3 h
    exact ⟨ob2, cells', hf1.trans hf2, hC2, by rw [List.map_cons, hstep]; exact h3, h4⟩
  | [], _ :: _, _, _, _, _, _, _, _, hok, _, _ => by simp [okParts] at hok
  | _ :: _, [], _, _, _, _, _, _, _, hok, _, _ => by simp [okParts] at hok
where
  setP_getP : ∀ (p : Path) (T : Ty) (x : den T) (z : TV) (x1 : den T), setP T p x z = some x1 → ∃ y : den z.1, getP T p x = some ⟨z.1, y⟩
    | [], T, x, z, x1, h => by
      have hs' : cast? T z = some x1 := by cases T <;> exact h
      have := cast?_some hs'
      subst this
      exact ⟨x, by simp only [getP]⟩
    | .l :: p, .pair A C, x, z, x1, h => by
      simp only [setP, Option.bind_eq_some_iff] at h
      obtain ⟨y, hy, _⟩ := h
      obtain ⟨u, hu⟩ := setP_getP p A x.1 z y hy
      exact ⟨u, by simp only [getP]; exact hu⟩
    | .r :: p, .pair A C, x, z, x1, h => by
      simp only [setP, Option.bind_eq_some_iff] at h
      obtain ⟨y, hy, _⟩ := h
      obtain ⟨u, hu⟩ := setP_getP p C x.2 z y hy
      exact ⟨u, by simp only [getP]; exact hu⟩
    | .ix i :: p, .arr m T, x, z, x1, h => by
      simp only [setP] at h
      split at h
      · rename_i hi
        simp only [Option.bind_eq_some_iff] at h
        obtain ⟨y, hy, _⟩ := h
        obtain ⟨u, hu⟩ := setP_getP p T _ z y hy
        exact ⟨u, by simp only [getP]; rw [if_pos hi]; exact hu⟩
      · simp at h
    | .l :: _, .int _, _, _, _, h | .l :: _, .bool, _, _, _, h | .l :: _, .str, _, _, _, h | .l :: _, .unit, _, _, _, h | .l :: _, .sl _, _, _, _, h | .l :: _, .arr _ _, _, _, _, h | .l :: _, .fn _ _, _, _, _, h => by simp [setP] at h
    | .r :: _, .int _, _, _, _, h | .r :: _, .bool, _, _, _, h | .r :: _, .str, _, _, _, h | .r :: _, .unit, _, _, _, h | .r :: _, .sl _, _, _, _, h | .r :: _, .arr _ _, _, _, _, h | .r :: _, .fn _ _, _, _, _, h => by simp [setP] at h
    | .ix _ :: _, .int _, _, _, _, h | .ix _ :: _, .bool, _, _, _, h | .ix _ :: _, .str, _, _, _, h | .ix _ :: _, .unit, _, _, _, h | .ix _ :: _, .sl _, _, _, _, h | .ix _ :: _, .pair _ _, _, _, _, h | .ix _ :: _, .fn _ _, _, _, _, h => by simp [setP] at h

theorem buildN_sound {T : Ty} {place : Nat → Option (Nat × Nat)} : ∀ {us : List (Nat × Operand)} {ys : List (Path × Od)} {env env' : Env} {ob : Nat → OB} {oa : Ann} {x x' : den T} {cells : Array Value}, Conc P B G0 W0 n env a.tmps w ob → okParts T place us ys = true →
    Flat P T w (Gd B G0 ob) B oa x cells.toList [] → buildV T x env ys = some (env', x') →
    ∃ ob' cells', Frz ob ob' ∧ Conc P B G0 W0 n env' a.tmps w ob' ∧ Instr.fill place cells (us.map fun q => (q.1, a.eval q.2)) = some cells' ∧ Flat P T w (Gd B G0 ob') B (annParts oa ys) x' cells'.toList []
  | [], [], env, env', ob, oa, x, x', cells, hC, _, hF, h => by
    simp only [buildV, Option.some.injEq, Prod.mk.injEq] at h
    obtain ⟨rfl, rfl⟩ := h
    exact ⟨ob, cells, Frz.refl _, hC, rfl, hF⟩
  | (f, u) :: us, (p, y) :: ys, env, env', ob, oa, x, x', cells, hC, hok, hF, h => by
    simp only [okParts, Bool.and_eq_true] at hok
    simp only [buildV, Option.bind_eq_some_iff] at h
    obtain ⟨⟨env1, z⟩, hz, x1, hx1, h⟩ := h
    obtain ⟨ob1, hf1, hC1, vs, hv, hFz⟩ := pub_rep hC hok.1.1 hz
    have hp := hok.1.2
    obtain ⟨A, hA⟩ : ∃ A, subT T p = some A := by
      cases hA : subT T p with
      | none => simp [hA] at hp
      | some A => exact ⟨A, rfl⟩
    obtain ⟨q, hq⟩ : ∃ q, place f = some q := by
      cases hq : place f with
      | none => simp [hA, hq] at hp
      | some q => exact ⟨q, rfl⟩
    rw [hA, hq] at hp
    simp only [Bool.and_eq_true, beq_iff_eq] at hp
    have hF1 : Flat P T w (Gd B G0 ob1) B oa x cells.toList [] := Flat.mono P T (fun b i _ hg => ⟨hf1.Gd hg, rfl⟩) (Later.refl _ _) (fun _ _ => rfl) hF
    -- the part's own type
    obtain ⟨old, hold⟩ := buildV_sound.setP_getP p T x z x1 hx1
    obtain ⟨v1, v2, v3, b1, b2, b3, e1, e2, e3, e4, e5⟩ := Flat.lens P p T hF1 hold
    have hnil : b1 = [] ∧ b2 = [] ∧ b3 = [] := by
      have : b1 ++ b2 ++ b3 = [] := e2.symm
      simpa using this
    obtain ⟨rfl, rfl, rfl⟩ := hnil
    have hF2 := e5 .no z.2 vs [] x1 (fun _ => rfl) hFz hx1
    have hsub := getP_subT p T hF1 hold
    rw [hA] at hsub; simp only [Option.some.injEq] at hsub
    have hvl : vs.length = cellsN z.1 := Flat.len P z.1 hFz
    have hcells : (a.eval u).cells = vs.toArray := by rw [hv]; exact cells_asVal hvl (Flat.one P z.1 rfl hFz)
    have hstep := fill_step (rest := us.map fun q => (q.1, a.eval q.2)) (f := f) (v := a.eval u) (hq) hcells (by rw [hvl, hp.2, hsub]) e1 (by rw [e3, hp.1]) (by rw [Flat.len P z.1 e4, hp.2, hsub])
    obtain ⟨ob2, cells', hf2, hC2, h3, h4⟩ := buildN_sound (cells := (v1 ++ vs ++ v3).toArray) hC1 hok.2 hF2 h
    exact ⟨ob2, cells', hf1.trans hf2, hC2, by rw [List.map_cons, hstep]; exact h3, h4⟩
  | [], _ :: _, _, _, _, _, _, _, _, _, hok, _, _ => by simp [okParts] at hok
  | _ :: _, [], _, _, _, _, _, _, _, _, hok, _, _ => by simp [okParts] at hok

theorem st_build {t : TypeId} {T : Ty} {us : Array (Nat × Operand)} {ys : List (Path × Od)} (hC : Conc P B G0 W0 n env a.tmps w ob) (hK : KOk P B G0 W0 n a K r next) (hd : ∀ k, o.dst = some k → k < n) (hdst : i.dst = o.dst)
    (ho : o.op = .build t us) (hi : i.op = .build T ys) (hz : ZeroOk P t T) (hagg : isAggT T = true) (hT : TyR P t T)
    (hok : (∃ fs places, P.underlying t = some (.struct fs) ∧ fs.toList.mapM (fun f => (P.info? f.type).map fun i => (f.offset, i.size)) = some places ∧ okParts T (places.toArray[·]?) us.toList ys = true) ∨
      (∃ m e T', P.underlying t = some (.array m e) ∧ TyR P e T' ∧ okParts T (fun i => some (i * cellsN T', cellsN T')) us.toList ys = true)) (h : step cl i env K = some r) : o.wp P a w next Q := by
  unfold step at h; rw [hi] at h; simp only [hdst, Option.bind_eq_some_iff] at h
  obtain ⟨⟨env', x⟩, hx, h⟩ := h
  obtain ⟨it, z, vs, h1, h2, h3, h4⟩ := hz.ok
  have hcells : z.cells = vs.toArray := by rw [h4]; exact cells_asVal (constV_len h3) (constV_one h3)
  have hF0 : Flat P T w (Gd B G0 ob) B .no (zero T) vs.toArray.toList [] := by simpa using constV_flat P T w _ B .no (constV_flat.annOk_no T) h3
  rcases hok with ⟨fs, places, hu, hpl, hok⟩ | ⟨m, e, T', hu, hT', hok⟩
  · obtain ⟨ob', cells', hf, hC', h5, h6⟩ := buildV_sound hC hok hF0 hx
    refine wp_value (v := .agg cells') (w' := w) ?_ ?_
    · have hb : P.built t ((us.map fun (i, x) => (i, a.eval x))).toList = some cells' := by
        simp only [Program.built, h1, hu, h2, hpl, hcells]
        rw [← h5]; congr 1; simp
      have := run_build (P := P) w t (us.map fun (i, x) => (i, a.eval x)) cells' hb
      simp [execOp, ho, this]
    · have hr := v_rep (tm := a.tmps) (env := env') h6
      rw [asVal_agg hagg] at hr
      exact fin0 hC' hK hd (Grows.refl w) (by simpa using hr) h
  · obtain ⟨ie, hie, hse⟩ := hT'.size
    obtain ⟨ob', cells', hf, hC', h5, h6⟩ := buildV_sound hC hok hF0 hx
    refine wp_value (v := .agg cells') (w' := w) ?_ ?_
    · have hb : P.built t ((us.map fun (i, x) => (i, a.eval x))).toList = some cells' := by
        simp only [Program.built, h1, hu, h2, hie, hcells, hse]
        rw [← h5]; congr 1; simp
      have := run_build (P := P) w t (us.map fun (i, x) => (i, a.eval x)) cells' hb
      simp [execOp, ho, this]
    · have hr := v_rep (tm := a.tmps) (env := env') h6
      rw [asVal_agg hagg] at hr
      exact fin0 hC' hK hd (Grows.refl w) (by simpa using hr) h


theorem st_buildN {t : TypeId} {T : Ty} {oa : Ann} {us : Array (Nat × Operand)} {ys : List (Path × Od)} (hC : Conc P B G0 W0 n env a.tmps w ob) (hK : KOk P B G0 W0 n a K r next) (hd : ∀ k, o.dst = some k → k < n) (hdst : i.dst = o.dst)
    (ho : o.op = .build t us) (hi : i.op = .buildN T oa ys) (hoa : annOk T oa = true) (hz : ZeroOk P t T) (hagg : isAggT T = true) (hT : TyR P t T)
    (hok : (∃ fs places, P.underlying t = some (.struct fs) ∧ fs.toList.mapM (fun f => (P.info? f.type).map fun i => (f.offset, i.size)) = some places ∧ okParts T (places.toArray[·]?) us.toList ys = true) ∨
      (∃ m e T', P.underlying t = some (.array m e) ∧ TyR P e T' ∧ okParts T (fun i => some (i * cellsN T', cellsN T')) us.toList ys = true)) (h : step cl i env K = some r) : o.wp P a w next Q := by
  unfold step at h; rw [hi] at h; simp only [hdst, Option.bind_eq_some_iff] at h
  obtain ⟨⟨env', x⟩, hx, h⟩ := h
  obtain ⟨it, z, vs, h1, h2, h3, h4⟩ := hz.ok
  have hcells : z.cells = vs.toArray := by rw [h4]; exact cells_asVal (constV_len h3) (constV_one h3)
  have hF0 : Flat P T w (Gd B G0 ob) B oa (zero T) vs.toArray.toList [] := by simpa using constV_flat P T w _ B oa hoa h3
  rcases hok with ⟨fs, places, hu, hpl, hok⟩ | ⟨m, e, T', hu, hT', hok⟩
  · obtain ⟨ob', cells', hf, hC', h5, h6⟩ := buildN_sound hC hok hF0 hx
    refine wp_value (v := .agg cells') (w' := w) ?_ ?_
    · have hb : P.built t ((us.map fun (i, x) => (i, a.eval x))).toList = some cells' := by
        simp only [Program.built, h1, hu, h2, hpl, hcells]
        rw [← h5]; congr 1; simp
      have := run_build (P := P) w t (us.map fun (i, x) => (i, a.eval x)) cells' hb
      simp [execOp, ho, this]
    · have hr : ERep P w (Gd B G0 ob') B a.tmps env' (.nw T (annParts oa ys) x) (asVal T cells'.toList) [] := ⟨rfl, _, h6, rfl⟩
      rw [asVal_agg hagg] at hr
      exact fin0 hC' hK hd (Grows.refl w) (by simpa using hr) h
  · obtain ⟨ie, hie, hse⟩ := hT'.size
    obtain ⟨ob', cells', hf, hC', h5, h6⟩ := buildN_sound hC hok hF0 hx
    refine wp_value (v := .agg cells') (w' := w) ?_ ?_
    · have hb : P.built t ((us.map fun (i, x) => (i, a.eval x))).toList = some cells' := by
        simp only [Program.built, h1, hu, h2, hie, hcells, hse]
        rw [← h5]; congr 1; simp
      have := run_build (P := P) w t (us.map fun (i, x) => (i, a.eval x)) cells' hb
      simp [execOp, ho, this]
    · have hr : ERep P w (Gd B G0 ob') B a.tmps env' (.nw T (annParts oa ys) x) (asVal T cells'.toList) [] := ⟨rfl, _, h6, rfl⟩
      rw [asVal_agg hagg] at hr
      exact fin0 hC' hK hd (Grows.refl w) (by simpa using hr) h

end
end Go.Fw
