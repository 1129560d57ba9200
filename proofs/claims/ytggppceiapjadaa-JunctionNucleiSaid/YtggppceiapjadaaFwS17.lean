/- Soundness, part 17: the arguments of a call, from a state of the machine. -/
import Derived.Test.YtggppceiapjadaaFwS16
set_option linter.unusedVariables false
set_option linter.unusedSimpArgs false
namespace Go.Fw
open Go Go.RowKit

theorem frz_frz (o : Ann) : o.frz.frz = o.frz := by
  induction o with
  | no => rfl
  | hole => rfl
  | own wr e o ih => simp [Ann.frz, ih]
  | pair a b iha ihb => simp [Ann.frz, iha, ihb]

section
variable {P : Program} {B : Nat} {G0 : Nat → Nat → Prop} {W0 : World} {n : Nat} {env env' : Env} {a : Act} {w : World} {ob : Nat → OB} {cl : Cal}

/-! ### States that are frozen in part -/
def FzE (e e' : E) : Prop := e' = e ∨ (∃ wr ed T o xs, e = .own wr ed T o xs ∧ e' = .own false ed T o.frz xs) ∨ (∃ T o x, e = .loc T o x ∧ e' = .loc T o.frz x)
def Fz (env env' : Env) : Prop := ∀ k, FzE (look env k) (look env' k)

theorem FzE.trans {e1 e2 e3 : E} (h : FzE e1 e2) (k : FzE e2 e3) : FzE e1 e3 := by
  rcases h with rfl | ⟨wr, ed, T, o, xs, rfl, rfl⟩ | ⟨T, o, x, rfl, rfl⟩
  · exact k
  · rcases k with rfl | ⟨wr', ed', T', o', xs', h1, rfl⟩ | ⟨T', o', x', h1, _⟩
    · exact .inr (.inl ⟨_, _, _, _, _, rfl, rfl⟩)
    · cases h1; exact .inr (.inl ⟨_, _, _, _, _, rfl, by rw [frz_frz]⟩)
    · cases h1
  · rcases k with rfl | ⟨wr', ed', T', o', xs', h1, _⟩ | ⟨T', o', x', h1, rfl⟩
    · exact .inr (.inr ⟨_, _, _, rfl, rfl⟩)
    · cases h1
    · cases h1; exact .inr (.inr ⟨_, _, _, rfl, by rw [frz_frz]⟩)

theorem Fz.freeze (env : Env) (s : Nat) : Fz env (freeze env s) := by
  intro k
  by_cases hk : k = s
  · subst hk
    rcases look_freeze_same env k with h | ⟨wr, e, T, o, xs, h1, h2⟩ | ⟨T, o, x, h1, h2⟩
    · exact .inl h
    · exact .inr (.inl ⟨_, _, _, _, _, h1, h2⟩)
    · exact .inr (.inr ⟨_, _, _, h1, h2⟩)
  · left
    unfold Fw.freeze
    split <;> first | rfl | (rw [look_cons, if_neg (Ne.symm hk)])

theorem Fz.refl (env : Env) : Fz env env := fun _ => .inl rfl
theorem Fz.trans {e1 e2 e3 : Env} (h : Fz e1 e2) (k : Fz e2 e3) : Fz e1 e3 := fun j => (h j).trans (k j)

theorem Fz.held (h : Fz env env') {s : Nat} {p : Path} {hh : Held} (hl : heldAt env s p = some hh) : ∃ wr o, heldAt env' s p = some ⟨wr, hh.e, hh.T, o, hh.xs⟩ ∧ o.pure = hh.o.pure := by
  rcases h s with h | ⟨wr, ed, T, o, xs, h1, h2⟩ | ⟨T, o, x, h1, h2⟩
  · exact ⟨hh.wr, hh.o, by rw [heldAt_of_look h]; exact hl, rfl⟩
  · simp only [heldAt, h1] at hl
    simp only [heldAt, h2]
    cases p with
    | nil => simp only [Option.some.injEq] at hl; subst hl; exact ⟨_, _, rfl, frz_pure⟩
    | cons => exact absurd hl (by simp)
  · have := heldAt_loc_frz h1 p hl
    have h3 : heldAt env' s p = heldAt ((s, .loc T o.frz x) :: env) s p := heldAt_of_look (by rw [look_cons, if_pos rfl, h2]) p
    exact ⟨false, hh.o.frz, by rw [h3, this], frz_pure⟩

theorem Fz.argS (h : Fz env env') {e e' : E} {x : E} (he : FzE e e') (ha : argS env e = some x) : argS env' e' = some x := by
  rcases he with rfl | ⟨wr, ed, T, o, xs, rfl, rfl⟩ | ⟨T, o, x, rfl, rfl⟩
  · cases e' with
    | v T x => exact ha
    | own => exact ha
    | «at» => exact ha
    | ref s p =>
      simp only [Fw.argS, Option.bind_eq_some_iff] at ha ⊢
      obtain ⟨hh, h1, h2⟩ := ha
      obtain ⟨wr, o, h3, h4⟩ := h.held h1
      exact ⟨_, h3, by simp only [h4]; exact h2⟩
    | ptr s p =>
      simp only [Fw.argS] at ha ⊢
      rcases h s with h1 | ⟨wr, ed, T, o, xs, h1, h2⟩ | ⟨T, o, x, h1, h2⟩
      · rw [h1]; exact ha
      · rw [h1] at ha; simp at ha
      · rw [h1] at ha; rw [h2]
        simp only [annAt_frz, frz_whole] at ha ⊢
        exact ha
    | ptre s p i q =>
      simp only [Fw.argS, Option.bind_eq_some_iff] at ha ⊢
      obtain ⟨hh, h1, h2⟩ := ha
      obtain ⟨wr, o, h3, h4⟩ := h.held h1
      exact ⟨_, h3, by simp only [h4]; exact h2⟩
    | _ => simp [Fw.argS] at ha
  · simp only [Fw.argS, frz_pure] at ha ⊢; exact ha
  · simp [Fw.argS] at ha

theorem Fz.argsS (h : Fz env env') : ∀ {es xs : List E}, argsS env es = some xs → argsS env' es = some xs
  | [], _, ha => ha
  | e :: es, xs, ha => by
    simp only [Fw.argsS, Option.bind_eq_some_iff, Option.some.injEq] at ha ⊢
    obtain ⟨x, h1, y, h2, rfl⟩ := ha
    exact ⟨x, h.argS (.inl rfl) h1, y, h.argsS h2, rfl⟩

theorem FzE.ent (h : Fz env env') (y : Od) : FzE (ent env y) (ent env' y) := by
  cases y <;> first | exact h _ | exact .inl rfl

theorem Fz.argList (h : Fz env env') : ∀ {ys : List Od} {xs : List E}, argList cl env ys = some xs → argList cl env' ys = some xs
  | [], _, ha => ha
  | y :: ys, xs, ha => by
    simp only [Fw.argList, Option.bind_eq_some_iff, Option.some.injEq] at ha ⊢
    obtain ⟨x, h1, z, h2, rfl⟩ := ha
    refine ⟨x, ?_, z, h.argList h2, rfl⟩
    have he := FzE.ent h y
    split at h1
    · rename_i T o x' he1
      rw [he1] at he
      rcases he with he | ⟨wr, ed, T', o', xs', h3, _⟩ | ⟨T', o', x', h3, he⟩
      · rw [he]; exact h1
      · cases h3
      · cases h3; rw [he]; simp only [frz_whole]; exact h1
    · rename_i f A C caps he1
      rw [he1] at he
      rcases he with he | ⟨wr, ed, T', o', xs', h3, _⟩ | ⟨T', o', x', h3, _⟩
      · rw [he]
        simp only [cloV] at h1 ⊢
        split at h1
        · rename_i hs
          rw [if_pos hs]
          simp only [Option.bind_eq_some_iff] at h1 ⊢
          obtain ⟨cs, h4, h5⟩ := h1
          exact ⟨cs, h.argsS h4, h5⟩
        · simp at h1
      · cases h3
      · cases h3
    · rename_i n1 n2
      have h2 := h.argS he h1
      split
      · rename_i T o x' he2
        rw [he2] at h2; simp [Fw.argS] at h2
      · rename_i f A C caps he2
        rw [he2] at h2; simp [Fw.argS] at h2
      · exact h2

/-- what may only be appended to -/
def Fzn (env : Env) (s : Nat) : Prop := (∀ wr ed T o xs, look env s = .own wr ed T o xs → wr = false) ∧ (∀ T o x, look env s = .loc T o x → o.frz = o)

theorem Fzn.freeze (env : Env) (s : Nat) : Fzn (freeze env s) s := by
  unfold Fw.freeze
  cases hs : look env s with
  | own wr e T o xs =>
    refine ⟨fun wr' ed T' o' xs' h => ?_, fun T' o' x' h => ?_⟩ <;> rw [look_cons, if_pos rfl] at h <;> cases h
    rfl
  | loc T o x =>
    refine ⟨fun wr' ed T' o' xs' h => ?_, fun T' o' x' h => ?_⟩ <;> rw [look_cons, if_pos rfl] at h <;> cases h
    exact frz_frz o
  | _ =>
    refine ⟨fun wr' ed T' o' xs' h => ?_, fun T' o' x' h => ?_⟩ <;> (have h2 := hs.symm.trans h; cases h2)

theorem Fzn.fz (h : Fz env env') {s : Nat} (k : Fzn env s) : Fzn env' s := by
  rcases h s with h1 | ⟨wr, ed, T, o, xs, h1, h2⟩ | ⟨T, o, x, h1, h2⟩
  · exact ⟨fun wr ed T o xs hh => k.1 wr ed T o xs (by rw [← h1]; exact hh), fun T o x hh => k.2 T o x (by rw [← h1]; exact hh)⟩
  · refine ⟨fun wr' ed T' o' xs' hh => ?_, fun T' o' x' hh => ?_⟩ <;> rw [h2] at hh <;> cases hh
    rfl
  · refine ⟨fun wr' ed T' o' xs' hh => ?_, fun T' o' x' hh => ?_⟩ <;> rw [h2] at hh <;> cases hh
    exact frz_frz o

theorem homeOf_fz {y : Od} {e e' : E} (h : FzE e e') : homeOf y e' = homeOf y e := by
  rcases h with rfl | ⟨wr, ed, T, o, xs, rfl, rfl⟩ | ⟨T, o, x, rfl, rfl⟩ <;> rfl

theorem freezeAll_fz : ∀ (ys : List Od) (env : Env), Fz env (freezeAll env ys) ∧ ∀ y ∈ ys, ∀ s, homeOf y (ent env y) = some s → Fzn (freezeAll env ys) s
  | [], env => ⟨Fz.refl _, by simp⟩
  | y :: ys, env => by
    simp only [freezeAll]
    have h1 : Fz env (match homeOf y (ent env y) with | some s => Fw.freeze env s | none => env) := by
      split
      · exact Fz.freeze _ _
      · exact Fz.refl _
    obtain ⟨h2, h3⟩ := freezeAll_fz ys (match homeOf y (ent env y) with | some s => Fw.freeze env s | none => env)
    refine ⟨h1.trans h2, fun z hz s hs => ?_⟩
    rcases List.mem_cons.1 hz with rfl | hz
    · simp only [hs] at h2 ⊢
      exact Fzn.fz h2 (Fzn.freeze _ _)
    · exact h3 z hz s (by rw [homeOf_fz (FzE.ent h1 z)]; exact hs)

theorem freezeAll_conc : ∀ (ys : List Od) {env : Env} {ob : Nat → OB}, Conc P B G0 W0 n env a.tmps w ob → ∃ ob', Frz ob ob' ∧ Conc P B G0 W0 n (freezeAll env ys) a.tmps w ob'
  | [], _, ob, hC => ⟨ob, Frz.refl _, hC⟩
  | y :: ys, env, ob, hC => by
    simp only [freezeAll]
    split
    · rename_i s _
      obtain ⟨o1, h1, h2⟩ := freeze_any hC s
      obtain ⟨o2, h3, h4⟩ := freezeAll_conc ys h2
      exact ⟨o2, h1.trans h3, h4⟩
    · exact freezeAll_conc ys hC

theorem Fzn.held {s : Nat} (h : Fzn env s) {p : Path} {hh : Held} (hl : heldAt env s p = some hh) : hh.wr = false := by
  unfold heldAt at hl
  split at hl
  · rename_i wr e T o xs hs
    split at hl
    · simp only [Option.some.injEq] at hl; subst hl; exact h.1 _ _ _ _ _ hs
    · exact absurd hl (by simp)
  · rename_i T o x hs
    have := h.2 _ _ _ hs
    split at hl
    · rename_i wr e o' T' xs ha hg
      simp only [Option.some.injEq] at hl; subst hl
      rw [← this, annAt_frz] at ha
      cases hq : annAt o p with
      | own => rw [hq] at ha; simp only [Ann.frz, Ann.own.injEq] at ha; exact ha.1.symm
      | _ => rw [hq] at ha; simp [Ann.frz] at ha
    · exact absurd hl (by simp)
  · exact absurd hl (by simp)

/-! ### One argument -/
/-- G': the cells that the callee may read -/
structure OkG (P : Program) (B : Nat) (G0 : Nat → Nat → Prop) (env : Env) (ob : Nat → OB) (w : World) (G' : Nat → Nat → Prop) (S : Nat → Prop) : Prop where
  sub : ∀ b i, b < w.heap.size → Gd B G0 ob b i → G' b i
  froz : (∀ b i, G' b i) ∨ ∀ s, S s → Fzn env s

variable {G' : Nat → Nat → Prop} {S : Nat → Prop}

/-- a part of a variable, whole: as nobody's own -/
theorem loc_share (hC : Conc P B G0 W0 n env a.tmps w ob) (hG : OkG P B G0 env ob w G' S) {s : Nat} (hS : S s) {T0 T : Ty} {o : Ann} {x : den T0} (hs : look env s = .loc T0 o x) {p : Path} {y : den T} (hw : (annAt o p).whole = true) (hg : getP T0 p x = some ⟨T, y⟩) :
    ∃ b vs, a.tmps.getD s undef = .pointer (some ⟨b, 0, none⟩) ∧ Flat P T w G' w.heap.size .no y vs [] ∧ ∀ j u, vs[j]? = some u → w.cell? ⟨b, offT T0 p + j, none⟩ = some u := by
  obtain ⟨b, cur, e, v1, v2, v3, b1, b2, b3, k1, k2, k3, k4, k5, k6, k7, _⟩ := loc_part hC hs hg
  have hcell := cells_of_part k2 k4
  rw [k5] at hcell
  refine ⟨b, v2, k1, Flat.up P T hC.base ?_, hcell⟩
  rcases hG.froz with ht | hf
  · obtain ⟨b2', k8, _⟩ := Flat.frz P T k7
    exact Flat.shared P T hw (fun _ _ _ _ _ _ => ht _ _) (fun _ _ _ _ => ht _ _) k8
  · have he := (hf s hS).2 _ _ _ hs
    have k8 := k7
    rw [← he, annAt_frz] at k8
    refine Flat.shared P T hw (fun b lim i hb hi hB => ?_) hG.sub k8
    have hm : (b, lim) ∈ ob s := by rw [k6]; simp [hb]
    exact hG.sub b i (hC.low s b (mem_blocks.2 ⟨_, hm⟩)).2 (Gd_of_rec hC hm hi hB)

/-- an entry that isn't a slot's own -/
theorem argS_rep (hC : Conc P B G0 W0 n env a.tmps w ob) {e x : E} {v : Value} {obe : OB} (hr : ERep1 P w (Gd B G0 ob) B a.tmps env e v obe) (ha : argS env e = some x)
    (hno : (∀ b i, G' b i) ∨ ∀ wr ed T o xs, e ≠ .own wr ed T o xs) (hG : OkG P B G0 env ob w G' S) (hS : ∀ s, homeOf (.nil 0 .bool) e = some s → S s) : ARep P w G' x v := by
  cases e with
  | v T y =>
    simp only [argS, Option.some.injEq] at ha; subst ha
    obtain ⟨_, vs, h1, h2⟩ := hr
    exact ⟨vs, Flat.up P T hC.base (Flat.mono P T (fun b i hb h => ⟨hG.sub b i hb h, rfl⟩) (Later.refl _ _) (by simp) h1), h2⟩
  | own wr ed T o xs =>
    rcases hno with ht | hno
    · simp only [argS] at ha
      split at ha
      · rename_i ho
        simp only [Option.some.injEq] at ha; subst ha
        exact ⟨[v], Flat.up P _ hC.base (own_imm hr ho hG.sub (fun _ _ _ _ _ => ht _ _)), rfl⟩
      · exact absurd ha (by simp)
    · exact absurd rfl (hno _ _ _ _ _)
  | ref s p =>
    simp only [argS, Option.bind_eq_some_iff] at ha
    obtain ⟨hh, h1, h2⟩ := ha
    split at h2
    · rename_i ho
      simp only [Option.some.injEq] at h2; subst h2
      obtain ⟨_, h3, _⟩ := hr
      refine ⟨[v], Flat.up P _ hC.base (held_imm hC h1 h3 ho hG.sub ?_), rfl⟩
      rcases hG.froz with ht | hf
      · exact .inr ht
      · exact .inl (Fzn.held (hf s (hS s rfl)) h1)
    · exact absurd h2 (by simp)
  | it s pos => simp [argS] at ha
  | nw => simp [argS] at ha
  | ptr s p =>
    simp only [argS] at ha
    split at ha
    · rename_i T0 o y0 hs
      split at ha
      · rename_i hw
        simp only [Option.bind_eq_some_iff, Option.some.injEq] at ha
        obtain ⟨z, hz, rfl⟩ := ha
        obtain ⟨_, T1, o1, x1, b, h1, h2, _, h3⟩ := hr
        obtain ⟨b', vs, k1, k2, k3⟩ := loc_share hC hG (hS s rfl) hs hw hz
        rw [hs] at h1; cases h1
        rw [h2] at k1; cases k1
        exact ⟨b, _, vs, h3, k2, k3⟩
      · exact absurd ha (by simp)
    · exact absurd ha (by simp)
  | ptre s p i q =>
    simp only [argS, Option.bind_eq_some_iff] at ha
    obtain ⟨hh, h1, h2⟩ := ha
    split at h2
    · rename_i hoi
      simp only [Bool.and_eq_true, decide_eq_true_eq] at hoi
      simp only [Option.bind_eq_some_iff, Option.some.injEq] at h2
      obtain ⟨z, hz, rfl⟩ := h2
      obtain ⟨_, h', g, m, c, k1, k2, k3, k4, k5⟩ := hr
      rw [h1] at k1; cases k1
      obtain ⟨cells, b2, hrow, hel, hob⟩ := held_row hC h1 k2
      obtain ⟨_, hel⟩ := Elems.pure P (o' := .no) hoi.1 rfl hel
      obtain ⟨v1, v2, v3, c1, c2, c3, e1, e2, e3, e4, _⟩ := Elems.split (fun x v b hx => Flat.len P _ hx) i (zero hh.T) hel hoi.2
      have hnil : c2 = [] := by
        have : c1 ++ c2 ++ c3 = [] := e2.symm
        simp at this; exact this.2.1
      subst hnil
      obtain ⟨u1, u2, u3, d1, d2, d3, f1, f2, f3, f4, _⟩ := Flat.lens P q hh.T e4 (y := z.2) (by rw [hz])
      have hnil : d2 = [] := by
        have : d1 ++ d2 ++ d3 = [] := f2.symm
        simp at this; exact this.2.1
      subst hnil
      rw [annAt_no] at f4
      refine ⟨g, _, u2, k5, Flat.up P _ hC.base (Flat.mono P _ (fun b i hb h => ⟨hG.sub b i hb h, rfl⟩) (Later.refl _ _) (by simp) f4), fun j u hj => ?_⟩
      have hcell := hrow.cells (g := g) rfl (i * cellsN hh.T + offT hh.T q + j) u ?_
      · rw [add_off] at hcell; simpa [Nat.add_assoc] using hcell
      · rw [e1, f1]
        have hj' := (List.getElem?_eq_some_iff.1 hj).1
        rw [List.append_assoc, List.getElem?_append_right (by omega), List.getElem?_append_left (by simp; omega), List.append_assoc, List.getElem?_append_right (by omega), List.getElem?_append_left (by omega)]
        rw [← hj]; congr 1; omega
    · exact absurd h2 (by simp)
  | «at» T y =>
    simp only [argS, Option.some.injEq] at ha; subst ha
    obtain ⟨_, b, off, vs, h1, h2, h3⟩ := hr
    exact ⟨b, off, vs, h1, Flat.up P T hC.base (Flat.mono P T (fun b i hb h => ⟨hG.sub b i hb h, rfl⟩) (Later.refl _ _) (by simp) h2), fun j u hj => (h3 j u hj).1⟩
  | dead => simp [argS] at ha
  | und => simp [argS] at ha
  | loc => simp [argS] at ha
  | tup => simp [argS] at ha
  | clo => simp [argS] at ha

/-- what a function literal has captured -/
theorem argsS_rep (hC : Conc P B G0 W0 n env a.tmps w ob) (hG : OkG P B G0 env ob w G' (fun _ => True)) : ∀ {es xs : List E} {vs : List Value}, TupRep (ERep1 P w (Gd B G0 ob) B a.tmps env) es vs [] → argsS env es = some xs →
    (∀ b i, G' b i) → ArgsRep P w G' xs vs
  | [], xs, vs, hr, ha, _ => by
    obtain ⟨rfl, _⟩ := hr
    simp only [argsS, Option.some.injEq] at ha; subst ha
    exact .nil
  | e :: es, xs, vs, hr, ha, hno => by
    obtain ⟨v, r, b1, b2, rfl, _, h1, h2⟩ := hr
    simp only [argsS, Option.bind_eq_some_iff, Option.some.injEq] at ha
    obtain ⟨x, h3, y, h4, rfl⟩ := ha
    have hb2 : b2 = [] := by
      have : b1 ++ b2 = [] := by rename_i hh; exact hh.symm
      simp at this; exact this.2
    subst hb2
    exact .cons (argS_rep hC h1 h3 (.inl hno) hG (fun _ _ => trivial)) (argsS_rep hC hG h2 h4 hno)

end
end Go.Fw
