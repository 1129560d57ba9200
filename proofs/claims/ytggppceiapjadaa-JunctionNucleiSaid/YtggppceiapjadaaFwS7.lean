/- Soundness, part 7: what is held, shown as nobody's own. -/
import Derived.Test.YtggppceiapjadaaFwS6
set_option linter.unusedVariables false
set_option linter.unusedSimpArgs false
namespace Go.Fw
open Go Go.RowKit

section
variable {P : Program} {B : Nat} {G0 : Nat → Nat → Prop} {W0 : World} {n : Nat} {env : Env} {tm : Array Value} {a : Act} {w : World} {ob : Nat → OB}

theorem frz_l (o : Ann) : o.frz.l = o.l.frz := by cases o <;> rfl
theorem frz_r (o : Ann) : o.frz.r = o.r.frz := by cases o <;> rfl
theorem frz_pure {o : Ann} : o.frz.pure = o.pure := by
  induction o with
  | no => rfl
  | hole => rfl
  | own => rfl
  | pair a b iha ihb => simp [Ann.frz, Ann.pure, iha, ihb]
theorem frz_whole {o : Ann} : o.frz.whole = o.whole := by
  induction o with
  | no => rfl
  | hole => rfl
  | own wr e o ih => simp [Ann.frz, Ann.whole, ih]
  | pair a b iha ihb => simp [Ann.frz, Ann.whole, iha, ihb]
theorem annAt_frz : ∀ (p : Path) (o : Ann), annAt o.frz p = (annAt o p).frz
  | [], _ => rfl
  | .l :: p, o => by simp only [annAt, frz_l]; exact annAt_frz p o.l
  | .r :: p, o => by simp only [annAt, frz_r]; exact annAt_frz p o.r
  | .ix _ :: _, _ => rfl

/-- the records of what is held, when less of it may be written -/
def Less (ob2 ob : OB) : Prop := blocks ob2 = blocks ob ∧ ∀ b lim, (b, lim) ∈ ob2 → ∃ lim', (b, lim') ∈ ob ∧ lim' ≤ lim

theorem Less.refl (ob : OB) : Less ob ob := ⟨rfl, fun b lim h => ⟨lim, h, Nat.le_refl _⟩⟩
theorem Less.append {a b c d : OB} (h : Less a c) (k : Less b d) : Less (a ++ b) (c ++ d) := by
  refine ⟨by rw [blocks_append, blocks_append, h.1, k.1], fun x lim hx => ?_⟩
  rcases List.mem_append.1 hx with hx | hx
  · obtain ⟨l, h1, h2⟩ := h.2 x lim hx; exact ⟨l, List.mem_append_left _ h1, h2⟩
  · obtain ⟨l, h1, h2⟩ := k.2 x lim hx; exact ⟨l, List.mem_append_right _ h1, h2⟩
theorem Less.obOf (v : Value) {l l' : Nat} (h : l ≤ l') : Less (obOf v l') (obOf v l) := by
  unfold Fw.obOf
  cases v.ownBlock with
  | none => exact Less.refl _
  | some g => exact ⟨rfl, fun b lim hb => by simp at hb; exact ⟨l, by simp [hb.1], by omega⟩⟩

theorem Flat.frz (P : Program) : ∀ (T : Ty) {w : World} {G : Nat → Nat → Prop} {B : Nat} {o : Ann} {x : den T} {vs : List Value} {ob : OB}, Flat P T w G B o x vs ob → ∃ ob2, Flat P T w G B o.frz x vs ob2 ∧ Less ob2 ob
  | .int k, _, _, _, _, _, _, _, h => ⟨_, by unfold Flat at h ⊢; exact h, Less.refl _⟩
  | .bool, _, _, _, _, _, _, _, h => ⟨_, by unfold Flat at h ⊢; exact h, Less.refl _⟩
  | .str, _, _, _, _, _, _, _, h => ⟨_, by unfold Flat at h ⊢; exact h, Less.refl _⟩
  | .unit, _, _, _, _, _, _, _, h => ⟨_, by unfold Flat at h ⊢; exact h, Less.refl _⟩
  | .pair A C, _, _, _, _, _, _, _, h => by
    unfold Flat at h
    obtain ⟨v1, v2, b1, b2, rfl, rfl, h1, h2⟩ := h
    obtain ⟨c1, k1, l1⟩ := Flat.frz P A h1
    obtain ⟨c2, k2, l2⟩ := Flat.frz P C h2
    exact ⟨c1 ++ c2, by unfold Flat; exact ⟨v1, v2, c1, c2, rfl, rfl, by rw [frz_l]; exact k1, by rw [frz_r]; exact k2⟩, Less.append l1 l2⟩
  | .arr n T, _, _, _, _, _, _, _, h => ⟨_, by unfold Flat at h ⊢; exact h, Less.refl _⟩
  | .fn A C, _, _, _, _, _, _, _, h => ⟨_, by unfold Flat at h ⊢; exact h, Less.refl _⟩
  | .sl T, w, G, B, o, xs, vs, ob, h => by
    cases o with
    | no => exact ⟨_, h, Less.refl _⟩
    | hole => exact ⟨_, h, Less.refl _⟩
    | pair a b => exact ⟨_, by unfold Flat at h; simp only [Ann.frz]; unfold Flat; exact h, Less.refl _⟩
    | own wr e o =>
      unfold Flat at h
      obtain ⟨v, cells, ob', rfl, h2, h3, rfl⟩ := h
      have key : ∀ {xs : List (den T)} {vs : List Value} {ob : OB}, Elems (Flat P T w G B o) xs vs ob → ∃ ob2, Elems (Flat P T w G B o.frz) xs vs ob2 ∧ Less ob2 ob := by
        intro xs
        induction xs with
        | nil => rintro vs ob ⟨rfl, rfl⟩; exact ⟨[], ⟨rfl, rfl⟩, Less.refl _⟩
        | cons x xs ih =>
          rintro vs ob ⟨u1, u2, c1, c2, rfl, rfl, hr, ht⟩
          obtain ⟨d1, k1, l1⟩ := Flat.frz P T hr
          obtain ⟨d2, k2, l2⟩ := ih ht
          exact ⟨d1 ++ d2, ⟨u1, u2, d1, d2, rfl, rfl, k1, k2⟩, Less.append l1 l2⟩
      obtain ⟨d, k, l⟩ := key h3
      refine ⟨obOf v (if false = true then 0 else xs.length * cellsN T) ++ d, ?_, Less.append (Less.obOf v (by split <;> simp)) l⟩
      simp only [Ann.frz]
      unfold Flat
      exact ⟨v, cells, d, rfl, h2, k, rfl⟩

/-- what is held, shown as nobody's own -/
theorem own_imm {T : Ty} {G G' : Nat → Nat → Prop} {wr : Bool} {e : TypeId} {o : Ann} {xs : List (den T)} {v : Value} {b : OB} (h : Flat P (.sl T) w G B (.own wr e o) xs [v] b) (ho : o.pure = true)
    (hG : ∀ b i, b < w.heap.size → G b i → G' b i) (hgood : ∀ g i, v.ownBlock = some g → B ≤ g → i < xs.length * cellsN T → G' g i) : Flat P (.sl T) w G' B .no xs [v] [] := by
  unfold Flat at h
  obtain ⟨v', cells, ob', h1, h2, h3, rfl⟩ := h
  simp only [List.cons.injEq, and_true] at h1
  subst h1
  obtain ⟨_, h4⟩ := Elems.pure P (o' := .no) ho rfl h3
  unfold Flat
  refine ⟨rfl, ?_⟩
  have h2' := h2
  rcases h2.2 with ⟨rfl, hn⟩ | ⟨g, cap, cur, e', fz, rfl, hBg, hg, hnc, hcm, hcs, htake, _, _⟩
  · refine ⟨none, 0, by rw [hn], by omega, by unfold maxLen; omega, .inl (List.eq_nil_of_length_eq_zero hn)⟩
  · refine ⟨some ⟨g, 0, none⟩, cap, rfl, hnc, hcm, .inr ⟨g, 0, cells, rfl, Elems.imp (fun x v b hb hx => Flat.mono P T (fun b i hb h => ⟨hG b i hb h, rfl⟩) (Later.refl _ _) (fun _ _ => rfl) hx) h4, fun j u hj => ?_⟩⟩
    have hc := h2'.cells (g := g) rfl j u hj
    rw [add_off] at hc
    refine ⟨hc, hgood g (0 + j) rfl hBg ?_⟩
    have := (List.getElem?_eq_some_iff.1 hj).1
    rw [h2.1] at this; omega

/-- a record of a block is the only one -/
theorem nodup_lim {l : OB} (h : (blocks l).Nodup) {b x y : Nat} (hx : (b, x) ∈ l) (hy : (b, y) ∈ l) : x = y := by
  induction l with
  | nil => exact absurd hx (by simp)
  | cons q r ih =>
    rw [blocks_cons, List.nodup_cons] at h
    rcases List.mem_cons.1 hx with e1 | hx' <;> rcases List.mem_cons.1 hy with e2 | hy'
    · rw [← e1] at e2; exact (Prod.mk.inj e2).2.symm
    · exact absurd (mem_blocks.2 ⟨y, hy'⟩) (by rw [← e1] at h; exact h.1)
    · exact absurd (mem_blocks.2 ⟨x, hx'⟩) (by rw [← e2] at h; exact h.1)
    · exact ih h.2 hx' hy'

/-- of a block with its record in slot s: what lies below the record's number may be read -/
theorem Gd_of_rec (hC : Conc P B G0 W0 n env tm w ob) {s g lim : Nat} (h : (g, lim) ∈ ob s) {i : Nat} (hi : i < lim) (hB : B ≤ g) : Gd B G0 ob g i := by
  refine .inr ⟨hB, fun k lim' hk => ?_⟩
  have := hC.dist s k g (mem_blocks.2 ⟨_, h⟩) (mem_blocks.2 ⟨_, hk⟩)
  subst this
  rw [← nodup_lim (hC.nodup s) h hk]; exact hi

/-! ### Sharing what a slot holds -/
theorem freeze_own (hC : Conc P B G0 W0 n env tm w ob) {s : Nat} {wr : Bool} {e : TypeId} {T : Ty} {o : Ann} {xs : List (den T)} (hs : look env s = .own wr e T o xs) :
    ∃ bs, Less bs (ob s) ∧ Conc P B G0 W0 n ((s, .own false e T o.frz xs) :: env) tm w (updO ob s bs) := by
  have hr := hC.rep s
  rw [hs] at hr
  obtain ⟨bs, h1, h2⟩ := Flat.frz P (.sl T) (o := .own wr e o) hr
  refine ⟨bs, h2, Conc.relabel hC h2.1 h2.2 ?_ ?_⟩
  · refine ⟨fun p v _ hv => ?_, fun p h hh => ?_, fun T' o' x' hx => ?_⟩
    · simp only [headAt, hs] at hv
      simp only [headAt]; rw [look_cons, if_pos rfl]; exact hv
    · simp only [heldAt, hs] at hh
      simp only [heldAt]; rw [look_cons, if_pos rfl]
      cases p with
      | nil => simp only [Option.some.injEq] at hh; subst hh; exact ⟨_, rfl, rfl, rfl⟩
      | cons => exact absurd hh (by simp)
    · rw [hs] at hx; exact absurd hx (by simp)
  · refine Flat.mono P (.sl T) (fun b i _ h => ⟨?_, rfl⟩) (Later.refl _ _) (fun _ _ => rfl) h1
    refine Gd_sub (fun j b lim hj => ?_) h
    by_cases hjs : j = s
    · subst hjs; rw [updO_same] at hj; obtain ⟨l, h3, h4⟩ := h2.2 b lim hj; exact ⟨j, l, h3, h4⟩
    · rw [updO_other _ _ hjs] at hj; exact ⟨j, lim, hj, Nat.le_refl _⟩

theorem heldAt_loc_frz {T : Ty} {o : Ann} {x : den T} {env : Env} {s : Nat} (hs : look env s = .loc T o x) (p : Path) {h : Held} (hh : heldAt env s p = some h) :
    heldAt ((s, .loc T o.frz x) :: env) s p = some ⟨false, h.e, h.T, h.o.frz, h.xs⟩ := by
  simp only [heldAt, hs] at hh
  simp only [heldAt]; rw [look_cons, if_pos rfl]
  simp only [annAt_frz]
  split at hh
  · rename_i wr e o' T' xs he hg
    simp only [Option.some.injEq] at hh
    subst hh
    rw [he, hg]; rfl
  · exact absurd hh (by simp)

theorem freeze_loc (hC : Conc P B G0 W0 n env tm w ob) {s : Nat} {T : Ty} {o : Ann} {x : den T} (hs : look env s = .loc T o x) :
    ∃ bs, Less bs (ob s) ∧ Conc P B G0 W0 n ((s, .loc T o.frz x) :: env) tm w (updO ob s bs) := by
  have hr := hC.rep s
  rw [hs] at hr
  obtain ⟨b, cur, e, ob', h1, h2, h3, h4, h5⟩ := hr
  obtain ⟨bs, h6, h7⟩ := Flat.frz P T h4
  have hL : Less ((b, 0) :: bs) (ob s) := by rw [h5]; exact Less.append (Less.refl [(b, 0)]) h7
  refine ⟨(b, 0) :: bs, hL, Conc.relabel hC hL.1 hL.2 ?_ ?_⟩
  · refine ⟨fun p v _ hv => ?_, fun p h hh => ⟨_, heldAt_loc_frz hs p hh, rfl, rfl⟩, fun T' o' x' hx => ?_⟩
    · simp only [headAt, hs] at hv
      simp only [headAt]; rw [look_cons, if_pos rfl]; exact hv
    · rw [hs] at hx
      cases hx
      exact ⟨_, _, by rw [look_cons, if_pos rfl], rfl⟩
  · refine ⟨b, cur, e, bs, h1, h2, h3, Flat.mono P T (fun b i _ h => ⟨?_, rfl⟩) (Later.refl _ _) (fun _ _ => rfl) h6, rfl⟩
    refine Gd_sub (fun j b lim hj => ?_) h
    by_cases hjs : j = s
    · subst hjs; rw [updO_same] at hj; obtain ⟨l, h8, h9⟩ := hL.2 b lim hj; exact ⟨j, l, h8, h9⟩
    · rw [updO_other _ _ hjs] at hj; exact ⟨j, lim, hj, Nat.le_refl _⟩

/-- after a freeze all that could be read may be read on -/
structure Frz (ob ob' : Nat → OB) : Prop where
  less : ∀ j, Less (ob' j) (ob j)

theorem Frz.refl (ob : Nat → OB) : Frz ob ob := ⟨fun _ => Less.refl _⟩
theorem Frz.upd {s : Nat} {bs : OB} (h : Less bs (ob s)) : Frz ob (updO ob s bs) := ⟨fun j => by
  by_cases hj : j = s
  · subst hj; rw [updO_same]; exact h
  · rw [updO_other _ _ hj]; exact Less.refl _⟩
theorem Frz.Gd {ob' : Nat → OB} (h : Frz ob ob') {b i : Nat} (hg : Gd B G0 ob b i) : Fw.Gd B G0 ob' b i :=
  Gd_sub (fun j b lim hj => by obtain ⟨l, h1, h2⟩ := (h.less j).2 b lim hj; exact ⟨j, l, h1, h2⟩) hg

theorem freeze_any (hC : Conc P B G0 W0 n env tm w ob) (s : Nat) : ∃ ob', Frz ob ob' ∧ Conc P B G0 W0 n (freeze env s) tm w ob' := by
  unfold freeze
  split
  · rename_i hs; obtain ⟨bs, h1, h2⟩ := freeze_own hC hs; exact ⟨_, Frz.upd h1, h2⟩
  · rename_i hs; obtain ⟨bs, h1, h2⟩ := freeze_loc hC hs; exact ⟨_, Frz.upd h1, h2⟩
  · exact ⟨ob, Frz.refl _, hC⟩

/-- the slice at a place: what memory shows of it, as nobody's own; G': where its cells may be read -/
theorem held_imm (hC : Conc P B G0 W0 n env tm w ob) {s : Nat} {p : Path} {h : Held} {v : Value} {G' : Nat → Nat → Prop} (hh : heldAt env s p = some h) (hv : headAt w tm env s p = some v) (ho : h.o.pure = true)
    (hG : ∀ b i, b < w.heap.size → Gd B G0 ob b i → G' b i) (hw : h.wr = false ∨ ∀ b i, G' b i) : Flat P (.sl h.T) w G' B .no h.xs [v] [] := by
  have hr := hC.rep s
  simp only [heldAt] at hh
  simp only [headAt] at hv
  have good : ∀ {wr e} {T : Ty} {o : Ann} {xs : List (den T)} {v : Value} {b : OB}, (wr = false ∨ ∀ b i, G' b i) → Flat P (.sl T) w (Gd B G0 ob) B (.own wr e o) xs [v] b → (∀ q ∈ b, q ∈ ob s) → ∀ g i, v.ownBlock = some g → B ≤ g → i < xs.length * cellsN T → G' g i := by
    intro wr e T o xs v b hw hF hsub g i hg hB hi
    rcases hw with hw | hw
    · subst hw
      have hF' := hF
      unfold Flat at hF
      obtain ⟨v', cells, ob', e1, h2, h3, rfl⟩ := hF
      simp only [List.cons.injEq, and_true] at e1
      subst e1
      have hrec : (g, xs.length * cellsN T) ∈ ob s := hsub _ (List.mem_append_left _ (by simp [obOf, hg]))
      exact hG g i (hC.low s g (mem_blocks.2 ⟨_, hrec⟩)).2 (Gd_of_rec hC hrec hi hB)
    · exact hw g i
  split at hh
  · rename_i wr e T o xs hs
    rw [hs] at hr hv
    split at hh
    · simp only [Option.some.injEq] at hh
      subst hh
      simp only [Option.some.injEq] at hv
      subst hv
      exact own_imm hr ho hG (good hw hr (fun q hq => hq))
    · exact absurd hh (by simp)
  · rename_i T o x hs
    rw [hs] at hr hv
    obtain ⟨b, cur, e, ob', h1, h2, h3, h4, h5⟩ := hr
    split at hh
    · rename_i wr e' o' T' xs he hg
      simp only [Option.some.injEq] at hh
      subst hh
      obtain ⟨v1, v2, v3, b1, b2, b3, hvs, hob, hl, hF, _⟩ := Flat.lens P p T h4 hg
      rw [he] at hF
      have hv2 : v2.length = 1 := Flat.len P (.sl T') hF
      obtain ⟨u, rfl⟩ := List.length_eq_one_iff.1 hv2
      have hcell : w.cell? ⟨b, offT T p, none⟩ = some u := by
        rw [cell_of_row w b _ cur e (0, 0) h3, ← Array.getElem?_toList, hvs, ← hl]
        simp
      simp only [h1] at hv
      rw [hcell] at hv
      simp only [Option.some.injEq] at hv
      subst hv
      exact own_imm hF ho hG (good hw hF (fun q hq => by rw [h5, hob]; simp [hq]))
    · exact absurd hh (by simp)
  · exact absurd hh (by simp)

theorem asVal_sl (T : Ty) (v : Value) : asVal (.sl T) [v] = v := rfl

/-- a value, as nobody's own: where all may be read -/
theorem imm_rep {x : Operand} {y : Od} (hC : Conc P B G0 W0 n env a.tmps w ob) (hx : okOd x y = true) {z : TV} (hi : imm env (ent env y) = some z) :
    ∃ vs, a.eval x = asVal z.1 vs ∧ Flat P z.1 w (fun _ _ => True) B .no z.2 vs [] := by
  have hr := ent_rep hC hx
  unfold imm at hi
  split at hi
  · rename_i T x he
    simp only [Option.some.injEq] at hi; subst hi
    rw [he] at hr
    obtain ⟨_, vs, h1, h2⟩ := hr
    exact ⟨vs, h2, Flat.mono P T (fun _ _ _ _ => ⟨trivial, rfl⟩) (Later.refl _ _) (by simp) h1⟩
  · rename_i wr e T o xs he
    split at hi
    · rename_i ho
      simp only [Option.some.injEq] at hi; subst hi
      rw [he] at hr
      exact ⟨[a.eval x], rfl, own_imm hr ho (fun _ _ _ _ => trivial) (fun _ _ _ _ _ => trivial)⟩
    · exact absurd hi (by simp)
  · rename_i s p he
    rw [he] at hr
    obtain ⟨_, h1, _⟩ := hr
    simp only [Option.bind_eq_some_iff] at hi
    obtain ⟨h, hh, hi⟩ := hi
    split at hi
    · rename_i ho
      simp only [Option.some.injEq] at hi; subst hi
      exact ⟨[a.eval x], rfl, held_imm hC hh h1 ho (fun _ _ _ _ => trivial) (.inr fun _ _ => trivial)⟩
    · exact absurd hi (by simp)
  · exact absurd hi (by simp)

theorem look_freeze_same (env : Env) (s : Nat) : (look (freeze env s) s = look env s) ∨ (∃ wr e T o xs, look env s = .own wr e T o xs ∧ look (freeze env s) s = .own false e T o.frz xs) ∨ (∃ T o x, look env s = .loc T o x ∧ look (freeze env s) s = .loc T o.frz x) := by
  unfold freeze
  split
  · rename_i hs; exact .inr (.inl ⟨_, _, _, _, _, hs, by rw [look_cons, if_pos rfl]⟩)
  · rename_i hs; exact .inr (.inr ⟨_, _, _, hs, by rw [look_cons, if_pos rfl]⟩)
  · exact .inl rfl

theorem heldAt_freeze {env : Env} {s : Nat} {p : Path} {h : Held} (hh : heldAt env s p = some h) : heldAt (freeze env s) s p = some ⟨false, h.e, h.T, h.o.frz, h.xs⟩ := by
  unfold freeze
  cases hs : look env s with
  | own wr e T o xs =>
    simp only [heldAt, hs] at hh
    simp only [heldAt]; rw [look_cons, if_pos rfl]
    cases p with
    | nil => simp only [Option.some.injEq] at hh; subst hh; rfl
    | cons => exact absurd hh (by simp)
  | loc T o x => exact heldAt_loc_frz hs p hh
  | _ => simp [heldAt, hs] at hh

theorem headAt_freeze (w : World) (tm : Array Value) (env : Env) (s : Nat) (p : Path) : headAt w tm (freeze env s) s p = headAt w tm env s p := by
  unfold freeze
  cases hs : look env s <;> simp only [headAt, look_cons, if_true, hs]

/-- a value that is shared: its home can only be appended to from now on -/
theorem pub_rep {x : Operand} {y : Od} (hC : Conc P B G0 W0 n env a.tmps w ob) (hx : okOd x y = true) {env' : Env} {z : TV} (hi : pub env y = some (env', z)) :
    ∃ ob', Frz ob ob' ∧ Conc P B G0 W0 n env' a.tmps w ob' ∧ ∃ vs, a.eval x = asVal z.1 vs ∧ Flat P z.1 w (Gd B G0 ob') B .no z.2 vs [] := by
  have hr := ent_rep hC hx
  unfold pub at hi
  simp only [Option.bind_eq_some_iff, Option.some.injEq, Prod.mk.injEq] at hi
  obtain ⟨z', hi, henv, rfl⟩ := hi
  unfold imm at hi
  split at hi
  · rename_i T x he
    simp only [Option.some.injEq] at hi; subst hi
    rw [he] at hr henv
    simp only [homeOf] at henv; subst henv
    obtain ⟨_, vs, h1, h2⟩ := hr
    exact ⟨ob, Frz.refl _, hC, vs, h2, h1⟩
  · rename_i wr e T o xs he
    split at hi
    · rename_i ho
      simp only [Option.some.injEq] at hi; subst hi
      rw [he] at hr henv
      cases y with
      | t k =>
        simp only [homeOf] at henv; subst henv
        simp only [ent] at he
        obtain ⟨ob', hf, hC'⟩ := freeze_any hC k
        refine ⟨ob', hf, hC', [a.eval x], rfl, ?_⟩
        have hh : heldAt env k [] = some ⟨wr, e, T, o, xs⟩ := by simp [heldAt, he]
        have := held_imm (G' := Gd B G0 ob') hC' (heldAt_freeze hh) (v := a.tmps.getD k undef) (by rw [headAt_freeze]; simp [headAt, he]) (by simpa only [frz_pure] using ho) (fun _ _ _ h => h) (.inl rfl)
        rw [okOd_t hx a]
        exact this
      | nil e' T' =>
        simp only [homeOf] at henv; subst henv
        simp only [ent] at he; cases he
        exact ⟨ob, Frz.refl _, hC, [a.eval x], rfl, own_imm hr ho (fun _ _ _ h => h) (fun g i hg _ hi => absurd hi (by simp))⟩
      | c T x => simp [ent] at he
      | fn f A C => simp [ent] at he
    · exact absurd hi (by simp)
  · rename_i s p he
    rw [he] at hr henv
    simp only [homeOf] at henv; subst henv
    obtain ⟨_, h1, _⟩ := hr
    simp only [Option.bind_eq_some_iff] at hi
    obtain ⟨h, hh, hi⟩ := hi
    split at hi
    · rename_i ho
      simp only [Option.some.injEq] at hi; subst hi
      obtain ⟨ob', hf, hC'⟩ := freeze_any hC s
      exact ⟨ob', hf, hC', [a.eval x], rfl, held_imm (h := ⟨false, h.e, h.T, h.o.frz, h.xs⟩) (G' := Gd B G0 ob') hC' (heldAt_freeze hh) (by rw [headAt_freeze]; exact h1) (by simpa only [frz_pure] using ho) (fun _ _ _ h => h) (.inl rfl)⟩
    · exact absurd hi (by simp)
  · exact absurd hi (by simp)

end
end Go.Fw
