/- The abstract value machine and its soundness, part 2: a call of the machine that answers is a call of the program that answers so; no conditions. -/
import Derived.Test.YtnobiophckdjfaaFwB1
set_option linter.unusedVariables false
set_option linter.unusedSimpArgs false
/- Soundness, part 6: what is held goes over; what is held is shared. -/
namespace Go.Fw
open Go Go.RowKit
section
variable {P : Program} {B : Nat} {G0 : Nat → Nat → Prop} {W0 : World} {n : Nat} {env : Env} {tm : Array Value} {a : Act} {w : World} {ob : Nat → OB}
theorem Gd_sub {ob' : Nat → OB} (h : ∀ j b lim, (b, lim) ∈ ob' j → ∃ j' lim', (b, lim') ∈ ob j' ∧ lim' ≤ lim) {b i : Nat} (hg : Gd B G0 ob b i) : Gd B G0 ob' b i := by
 rcases hg with hg | ⟨h1, h2⟩
 ·exact .inl hg
 ·refine .inr ⟨h1, fun j lim hj => ?_⟩
  obtain ⟨j', lim', h3, h4⟩ := h j b lim hj
  exact Nat.lt_of_lt_of_le (h2 j' lim' h3) h4
def shO (ob : Nat → OB) (k d : Nat) : Nat → OB := updO (updO ob k []) d (ob k)
theorem shO_d (k d : Nat) : shO ob k d d = ob k := updO_same _ _ _
theorem shO_k {k d : Nat} (h : k ≠ d) : shO ob k d k = [] := by unfold shO; rw [updO_other _ _ h, updO_same]
theorem shO_other {k d j : Nat} (h1 : j ≠ k) (h2 : j ≠ d) : shO ob k d j = ob j := by unfold shO; rw [updO_other _ _ h2, updO_other _ _ h1]
theorem shO_from {k d : Nat} {j : Nat} {q : Nat × Nat} (h : q ∈ shO ob k d j) : (j = d ∧ q ∈ ob k) ∨ (j ≠ d ∧ j ≠ k ∧ q ∈ ob j) := by
 by_cases hd : j = d
 ·subst hd; rw [shO_d] at h; exact .inl ⟨rfl, h⟩
 ·by_cases hk : j = k
  ·subst hk; rw [shO_k hd] at h; exact absurd h (by simp)
  ·rw [shO_other hk hd] at h; exact .inr ⟨hd, hk, h⟩
theorem mem_blocks {b : Nat} {l : OB} : b ∈ blocks l ↔ ∃ lim, (b, lim) ∈ l := by
 unfold blocks
 rw [List.mem_map]
 constructor
 ·rintro ⟨⟨x, y⟩, h, rfl⟩; exact ⟨y, h⟩
 ·rintro ⟨y, h⟩; exact ⟨(b, y), h, rfl⟩
theorem shO_dist (hC : Conc P B G0 W0 n env tm w ob) {k d : Nat} (i j b : Nat) (hi : b ∈ blocks (shO ob k d i)) (hj : b ∈ blocks (shO ob k d j)) : i = j := by
 obtain ⟨l1, hi⟩ := mem_blocks.1 hi
 obtain ⟨l2, hj⟩ := mem_blocks.1 hj
 rcases shO_from hi with ⟨e1, q1⟩ | ⟨h1, h2, q1⟩ <;> rcases shO_from hj with ⟨e2, q2⟩ | ⟨h3, h4, q2⟩
 ·rw [e1, e2]
 ·exact absurd (hC.dist _ _ b (mem_blocks.2 ⟨_, q2⟩) (mem_blocks.2 ⟨_, q1⟩)) h4
 ·exact absurd (hC.dist _ _ b (mem_blocks.2 ⟨_, q1⟩) (mem_blocks.2 ⟨_, q2⟩)) h2
 ·exact hC.dist _ _ b (mem_blocks.2 ⟨_, q1⟩) (mem_blocks.2 ⟨_, q2⟩)
theorem shO_nodup (hC : Conc P B G0 W0 n env tm w ob) {k d : Nat} (j : Nat) : (blocks (shO ob k d j)).Nodup := by
 by_cases hd : j = d
 ·subst hd; rw [shO_d]; exact hC.nodup k
 ·by_cases hk : j = k
  ·subst hk; rw [shO_k hd]; simp
  ·rw [shO_other hk hd]; exact hC.nodup j
theorem shO_low (hC : Conc P B G0 W0 n env tm w ob) {k d : Nat} (j b : Nat) (h : b ∈ blocks (shO ob k d j)) : B ≤ b ∧ b < w.heap.size := by
 obtain ⟨l, h⟩ := mem_blocks.1 h
 rcases shO_from h with ⟨_, h⟩ | ⟨_, _, h⟩ <;> exact hC.low _ b (mem_blocks.2 ⟨_, h⟩)
theorem shO_Gd {k d b i : Nat} (h : Gd B G0 ob b i) : Gd B G0 (shO ob k d) b i :=
 Gd_sub (fun j b lim hj => by rcases shO_from hj with ⟨_, h⟩ | ⟨_, _, h⟩ <;> exact ⟨_, lim, h, Nat.le_refl _⟩) h
theorem look_env1 (env : Env) (d j : Nat) : look (if (look env d).home = true then kill d env else env) j = if (look env d).home = true ∧ leads d (look env j) = true then .dead else look env j := by
 by_cases h : (look env d).home = true
 ·simp only [h, if_true, true_and, look_kill]
 ·simp [h]
theorem mvE_home {k d : Nat} {e : E} (h : e.home = true) : mvE k d e = e := by
 cases e <;> first | rfl | (exfalso; simp [E.home] at h; done)
theorem mvE_stays {k d : Nat} {e : E} (h : ¬ leads k e = true) : mvE k d e = e := by
 cases e with
 | ref s p => simp only [leads] at h; simp only [mvE]; rw [if_neg h]
 | ptre s p i q => simp only [leads] at h; simp only [mvE]; rw [if_neg h]
 | clo f A C caps => simp only [mvE]; rw [if_neg h]
 | _ => rfl
theorem assign_own (hC : Conc P B G0 W0 n env tm w ob) {k d : Nat} (hkd : k ≠ d) (hd : d < n) {wr : Bool} {e : TypeId} {T : Ty} {o : Ann} {xs : List (den T)} (hk : look env k = .own wr e T o xs) :
  Conc P B G0 W0 n ((d, .own wr e T o xs) :: (k, .ref d []) :: moved k d (if (look env d).home = true then kill d env else env)) (tm.setIfInBounds d (tm.getD k undef)) w (shO ob k d) := by
 have hdt : d < tm.size := by rw [hC.size]; exact hd
 have hrk := hC.rep k
 rw [hk] at hrk
 have hlook : ∀ j, look ((d, E.own wr e T o xs) :: (k, .ref d []) :: moved k d (if (look env d).home = true then kill d env else env)) j =
   if d = j then .own wr e T o xs else if k = j then .ref d [] else mvE k d (if (look env d).home = true ∧ leads d (look env j) = true then .dead else look env j) := by
  intro j
  rw [look_cons, look_cons, look_moved, look_env1]
 refine Conc.step hC (Below.refl _ _) (fun b i _ h => ⟨shO_Gd h, rfl⟩) (fun j => ?_) (fun i j b => shO_dist hC i j b) (fun j => shO_nodup hC j) (fun j b => shO_low hC j b) (by rw [Array.size_setIfInBounds]; exact hC.size)
 by_cases hjd : j = d
 ·subst hjd
  right
  rw [hlook, if_pos rfl, getD_set_same _ _ _ hdt, shO_d]
  exact Flat.mono P (.sl T) (fun b i _ h => ⟨shO_Gd h, rfl⟩) (Later.refl _ _) (fun _ _ => rfl) hrk
 ·by_cases hjk : j = k
  ·subst hjk
   right
   rw [hlook, if_neg (Ne.symm hjd), if_pos rfl, getD_set_other _ _ hjd, shO_k hkd]
   refine ⟨rfl, ?_, ?_⟩
   ·simp only [headAt]; rw [hlook, if_pos rfl]; simp only; rw [getD_set_same _ _ _ hdt]
   ·simp only [heldAt]; rw [hlook, if_pos rfl]; rfl
  ·rw [hlook, if_neg (Ne.symm hjd), if_neg (Ne.symm hjk), getD_set_other _ _ hjd, shO_other hjk hjd]
   by_cases hkill : (look env d).home = true ∧ leads d (look env j) = true
   ·right
    rw [if_pos hkill]
    exact (ERep.leads hkill.2 (hC.rep j)).2
   ·rw [if_neg hkill]
    by_cases hl : leads k (look env j) = true
    ·right
     have hrj := hC.rep j
     cases hej : look env j with
     | ref s p =>
       rw [hej] at hl hrj
       simp only [leads, beq_iff_eq] at hl; subst hl
       obtain ⟨h0, h1, h2⟩ := hrj
       simp only [headAt, hk] at h1
       cases p with
       | cons => exact absurd h1 (by simp)
       | nil =>
         simp only [Option.some.injEq] at h1
         simp only [mvE, beq_self_eq_true, if_true]
         refine ⟨h0, ?_, ?_⟩
         ·simp only [headAt]; rw [hlook, if_pos rfl]; simp only; rw [getD_set_same _ _ _ hdt, h1]
         ·simp only [heldAt]; rw [hlook, if_pos rfl]; rfl
     | ptre s p i q =>
       rw [hej] at hl hrj
       simp only [leads, beq_iff_eq] at hl; subst hl
       obtain ⟨h0, hh, g, m, c, h1, h2, h3, h4, h5⟩ := hrj
       simp only [headAt, hk] at h2
       simp only [heldAt, hk] at h1
       cases p with
       | cons => exact absurd h2 (by simp)
       | nil =>
         simp only [Option.some.injEq] at h1 h2
         simp only [mvE, beq_self_eq_true, if_true]
         refine ⟨h0, hh, g, m, c, ?_, ?_, h3, h4, h5⟩
         ·simp only [heldAt]; rw [hlook, if_pos rfl]; simp only; rw [h1]
         ·simp only [headAt]; rw [hlook, if_pos rfl]; simp only; rw [getD_set_same _ _ _ hdt, h2]
     | clo f A C caps =>
       rw [hej] at hl hrj
       simp only [mvE, hl, if_true]
       exact hrj.1
     | ptr s p =>
       rw [hej] at hl hrj
       simp only [leads, beq_iff_eq] at hl; subst hl
       obtain ⟨_, _, _, _, _, h1, _⟩ := hrj
       rw [hk] at h1; exact absurd h1 (by simp)
     | _ => rw [hej] at hl; exact absurd hl (by simp [leads])
    ·left
     have hmv : mvE k d (look env j) = look env j := mvE_stays hl
     rw [hmv]
     refine ⟨rfl, rfl, rfl, fun _ _ => rfl, fun s hs => ?_⟩
     have hsh := ERep.leads hs (hC.rep j)
     have hsk : s ≠ k := by rintro rfl; exact hl hs
     have hsd : s ≠ d := by rintro rfl; exact hkill ⟨hsh.1, hs⟩
     refine HomeEq.same (P := P) ?_ (getD_set_other _ _ hsd) (hC.rep s) (fun _ _ => rfl)
     rw [hlook, if_neg (Ne.symm hsd), if_neg (Ne.symm hsk), leads_home hsh.1]
     simp only [Bool.false_eq_true, and_false, if_false]
     exact mvE_home hsh.1
theorem move_tup (hC : Conc P B G0 W0 n env tm w ob) {k d : Nat} (hkd : k ≠ d) (hd : d < n) {es : List E} (hk : look env k = .tup es) :
  Conc P B G0 W0 n ((d, .tup es) :: (k, .dead) :: (if (look env d).home = true then kill d env else env)) (tm.setIfInBounds d (tm.getD k undef)) w (shO ob k d) := by
 have hdt : d < tm.size := by rw [hC.size]; exact hd
 have hrk := hC.rep k
 rw [hk] at hrk
 have hlook : ∀ j, look ((d, E.tup es) :: (k, .dead) :: (if (look env d).home = true then kill d env else env)) j =
   if d = j then .tup es else if k = j then .dead else (if (look env d).home = true ∧ leads d (look env j) = true then .dead else look env j) := by
  intro j
  rw [look_cons, look_cons, look_env1]
 refine Conc.step hC (Below.refl _ _) (fun b i _ h => ⟨shO_Gd h, rfl⟩) (fun j => ?_) (fun i j b => shO_dist hC i j b) (fun j => shO_nodup hC j) (fun j b => shO_low hC j b) (by rw [Array.size_setIfInBounds]; exact hC.size)
 by_cases hjd : j = d
 ·subst hjd
  right
  rw [hlook, if_pos rfl, getD_set_same _ _ _ hdt, shO_d]
  exact ERep.keep (e := .tup es) (fun b i _ h => ⟨shO_Gd h, rfl⟩) (Later.refl _ _) (fun _ _ => rfl) (fun s hs => by simp [leads] at hs) hrk
 ·by_cases hjk : j = k
  ·subst hjk
   right
   rw [hlook, if_neg (Ne.symm hjd), if_pos rfl, shO_k hkd]
   exact rfl
  ·rw [hlook, if_neg (Ne.symm hjd), if_neg (Ne.symm hjk), getD_set_other _ _ hjd, shO_other hjk hjd]
   by_cases hkill : (look env d).home = true ∧ leads d (look env j) = true
   ·right
    rw [if_pos hkill]
    exact (ERep.leads hkill.2 (hC.rep j)).2
   ·rw [if_neg hkill]
    left
    refine ⟨rfl, rfl, rfl, fun _ _ => rfl, fun s hs => ?_⟩
    have hsh := ERep.leads hs (hC.rep j)
    have hsk : s ≠ k := by rintro rfl; rw [hk] at hsh; exact absurd hsh.1 (by simp [E.home])
    have hsd : s ≠ d := by rintro rfl; exact hkill ⟨hsh.1, hs⟩
    refine HomeEq.same (P := P) ?_ (getD_set_other _ _ hsd) (hC.rep s) (fun _ _ => rfl)
    rw [hlook, if_neg (Ne.symm hsd), if_neg (Ne.symm hsk), leads_home hsh.1]
    simp
variable {R : Type} {K : Kont R} {r : R} {next : Act → World → Prop}
theorem okOd_t {x : Operand} {k : Nat} (h : okOd x (.t k) = true) (a : Act) : a.eval x = a.tmps.getD k undef := by
 unfold okOd at h
 split at h <;> first | (rename_i k1 k2 _ hh; cases hh; rw [beq_iff_eq] at h; subst h; rfl) | (rename_i hh; cases hh; done) | (exact absurd h (by simp))
theorem set_self (tm : Array Value) (k : Nat) : tm.setIfInBounds k (tm.getD k undef) = tm := by
 apply Array.ext
 ·simp
 ·intro i h1 h2
  rw [Array.getElem_setIfInBounds]
  split
  ·rename_i h; subst h; simp [Array.getD, h2]
  ·rfl
theorem fin_move (hC : Conc P B G0 W0 n env a.tmps w ob) (hK : KOk P B G0 W0 n a K r next) {d : Option Nat} {x : Operand} {y : Od} (hx : okOd x y = true) (hd : ∀ k, d = some k → k < n)
  (hk : K (moveE env d y) = some r) : next (a.put d (a.eval x)) w := by
 unfold moveE at hk
 split at hk
 ·rename_i es he
  split at hk
  ·rename_i k d'
   simp only [ent] at he
   have hev := okOd_t hx a
   by_cases hkd : k = d'
   ·subst hkd
    rw [if_pos (by simp)] at hk
    have := hK _ _ _ _ hC hk
    rw [hev]
    simpa only [Act.put, set_self] using this
   ·rw [if_neg (by simpa using hkd)] at hk
    have := hK _ _ _ _ (move_tup hC hkd (hd d' rfl) he) hk
    rw [hev]
    exact this
  ·exact fin0 hC hK hd (Grows.refl w) (e := .dead) rfl hk
 ·exact fin_copy hC hK hx hd hk
theorem fin_assign (hC : Conc P B G0 W0 n env a.tmps w ob) (hK : KOk P B G0 W0 n a K r next) {d : Nat} {x : Operand} {y : Od} (hx : okOd x y = true) (hd : d < n)
  (hk : K (assign env d y) = some r) : next (a.put (some d) (a.eval x)) w := by
 unfold assign at hk
 split at hk
 ·rename_i wr e T o xs he
  split at hk
  ·rename_i k
   simp only [ent] at he
   have hev := okOd_t hx a
   by_cases hkd : k = d
   ·subst hkd
    rw [if_pos (by simp)] at hk
    have := hK _ _ _ _ hC hk
    rw [hev]
    simpa only [Act.put, set_self] using this
   ·rw [if_neg (by simpa using hkd)] at hk
    have := hK _ _ _ _ (assign_own hC hkd hd he) hk
    rw [hev]
    exact this
  ·rename_i hnt
   cases y with
   | t k => exact absurd rfl (hnt k)
   | c T x => simp [ent] at he
   | fn f A C => simp [ent] at he
   | nil e' T' =>
     have hr := copy_rep hC hx
     rcases hr with h | ⟨wr', e2, T2, o2, xs2, h1, _, h3, h4⟩
     ·have : copyE (.nil e' T') (ent env (.nil e' T')) = .own true e' T' .no [] := rfl
      simp only [ent] at he
      cases he
      have hr2 := ent_rep hC hx
      have hv : a.eval x = .slice none 0 0 := by
       unfold okOd at hx
       split at hx <;> first | (rename_i hh; cases hh; exact eq1_eq hx) | (rename_i hh; cases hh; done) | (exact absurd hx (by simp))
      rw [hv]
      exact fin_nil hC hK (d := some d) (fun k hk => by cases hk; exact hd) hk
     ·simp only [ent] at he
      cases he
      rw [h4]
      exact fin_nil hC hK (d := some d) (fun k hk => by cases hk; exact hd) hk
 ·refine fin_copy hC hK (d := some d) hx (fun k hk => by cases hk; exact hd) hk
end
end Go.Fw
/- Soundness, part 7: what is held, shown as nobody's own. -/
namespace Go.Fw
open Go Go.RowKit
section
variable {P : Program} {B : Nat} {G0 : Nat → Nat → Prop} {W0 : World} {n : Nat} {env : Env} {tm : Array Value} {a : Act} {w : World} {ob : Nat → OB}
theorem frz_l (o : Ann) : o.frz.l = o.l.frz := by cases o <;> rfl
theorem frz_r (o : Ann) : o.frz.r = o.r.frz := by cases o <;> rfl
theorem frz_pure {o : Ann} : o.frz.pure = o.pure := by
 induction o with
 | no => rfl
 | hole => rfl
 | own => rfl
 | pair a b iha ihb => simp [Ann.frz, Ann.pure, iha, ihb]
theorem frz_whole {o : Ann} : o.frz.whole = o.whole := by
 induction o with
 | no => rfl
 | hole => rfl
 | own wr e o ih => simp [Ann.frz, Ann.whole, ih]
 | pair a b iha ihb => simp [Ann.frz, Ann.whole, iha, ihb]
theorem annAt_frz : ∀ (p : Path) (o : Ann), annAt o.frz p = (annAt o p).frz
 | [], _ => rfl
 | .l :: p, o => by simp only [annAt, frz_l]; exact annAt_frz p o.l
 | .r :: p, o => by simp only [annAt, frz_r]; exact annAt_frz p o.r
 | .ix _ :: _, _ => rfl
def Less (ob2 ob : OB) : Prop := blocks ob2 = blocks ob ∧ ∀ b lim, (b, lim) ∈ ob2 → ∃ lim', (b, lim') ∈ ob ∧ lim' ≤ lim
theorem Less.refl (ob : OB) : Less ob ob := ⟨rfl, fun b lim h => ⟨lim, h, Nat.le_refl _⟩⟩
theorem Less.append {a b c d : OB} (h : Less a c) (k : Less b d) : Less (a ++ b) (c ++ d) := by
 refine ⟨by rw [blocks_append, blocks_append, h.1, k.1], fun x lim hx => ?_⟩
 rcases List.mem_append.1 hx with hx | hx
 ·obtain ⟨l, h1, h2⟩ := h.2 x lim hx; exact ⟨l, List.mem_append_left _ h1, h2⟩
 ·obtain ⟨l, h1, h2⟩ := k.2 x lim hx; exact ⟨l, List.mem_append_right _ h1, h2⟩
theorem Less.obOf (v : Value) {l l' : Nat} (h : l ≤ l') : Less (obOf v l') (obOf v l) := by
 unfold Fw.obOf
 cases v.ownBlock with
 | none => exact Less.refl _
 | some g => exact ⟨rfl, fun b lim hb => by simp at hb; exact ⟨l, by simp [hb.1], by omega⟩⟩
theorem Flat.frz (P : Program) : ∀ (T : Ty) {w : World} {G : Nat → Nat → Prop} {B : Nat} {o : Ann} {x : den T} {vs : List Value} {ob : OB}, Flat P T w G B o x vs ob → ∃ ob2, Flat P T w G B o.frz x vs ob2 ∧ Less ob2 ob
 | .int k, _, _, _, _, _, _, _, h => ⟨_, by unfold Flat at h ⊢; exact h, Less.refl _⟩
 | .bool, _, _, _, _, _, _, _, h => ⟨_, by unfold Flat at h ⊢; exact h, Less.refl _⟩
 | .str, _, _, _, _, _, _, _, h => ⟨_, by unfold Flat at h ⊢; exact h, Less.refl _⟩
 | .unit, _, _, _, _, _, _, _, h => ⟨_, by unfold Flat at h ⊢; exact h, Less.refl _⟩
 | .pair A C, _, _, _, _, _, _, _, h => by
   unfold Flat at h
   obtain ⟨v1, v2, b1, b2, rfl, rfl, h1, h2⟩ := h
   obtain ⟨c1, k1, l1⟩ := Flat.frz P A h1
   obtain ⟨c2, k2, l2⟩ := Flat.frz P C h2
   exact ⟨c1 ++ c2, by unfold Flat; exact ⟨v1, v2, c1, c2, rfl, rfl, by rw [frz_l]; exact k1, by rw [frz_r]; exact k2⟩, Less.append l1 l2⟩
 | .arr n T, _, _, _, _, _, _, _, h => ⟨_, by unfold Flat at h ⊢; exact h, Less.refl _⟩
 | .fn A C, _, _, _, _, _, _, _, h => ⟨_, by unfold Flat at h ⊢; exact h, Less.refl _⟩
 | .sl T, w, G, B, o, xs, vs, ob, h => by
   cases o with
   | no => exact ⟨_, h, Less.refl _⟩
   | hole => exact ⟨_, h, Less.refl _⟩
   | pair a b => exact ⟨_, by unfold Flat at h; simp only [Ann.frz]; unfold Flat; exact h, Less.refl _⟩
   | own wr e o =>
     unfold Flat at h
     obtain ⟨v, cells, ob', rfl, h2, h3, rfl⟩ := h
     have key : ∀ {xs : List (den T)} {vs : List Value} {ob : OB}, Elems (Flat P T w G B o) xs vs ob → ∃ ob2, Elems (Flat P T w G B o.frz) xs vs ob2 ∧ Less ob2 ob := by
      intro xs
      induction xs with
      | nil => rintro vs ob ⟨rfl, rfl⟩; exact ⟨[], ⟨rfl, rfl⟩, Less.refl _⟩
      | cons x xs ih =>
        rintro vs ob ⟨u1, u2, c1, c2, rfl, rfl, hr, ht⟩
        obtain ⟨d1, k1, l1⟩ := Flat.frz P T hr
        obtain ⟨d2, k2, l2⟩ := ih ht
        exact ⟨d1 ++ d2, ⟨u1, u2, d1, d2, rfl, rfl, k1, k2⟩, Less.append l1 l2⟩
     obtain ⟨d, k, l⟩ := key h3
     refine ⟨obOf v (if false = true then 0 else xs.length * cellsN T) ++ d, ?_, Less.append (Less.obOf v (by split <;> simp)) l⟩
     simp only [Ann.frz]
     unfold Flat
     exact ⟨v, cells, d, rfl, h2, k, rfl⟩
theorem own_imm {T : Ty} {G G' : Nat → Nat → Prop} {wr : Bool} {e : TypeId} {o : Ann} {xs : List (den T)} {v : Value} {b : OB} (h : Flat P (.sl T) w G B (.own wr e o) xs [v] b) (ho : o.pure = true)
  (hG : ∀ b i, b < w.heap.size → G b i → G' b i) (hgood : ∀ g i, v.ownBlock = some g → B ≤ g → i < xs.length * cellsN T → G' g i) : Flat P (.sl T) w G' B .no xs [v] [] := by
 unfold Flat at h
 obtain ⟨v', cells, ob', h1, h2, h3, rfl⟩ := h
 simp only [List.cons.injEq, and_true] at h1
 subst h1
 obtain ⟨_, h4⟩ := Elems.pure P (o' := .no) ho rfl h3
 unfold Flat
 refine ⟨rfl, ?_⟩
 have h2' := h2
 rcases h2.2 with ⟨rfl, hn⟩ | ⟨g, cap, cur, e', fz, rfl, hBg, hg, hnc, hcm, hcs, htake, _, _⟩
 ·refine ⟨none, 0, by rw [hn], by omega, by unfold maxLen; omega, .inl (List.eq_nil_of_length_eq_zero hn)⟩
 ·refine ⟨some ⟨g, 0, none⟩, cap, rfl, hnc, hcm, .inr ⟨g, 0, cells, rfl, Elems.imp (fun x v b hb hx => Flat.mono P T (fun b i hb h => ⟨hG b i hb h, rfl⟩) (Later.refl _ _) (fun _ _ => rfl) hx) h4, fun j u hj => ?_⟩⟩
  have hc := h2'.cells (g := g) rfl j u hj
  rw [add_off] at hc
  refine ⟨hc, hgood g (0 + j) rfl hBg ?_⟩
  have := (List.getElem?_eq_some_iff.1 hj).1
  rw [h2.1] at this; omega
theorem nodup_lim {l : OB} (h : (blocks l).Nodup) {b x y : Nat} (hx : (b, x) ∈ l) (hy : (b, y) ∈ l) : x = y := by
 induction l with
 | nil => exact absurd hx (by simp)
 | cons q r ih =>
   rw [blocks_cons, List.nodup_cons] at h
   rcases List.mem_cons.1 hx with e1 | hx' <;> rcases List.mem_cons.1 hy with e2 | hy'
   ·rw [← e1] at e2; exact (Prod.mk.inj e2).2.symm
   ·exact absurd (mem_blocks.2 ⟨y, hy'⟩) (by rw [← e1] at h; exact h.1)
   ·exact absurd (mem_blocks.2 ⟨x, hx'⟩) (by rw [← e2] at h; exact h.1)
   ·exact ih h.2 hx' hy'
theorem Gd_of_rec (hC : Conc P B G0 W0 n env tm w ob) {s g lim : Nat} (h : (g, lim) ∈ ob s) {i : Nat} (hi : i < lim) (hB : B ≤ g) : Gd B G0 ob g i := by
 refine .inr ⟨hB, fun k lim' hk => ?_⟩
 have := hC.dist s k g (mem_blocks.2 ⟨_, h⟩) (mem_blocks.2 ⟨_, hk⟩)
 subst this
 rw [← nodup_lim (hC.nodup s) h hk]; exact hi
theorem freeze_own (hC : Conc P B G0 W0 n env tm w ob) {s : Nat} {wr : Bool} {e : TypeId} {T : Ty} {o : Ann} {xs : List (den T)} (hs : look env s = .own wr e T o xs) :
  ∃ bs, Less bs (ob s) ∧ Conc P B G0 W0 n ((s, .own false e T o.frz xs) :: env) tm w (updO ob s bs) := by
 have hr := hC.rep s
 rw [hs] at hr
 obtain ⟨bs, h1, h2⟩ := Flat.frz P (.sl T) (o := .own wr e o) hr
 refine ⟨bs, h2, Conc.relabel hC h2.1 h2.2 ?_ ?_⟩
 ·refine ⟨fun p v _ hv => ?_, fun p h hh => ?_, fun T' o' x' hx => ?_⟩
  ·simp only [headAt, hs] at hv
   simp only [headAt]; rw [look_cons, if_pos rfl]; exact hv
  ·simp only [heldAt, hs] at hh
   simp only [heldAt]; rw [look_cons, if_pos rfl]
   cases p with
   | nil => simp only [Option.some.injEq] at hh; subst hh; exact ⟨_, rfl, rfl, rfl⟩
   | cons => exact absurd hh (by simp)
  ·rw [hs] at hx; exact absurd hx (by simp)
 ·refine Flat.mono P (.sl T) (fun b i _ h => ⟨?_, rfl⟩) (Later.refl _ _) (fun _ _ => rfl) h1
  refine Gd_sub (fun j b lim hj => ?_) h
  by_cases hjs : j = s
  ·subst hjs; rw [updO_same] at hj; obtain ⟨l, h3, h4⟩ := h2.2 b lim hj; exact ⟨j, l, h3, h4⟩
  ·rw [updO_other _ _ hjs] at hj; exact ⟨j, lim, hj, Nat.le_refl _⟩
theorem heldAt_loc_frz {T : Ty} {o : Ann} {x : den T} {env : Env} {s : Nat} (hs : look env s = .loc T o x) (p : Path) {h : Held} (hh : heldAt env s p = some h) :
  heldAt ((s, .loc T o.frz x) :: env) s p = some ⟨false, h.e, h.T, h.o.frz, h.xs⟩ := by
 simp only [heldAt, hs] at hh
 simp only [heldAt]; rw [look_cons, if_pos rfl]
 simp only [annAt_frz]
 split at hh
 ·rename_i wr e o' T' xs he hg
  simp only [Option.some.injEq] at hh
  subst hh
  rw [he, hg]; rfl
 ·exact absurd hh (by simp)
theorem freeze_loc (hC : Conc P B G0 W0 n env tm w ob) {s : Nat} {T : Ty} {o : Ann} {x : den T} (hs : look env s = .loc T o x) :
  ∃ bs, Less bs (ob s) ∧ Conc P B G0 W0 n ((s, .loc T o.frz x) :: env) tm w (updO ob s bs) := by
 have hr := hC.rep s
 rw [hs] at hr
 obtain ⟨b, cur, e, ob', h1, h2, h3, h4, h5⟩ := hr
 obtain ⟨bs, h6, h7⟩ := Flat.frz P T h4
 have hL : Less ((b, 0) :: bs) (ob s) := by rw [h5]; exact Less.append (Less.refl [(b, 0)]) h7
 refine ⟨(b, 0) :: bs, hL, Conc.relabel hC hL.1 hL.2 ?_ ?_⟩
 ·refine ⟨fun p v _ hv => ?_, fun p h hh => ⟨_, heldAt_loc_frz hs p hh, rfl, rfl⟩, fun T' o' x' hx => ?_⟩
  ·simp only [headAt, hs] at hv
   simp only [headAt]; rw [look_cons, if_pos rfl]; exact hv
  ·rw [hs] at hx
   cases hx
   exact ⟨_, _, by rw [look_cons, if_pos rfl], rfl⟩
 ·refine ⟨b, cur, e, bs, h1, h2, h3, Flat.mono P T (fun b i _ h => ⟨?_, rfl⟩) (Later.refl _ _) (fun _ _ => rfl) h6, rfl⟩
  refine Gd_sub (fun j b lim hj => ?_) h
  by_cases hjs : j = s
  ·subst hjs; rw [updO_same] at hj; obtain ⟨l, h8, h9⟩ := hL.2 b lim hj; exact ⟨j, l, h8, h9⟩
  ·rw [updO_other _ _ hjs] at hj; exact ⟨j, lim, hj, Nat.le_refl _⟩
structure Frz (ob ob' : Nat → OB) : Prop where
 less : ∀ j, Less (ob' j) (ob j)
theorem Frz.refl (ob : Nat → OB) : Frz ob ob := ⟨fun _ => Less.refl _⟩
theorem Frz.upd {s : Nat} {bs : OB} (h : Less bs (ob s)) : Frz ob (updO ob s bs) := ⟨fun j => by
 by_cases hj : j = s
 ·subst hj; rw [updO_same]; exact h
 ·rw [updO_other _ _ hj]; exact Less.refl _⟩
theorem Frz.Gd {ob' : Nat → OB} (h : Frz ob ob') {b i : Nat} (hg : Gd B G0 ob b i) : Fw.Gd B G0 ob' b i :=
 Gd_sub (fun j b lim hj => by obtain ⟨l, h1, h2⟩ := (h.less j).2 b lim hj; exact ⟨j, l, h1, h2⟩) hg
theorem freeze_any (hC : Conc P B G0 W0 n env tm w ob) (s : Nat) : ∃ ob', Frz ob ob' ∧ Conc P B G0 W0 n (freeze env s) tm w ob' := by
 unfold freeze
 split
 ·rename_i hs; obtain ⟨bs, h1, h2⟩ := freeze_own hC hs; exact ⟨_, Frz.upd h1, h2⟩
 ·rename_i hs; obtain ⟨bs, h1, h2⟩ := freeze_loc hC hs; exact ⟨_, Frz.upd h1, h2⟩
 ·exact ⟨ob, Frz.refl _, hC⟩
theorem held_imm (hC : Conc P B G0 W0 n env tm w ob) {s : Nat} {p : Path} {h : Held} {v : Value} {G' : Nat → Nat → Prop} (hh : heldAt env s p = some h) (hv : headAt w tm env s p = some v) (ho : h.o.pure = true)
  (hG : ∀ b i, b < w.heap.size → Gd B G0 ob b i → G' b i) (hw : h.wr = false ∨ ∀ b i, G' b i) : Flat P (.sl h.T) w G' B .no h.xs [v] [] := by
 have hr := hC.rep s
 simp only [heldAt] at hh
 simp only [headAt] at hv
 have good : ∀ {wr e} {T : Ty} {o : Ann} {xs : List (den T)} {v : Value} {b : OB}, (wr = false ∨ ∀ b i, G' b i) → Flat P (.sl T) w (Gd B G0 ob) B (.own wr e o) xs [v] b → (∀ q ∈ b, q ∈ ob s) → ∀ g i, v.ownBlock = some g → B ≤ g → i < xs.length * cellsN T → G' g i := by
  intro wr e T o xs v b hw hF hsub g i hg hB hi
  rcases hw with hw | hw
  ·subst hw
   have hF' := hF
   unfold Flat at hF
   obtain ⟨v', cells, ob', e1, h2, h3, rfl⟩ := hF
   simp only [List.cons.injEq, and_true] at e1
   subst e1
   have hrec : (g, xs.length * cellsN T) ∈ ob s := hsub _ (List.mem_append_left _ (by simp [obOf, hg]))
   exact hG g i (hC.low s g (mem_blocks.2 ⟨_, hrec⟩)).2 (Gd_of_rec hC hrec hi hB)
  ·exact hw g i
 split at hh
 ·rename_i wr e T o xs hs
  rw [hs] at hr hv
  split at hh
  ·simp only [Option.some.injEq] at hh
   subst hh
   simp only [Option.some.injEq] at hv
   subst hv
   exact own_imm hr ho hG (good hw hr (fun q hq => hq))
  ·exact absurd hh (by simp)
 ·rename_i T o x hs
  rw [hs] at hr hv
  obtain ⟨b, cur, e, ob', h1, h2, h3, h4, h5⟩ := hr
  split at hh
  ·rename_i wr e' o' T' xs he hg
   simp only [Option.some.injEq] at hh
   subst hh
   obtain ⟨v1, v2, v3, b1, b2, b3, hvs, hob, hl, hF, _⟩ := Flat.lens P p T h4 hg
   rw [he] at hF
   have hv2 : v2.length = 1 := Flat.len P (.sl T') hF
   obtain ⟨u, rfl⟩ := List.length_eq_one_iff.1 hv2
   have hcell : w.cell? ⟨b, offT T p, none⟩ = some u := by
    rw [cell_of_row w b _ cur e (0, 0) h3, ← Array.getElem?_toList, hvs, ← hl]
    simp
   simp only [h1] at hv
   rw [hcell] at hv
   simp only [Option.some.injEq] at hv
   subst hv
   exact own_imm hF ho hG (good hw hF (fun q hq => by rw [h5, hob]; simp [hq]))
  ·exact absurd hh (by simp)
 ·exact absurd hh (by simp)
theorem asVal_sl (T : Ty) (v : Value) : asVal (.sl T) [v] = v := rfl
theorem imm_rep {x : Operand} {y : Od} (hC : Conc P B G0 W0 n env a.tmps w ob) (hx : okOd x y = true) {z : TV} (hi : imm env (ent env y) = some z) :
  ∃ vs, a.eval x = asVal z.1 vs ∧ Flat P z.1 w (fun _ _ => True) B .no z.2 vs [] := by
 have hr := ent_rep hC hx
 unfold imm at hi
 split at hi
 ·rename_i T x he
  simp only [Option.some.injEq] at hi; subst hi
  rw [he] at hr
  obtain ⟨_, vs, h1, h2⟩ := hr
  exact ⟨vs, h2, Flat.mono P T (fun _ _ _ _ => ⟨trivial, rfl⟩) (Later.refl _ _) (by simp) h1⟩
 ·rename_i wr e T o xs he
  split at hi
  ·rename_i ho
   simp only [Option.some.injEq] at hi; subst hi
   rw [he] at hr
   exact ⟨[a.eval x], rfl, own_imm hr ho (fun _ _ _ _ => trivial) (fun _ _ _ _ _ => trivial)⟩
  ·exact absurd hi (by simp)
 ·rename_i s p he
  rw [he] at hr
  obtain ⟨_, h1, _⟩ := hr
  simp only [Option.bind_eq_some_iff] at hi
  obtain ⟨h, hh, hi⟩ := hi
  split at hi
  ·rename_i ho
   simp only [Option.some.injEq] at hi; subst hi
   exact ⟨[a.eval x], rfl, held_imm hC hh h1 ho (fun _ _ _ _ => trivial) (.inr fun _ _ => trivial)⟩
  ·exact absurd hi (by simp)
 ·exact absurd hi (by simp)
theorem look_freeze_same (env : Env) (s : Nat) : (look (freeze env s) s = look env s) ∨ (∃ wr e T o xs, look env s = .own wr e T o xs ∧ look (freeze env s) s = .own false e T o.frz xs) ∨ (∃ T o x, look env s = .loc T o x ∧ look (freeze env s) s = .loc T o.frz x) := by
 unfold freeze
 split
 ·rename_i hs; exact .inr (.inl ⟨_, _, _, _, _, hs, by rw [look_cons, if_pos rfl]⟩)
 ·rename_i hs; exact .inr (.inr ⟨_, _, _, hs, by rw [look_cons, if_pos rfl]⟩)
 ·exact .inl rfl
theorem heldAt_freeze {env : Env} {s : Nat} {p : Path} {h : Held} (hh : heldAt env s p = some h) : heldAt (freeze env s) s p = some ⟨false, h.e, h.T, h.o.frz, h.xs⟩ := by
 unfold freeze
 cases hs : look env s with
 | own wr e T o xs =>
   simp only [heldAt, hs] at hh
   simp only [heldAt]; rw [look_cons, if_pos rfl]
   cases p with
   | nil => simp only [Option.some.injEq] at hh; subst hh; rfl
   | cons => exact absurd hh (by simp)
 | loc T o x => exact heldAt_loc_frz hs p hh
 | _ => simp [heldAt, hs] at hh
theorem headAt_freeze (w : World) (tm : Array Value) (env : Env) (s : Nat) (p : Path) : headAt w tm (freeze env s) s p = headAt w tm env s p := by
 unfold freeze
 cases hs : look env s <;> simp only [headAt, look_cons, if_true, hs]
theorem pub_rep {x : Operand} {y : Od} (hC : Conc P B G0 W0 n env a.tmps w ob) (hx : okOd x y = true) {env' : Env} {z : TV} (hi : pub env y = some (env', z)) :
  ∃ ob', Frz ob ob' ∧ Conc P B G0 W0 n env' a.tmps w ob' ∧ ∃ vs, a.eval x = asVal z.1 vs ∧ Flat P z.1 w (Gd B G0 ob') B .no z.2 vs [] := by
 have hr := ent_rep hC hx
 unfold pub at hi
 simp only [Option.bind_eq_some_iff, Option.some.injEq, Prod.mk.injEq] at hi
 obtain ⟨z', hi, henv, rfl⟩ := hi
 unfold imm at hi
 split at hi
 ·rename_i T x he
  simp only [Option.some.injEq] at hi; subst hi
  rw [he] at hr henv
  simp only [homeOf] at henv; subst henv
  obtain ⟨_, vs, h1, h2⟩ := hr
  exact ⟨ob, Frz.refl _, hC, vs, h2, h1⟩
 ·rename_i wr e T o xs he
  split at hi
  ·rename_i ho
   simp only [Option.some.injEq] at hi; subst hi
   rw [he] at hr henv
   cases y with
   | t k =>
     simp only [homeOf] at henv; subst henv
     simp only [ent] at he
     obtain ⟨ob', hf, hC'⟩ := freeze_any hC k
     refine ⟨ob', hf, hC', [a.eval x], rfl, ?_⟩
     have hh : heldAt env k [] = some ⟨wr, e, T, o, xs⟩ := by simp [heldAt, he]
     have := held_imm (G' := Gd B G0 ob') hC' (heldAt_freeze hh) (v := a.tmps.getD k undef) (by rw [headAt_freeze]; simp [headAt, he]) (by simpa only [frz_pure] using ho) (fun _ _ _ h => h) (.inl rfl)
     rw [okOd_t hx a]
     exact this
   | nil e' T' =>
     simp only [homeOf] at henv; subst henv
     simp only [ent] at he; cases he
     exact ⟨ob, Frz.refl _, hC, [a.eval x], rfl, own_imm hr ho (fun _ _ _ h => h) (fun g i hg _ hi => absurd hi (by simp))⟩
   | c T x => simp [ent] at he
   | fn f A C => simp [ent] at he
  ·exact absurd hi (by simp)
 ·rename_i s p he
  rw [he] at hr henv
  simp only [homeOf] at henv; subst henv
  obtain ⟨_, h1, _⟩ := hr
  simp only [Option.bind_eq_some_iff] at hi
  obtain ⟨h, hh, hi⟩ := hi
  split at hi
  ·rename_i ho
   simp only [Option.some.injEq] at hi; subst hi
   obtain ⟨ob', hf, hC'⟩ := freeze_any hC s
   exact ⟨ob', hf, hC', [a.eval x], rfl, held_imm (h := ⟨false, h.e, h.T, h.o.frz, h.xs⟩) (G' := Gd B G0 ob') hC' (heldAt_freeze hh) (by rw [headAt_freeze]; exact h1) (by simpa only [frz_pure] using ho) (fun _ _ _ h => h) (.inl rfl)⟩
  ·exact absurd hi (by simp)
 ·exact absurd hi (by simp)
end
end Go.Fw
/- Soundness, part 8: operations without calls, first part. -/
namespace Go.Fw
open Go Go.RowKit
def FUEL : Nat := 40
section
variable {ks : IntKind} {P : Program} {B : Nat} {G0 : Nat → Nat → Prop} {W0 : World} {n : Nat} {env : Env} {a : Act} {w : World} {ob : Nat → OB}
theorem bool_rep {x : Operand} {y : Od} {b : Bool} (hC : Conc P B G0 W0 n env a.tmps w ob) (hx : okOd x y = true) (h : boolOf? (ent env y) = some b) : a.eval x = .bool b := by
 have hr := ent_rep hC hx
 unfold boolOf? at h
 split at h
 ·rename_i b' he
  simp only [Option.some.injEq] at h; subst h
  rw [he] at hr
  obtain ⟨_, vs, h1, h2⟩ := hr
  unfold Flat at h1
  rw [h2, h1.1]; rfl
 ·exact absurd h (by simp)
theorem int_rep' {x : Operand} {y : Od} {k : IntKind} {m : Int} (hC : Conc P B G0 W0 n env a.tmps w ob) (hx : okOd x y = true) (he : ent env y = .v (.int k) m) : a.eval x = .int k m ∧ inR k m := by
 have hr := ent_rep hC hx
 rw [he] at hr
 obtain ⟨_, vs, h1, h2⟩ := hr
 unfold Flat at h1
 rw [h2, h1.1]; exact ⟨rfl, h1.2.1⟩
theorem int_rep {x : Operand} {y : Od} {q : IntKind × Int} (hC : Conc P B G0 W0 n env a.tmps w ob) (hx : okOd x y = true) (h : intOf? (ent env y) = some q) : a.eval x = .int q.1 q.2 ∧ inR q.1 q.2 := by
 unfold intOf? at h
 split at h
 ·rename_i k m he
  simp only [Option.some.injEq] at h; subst h
  exact int_rep' hC hx he
 ·exact absurd h (by simp)
theorem str_rep' {x : Operand} {y : Od} {s : List UInt8} (hC : Conc P B G0 W0 n env a.tmps w ob) (hx : okOd x y = true) (he : ent env y = .v .str s) : a.eval x = .string ⟨⟨s⟩⟩ ∧ s.length ≤ maxLen := by
 have hr := ent_rep hC hx
 rw [he] at hr
 obtain ⟨_, vs, h1, h2⟩ := hr
 unfold Flat at h1
 rw [h2, h1.1]; exact ⟨rfl, h1.2.1⟩
theorem str_rep {x : Operand} {y : Od} {s : List UInt8} (hC : Conc P B G0 W0 n env a.tmps w ob) (hx : okOd x y = true) (h : strOf? (ent env y) = some s) : a.eval x = .string ⟨⟨s⟩⟩ ∧ s.length ≤ maxLen := by
 unfold strOf? at h
 split at h
 ·rename_i s' he
  simp only [Option.some.injEq] at h; subst h
  exact str_rep' hC hx he
 ·exact absurd h (by simp)
theorem v_bool (G : Nat → Nat → Prop) (tm : Array Value) (b : Bool) : ERep P w G B tm env (.v .bool b) (.bool b) [] := ⟨rfl, [.bool b], by unfold Flat; exact ⟨rfl, rfl⟩, rfl⟩
theorem v_int (G : Nat → Nat → Prop) (tm : Array Value) {k : IntKind} {m : Int} (h : inR k m) : ERep P w G B tm env (.v (.int k) m) (.int k m) [] := ⟨rfl, [.int k m], by unfold Flat; exact ⟨rfl, h, rfl⟩, rfl⟩
theorem v_str (G : Nat → Nat → Prop) (tm : Array Value) {s : List UInt8} (h : s.length ≤ maxLen) : ERep P w G B tm env (.v .str s) (.string ⟨⟨s⟩⟩) [] := ⟨rfl, [.string ⟨⟨s⟩⟩], by unfold Flat; exact ⟨rfl, h, rfl⟩, rfl⟩
theorem tmod_within (k : IntKind) (m q : Int) (h : inR k m) : inR k (m.tmod q) := by
 have h1 : m.tmod q = m - q * m.tdiv q := Int.tmod_def m q
 have h0 : k.min ≤ 0 ∧ 0 ≤ k.max := by cases k <;> decide
 have hn : (m.tmod q).natAbs ≤ m.natAbs := by rw [Int.natAbs_tmod]; exact Nat.mod_le _ _
 rcases Int.le_total 0 m with hm | hm
 ·have := Int.tmod_nonneg q hm
  exact ⟨by omega, by have := h.2; omega⟩
 ·have h2 : m.tmod q ≤ 0 := by
   have := Int.tmod_nonneg q (show 0 ≤ -m by omega)
   rw [Int.neg_tmod] at this; omega
  exact ⟨by have := h.1; omega, by omega⟩
theorem toList_mk (s : List UInt8) : (⟨⟨s⟩⟩ : ByteArray).toList = s := ByteArray.toList_mk s
theorem append_mk (s t : List UInt8) : (⟨⟨s⟩⟩ : ByteArray) ++ ⟨⟨t⟩⟩ = ⟨⟨s ++ t⟩⟩ := by
 have : ((⟨⟨s⟩⟩ : ByteArray) ++ ⟨⟨t⟩⟩).data = ⟨s ++ t⟩ := by
  rw [ByteArray.data_append]; simp
 cases h : (⟨⟨s⟩⟩ : ByteArray) ++ ⟨⟨t⟩⟩
 rw [h] at this
 simp only at this
 rw [this]
variable {R : Type} {K : Kont R} {r : R} {next : Act → World → Prop} {Q : Exit → Act → World → Prop} {o : Oper} {i : AI} {cl : Cal}
theorem inR_len {m : Nat} (h : m ≤ maxLen) : inR .i64 (m : Int) := by
 unfold maxLen at h
 constructor
 ·show (-9223372036854775808 : Int) ≤ _; omega
 ·show _ ≤ (9223372036854775807 : Int); omega
theorem inR_wrap (k : IntKind) (m : Int) : inR k (k.wrap m) := wrap_within k m
theorem st_mv {x : Operand} {y : Od} (hC : Conc P B G0 W0 n env a.tmps w ob) (hK : KOk P B G0 W0 n a K r next) (hd : ∀ k, o.dst = some k → k < n) (hdst : i.dst = o.dst)
  (ho : o.op = .move x) (hi : i.op = .mv y) (hx : okOd x y = true) (h : step cl i env K = some r) : o.wp P a w next Q := by
 unfold step at h; rw [hi] at h; simp only [hdst] at h
 exact wp_value (v := a.eval x) (by simp [execOp, ho]) (fin_move hC hK hx hd h)
theorem st_asg {x : Operand} {y : Od} (hC : Conc P B G0 W0 n env a.tmps w ob) (hK : KOk P B G0 W0 n a K r next) (hd : ∀ k, o.dst = some k → k < n) (hdst : i.dst = o.dst)
  (ho : o.op = .assign x) (hi : i.op = .asg y) (hx : okOd x y = true) (h : step cl i env K = some r) : o.wp P a w next Q := by
 unfold step at h; rw [hi] at h; simp only [hdst] at h
 split at h
 ·rename_i d hdd
  refine wp_value (w' := w) (v := a.eval x) (by simp [execOp, ho]) ?_
  rw [hdd]
  exact fin_assign hC hK hx (hd d hdd) h
 ·exact absurd h (by simp)
theorem st_pick {c x y : Operand} {c' x' y' : Od} (hC : Conc P B G0 W0 n env a.tmps w ob) (hK : KOk P B G0 W0 n a K r next) (hd : ∀ k, o.dst = some k → k < n) (hdst : i.dst = o.dst)
  (ho : o.op = .pick c x y) (hi : i.op = .pick c' x' y') (hc : okOd c c' = true) (hx : okOd x x' = true) (hy : okOd y y' = true) (h : step cl i env K = some r) : o.wp P a w next Q := by
 unfold step at h; rw [hi] at h; simp only [hdst, Option.bind_eq_some_iff] at h
 obtain ⟨q, hq, h⟩ := h
 have hv := bool_rep hC hc hq
 cases q with
 | true => exact wp_value (v := a.eval x) (by simp [execOp, ho, hv, asBool]) (fin_copy hC hK hx hd h)
 | false => exact wp_value (v := a.eval y) (by simp [execOp, ho, hv, asBool]) (fin_copy hC hK hy hd h)
theorem run_arith {op : BinOp} {k : IntKind} {m q z : Int} (xt : TypeId) (h : arith op k m q = some z) : (binOp op xt (.int k m) (.int k q)).run P w = .ok (.int k z) w ∧ inR k z := by
 unfold arith at h
 split at h <;> first | (simp at h; done) | skip
 all_goals (simp only [Option.some.injEq] at h; subst h)
 all_goals refine ⟨?_, ?_⟩
 all_goals first
  | exact inR_wrap _ _
  | exact bits_within _ _ _ _
  | (simp [binOp, Op.intArith]; done)
  | (simp only [binOp, ne_eq, not_true_eq_false, if_false]; rfl)
theorem run_cmp {op : BinOp} {k : IntKind} {m q : Int} {z : Bool} (xt : TypeId) (h : cmpI op m q = some z) : (binOp op xt (.int k m) (.int k q)).run P w = .ok (.bool z) w := by
 unfold cmpI at h
 split at h <;> first | (simp at h; done) | skip
 all_goals (simp only [Option.some.injEq] at h; subst h; simp [binOp, Op.intCmp])
theorem run_eqGuard_int {op : BinOp} {xt : TypeId} {x y : Operand} {k k' : IntKind} {m q : Int} : (eqGuard op xt x y (.int k m) (.int k' q)).run P w = .ok () w := by cases op <;> rfl
theorem run_eqGuard_str {op : BinOp} {xt : TypeId} {x y : Operand} {s t : ByteArray} : (eqGuard op xt x y (.string s) (.string t)).run P w = .ok () w := by cases op <;> rfl
theorem st_bin {op : BinOp} {xt yt : TypeId} {x y : Operand} {x' y' : Od} (hC : Conc P B G0 W0 n env a.tmps w ob) (hK : KOk P B G0 W0 n a K r next) (hd : ∀ k, o.dst = some k → k < n) (hdst : i.dst = o.dst)
  (ho : o.op = .binOp op xt x y yt) (hi : i.op = .bin op x' y') (hx : okOd x x' = true) (hy : okOd y y' = true) (h : step cl i env K = some r) : o.wp P a w next Q := by
 unfold step at h; rw [hi] at h; simp only [hdst] at h
 split at h
 ·rename_i k m k' q hex hey
  split at h
  ·rename_i hkk
   subst hkk
   have hvx := int_rep' hC hx hex
   have hvy := int_rep' hC hy hey
   have hgd : (eqGuard op xt x y (.int k m) (.int k q)).run P w = .ok () w := run_eqGuard_int
   split at h
   ·split at h
    ·exact absurd h (by simp)
    ·rename_i hq
     exact wp_value (v := .int k (k.wrap (m.tdiv q))) (by simp [execOp, ho, hvx.1, hvy.1, hgd, binOp, Op.intDiv, hq]) (fin0 hC hK hd (Grows.refl w) (v_int _ _ (inR_wrap _ _)) h)
   ·split at h
    ·exact absurd h (by simp)
    ·rename_i hq
     have hin : inR k (m.tmod q) := tmod_within k m q hvx.2
     exact wp_value (v := .int k (m.tmod q)) (by simp [execOp, ho, hvx.1, hvy.1, hgd, binOp, Op.intDiv, hq]) (fin0 hC hK hd (Grows.refl w) (v_int _ _ hin) h)
   ·split at h
    ·rename_i z hz
     exact wp_value (v := .bool z) (by simp [execOp, ho, hvx.1, hvy.1, hgd, run_cmp xt hz]) (fin0 hC hK hd (Grows.refl w) (v_bool _ _ _) h)
    ·simp only [Option.bind_eq_some_iff] at h
     obtain ⟨z, hz, h⟩ := h
     have hrz := run_arith (P := P) (w := w) xt hz
     exact wp_value (v := .int k z) (by simp [execOp, ho, hvx.1, hvy.1, hgd, hrz.1]) (fin0 hC hK hd (Grows.refl w) (v_int _ _ hrz.2) h)
  ·exact absurd h (by simp)
 ·rename_i s t hex hey
  have hvx := str_rep' hC hx hex
  have hvy := str_rep' hC hy hey
  have hgd : (eqGuard op xt x y (.string ⟨⟨s⟩⟩) (.string ⟨⟨t⟩⟩)).run P w = .ok () w := run_eqGuard_str
  have hs : (⟨⟨s⟩⟩ : ByteArray).toList = s := toList_mk s
  have ht : (⟨⟨t⟩⟩ : ByteArray).toList = t := toList_mk t
  split at h
  ·exact wp_value (v := .bool (s == t)) (by simp [execOp, ho, hvx.1, hvy.1, hgd, binOp, Op.stringOp, hs, ht]) (fin0 hC hK hd (Grows.refl w) (v_bool _ _ _) h)
  ·exact wp_value (v := .bool (s != t)) (by simp [execOp, ho, hvx.1, hvy.1, hgd, binOp, Op.stringOp, hs, ht, bne]) (fin0 hC hK hd (Grows.refl w) (v_bool _ _ _) h)
  ·split at h
   ·rename_i hle
    have hadd : (Op.stringOp .add ⟨⟨s⟩⟩ ⟨⟨t⟩⟩).run P w = .ok (.string ⟨⟨s ++ t⟩⟩) w := by
     have := run_string_add_sum (P := P) w ⟨⟨s⟩⟩ ⟨⟨t⟩⟩ (by show s.length + t.length ≤ _; omega)
     rw [this, append_mk]
    refine wp_value (v := .string ⟨⟨s ++ t⟩⟩) (by simp [execOp, ho, hvx.1, hvy.1, hgd, binOp, hadd]) (fin0 hC hK hd (Grows.refl w) (v_str _ _ ?_) h)
    rw [List.length_append]; unfold maxLen; omega
   ·exact absurd h (by simp)
  ·exact wp_value (v := .bool (Op.bytesLess s t)) (by simp [execOp, ho, hvx.1, hvy.1, hgd, binOp, Op.stringOp, hs, ht]) (fin0 hC hK hd (Grows.refl w) (v_bool _ _ _) h)
  ·exact wp_value (v := .bool (Op.bytesLess s t || s == t)) (by simp [execOp, ho, hvx.1, hvy.1, hgd, binOp, Op.stringOp, hs, ht]) (fin0 hC hK hd (Grows.refl w) (v_bool _ _ _) h)
  ·exact wp_value (v := .bool (!(Op.bytesLess s t || s == t))) (by simp [execOp, ho, hvx.1, hvy.1, hgd, binOp, Op.stringOp, hs, ht]) (fin0 hC hK hd (Grows.refl w) (v_bool _ _ _) h)
  ·exact wp_value (v := .bool (!Op.bytesLess s t)) (by simp [execOp, ho, hvx.1, hvy.1, hgd, binOp, Op.stringOp, hs, ht]) (fin0 hC hK hd (Grows.refl w) (v_bool _ _ _) h)
  ·exact absurd h (by simp)
 ·exact absurd h (by simp)
theorem st_un {op : UnOp} {xt : TypeId} {x : Operand} {x' : Od} (hC : Conc P B G0 W0 n env a.tmps w ob) (hK : KOk P B G0 W0 n a K r next) (hd : ∀ k, o.dst = some k → k < n) (hdst : i.dst = o.dst)
  (ho : o.op = .unOp op xt x) (hi : i.op = .un op x') (hx : okOd x x' = true) (h : step cl i env K = some r) : o.wp P a w next Q := by
 unfold step at h; rw [hi] at h; simp only [hdst] at h
 split at h
 ·rename_i b hex
  have hv := bool_rep hC hx (by rw [hex]; rfl)
  exact wp_value (v := .bool (!b)) (by simp [execOp, ho, hv, Op.unary]) (fin0 hC hK hd (Grows.refl w) (v_bool _ _ _) h)
 ·rename_i k m hex
  have hv := int_rep' hC hx hex
  exact wp_value (v := .int k (k.wrap (0 - m))) (by simp [execOp, ho, hv.1, Op.unary, Op.intArith]) (fin0 hC hK hd (Grows.refl w) (v_int _ _ (inR_wrap _ _)) h)
 ·exact absurd h (by simp)
theorem st_convI {s d : TypeId} {x : Operand} {x' : Od} {k : IntKind} (hC : Conc P B G0 W0 n env a.tmps w ob) (hK : KOk P B G0 W0 n a K r next) (hd : ∀ k, o.dst = some k → k < n) (hdst : i.dst = o.dst)
  (ho : o.op = .convert s d x) (hi : i.op = .convI k x') (hx : okOd x x' = true) (hs : TyR P s (.int ks)) (hdt : TyR P d (.int k)) (h : step cl i env K = some r) : o.wp P a w next Q := by
 unfold step at h; rw [hi] at h; simp only [hdst, Option.bind_eq_some_iff] at h
 obtain ⟨q, hq, h⟩ := h
 have hv := int_rep hC hx hq
 exact wp_value (v := .int k (k.wrap q.2)) (by simp [execOp, ho, hv.1, convert, run_underlying hs.int, run_underlying hdt.int, Conv.intToInt]) (fin0 hC hK hd (Grows.refl w) (v_int _ _ (inR_wrap _ _)) h)
end
end Go.Fw
/- Soundness, part 9: operations without calls: variables, parts, elements that are read. -/
namespace Go.Fw
open Go Go.RowKit
section
variable {P : Program} {B : Nat} {G0 : Nat → Nat → Prop} {W0 : World} {n : Nat} {env : Env} {a : Act} {w : World} {ob : Nat → OB}
variable {R : Type} {K : Kont R} {r : R} {next : Act → World → Prop} {Q : Exit → Act → World → Prop} {o : Oper} {i : AI} {cl : Cal}
structure ZeroOk (P : Program) (t : TypeId) (T : Ty) : Prop where
 ok : ∃ i z vs, P.info? t = some i ∧ i.zero = some z ∧ constV T (zero T) = some vs ∧ z = asVal T vs
theorem constV_one : ∀ {T : Ty} {x : den T} {vs : List Value}, constV T x = some vs → ∀ u ∈ vs, u.oneCell' = true := by
 intro T x vs h
 exact Flat.one (default : Program) T (w := default) (G := fun _ _ => True) (B := 0) (o := .no) rfl (constV_flat default T default _ 0 .no (constV_flat.annOk_no T) h)
theorem constV_len {T : Ty} {x : den T} {vs : List Value} (h : constV T x = some vs) : vs.length = cellsN T :=
 Flat.len (default : Program) T (w := default) (G := fun _ _ => True) (B := 0) (o := .no) (constV_flat default T default _ 0 .no (constV_flat.annOk_no T) h)
theorem loc_new {t : TypeId} {T : Ty} {oa : Ann} {x : den T} {vs : List Value} {d : Option Nat} (hC : Conc P B G0 W0 n env a.tmps w ob) (hK : KOk P B G0 W0 n a K r next) (hd : ∀ k, d = some k → k < n)
  (hF : Flat P T w (Gd B G0 ob) B oa x vs []) (hk : K (putO env d (.loc T oa x)) = some r) : next (a.put d (.pointer (some ⟨w.heap.size, 0, none⟩))) (w.alloc (.cells vs.toArray t)) := by
 have hg : Grows w (w.alloc (.cells vs.toArray t)) := Grows.alloc w _
 cases d with
 | none => exact fin0 (e := .dead) hC hK hd hg (v := undef) rfl hk
 | some k =>
   have h := Conc.putG (e := .loc T oa x) (v := .pointer (some ⟨w.heap.size, 0, none⟩)) (bk := [(w.heap.size, 0)]) hC (hd k rfl) hg ?_ (by simp) (by simp)
   ·exact hK _ _ _ _ h hk
   ·rw [if_neg (by simp [leads])]
    refine ⟨w.heap.size, vs.toArray, t, [], rfl, hC.base, heap_alloc_new w _, ?_, rfl⟩
    exact Flat.mono P T (fun b i hb h => ⟨Gd_upd (fun lim hl => by simp at hl; omega) h, hg.cell hb⟩) ⟨hg.size, fun b hb => hg.block b (Nat.lt_of_lt_of_le hb hC.base)⟩ (by simp) (by simpa using hF)
theorem st_alloc {t : TypeId} {T : Ty} {oa : Ann} (hC : Conc P B G0 W0 n env a.tmps w ob) (hK : KOk P B G0 W0 n a K r next) (hd : ∀ k, o.dst = some k → k < n) (hdst : i.dst = o.dst)
  (ho : o.op = .alloc t) (hi : i.op = .alloc T oa) (hz : ZeroOk P t T) (ha : annOk T oa = true) (h : step cl i env K = some r) : o.wp P a w next Q := by
 unfold step at h; rw [hi] at h; simp only [hdst] at h
 obtain ⟨it, z, vs, h1, h2, h3, h4⟩ := hz.ok
 have hcells : z.cells = vs.toArray := by rw [h4]; exact cells_asVal (constV_len h3) (constV_one h3)
 refine wp_value (v := .pointer (some ⟨w.heap.size, 0, none⟩)) (w' := w.alloc (.cells vs.toArray t)) ?_ (loc_new hC hK hd (constV_flat P T w _ B oa ha h3) h)
 simp [execOp, ho, Instr.alloc, zeroValue, typeInfo, h1, h2, newVar, newRow, hcells]
theorem st_box {t : TypeId} {T : Ty} {x : Operand} {y : Od} (hC : Conc P B G0 W0 n env a.tmps w ob) (hK : KOk P B G0 W0 n a K r next) (hd : ∀ k, o.dst = some k → k < n) (hdst : i.dst = o.dst)
  (ho : o.op = .box t x) (hi : i.op = .box T y) (hx : okOd x y = true) (h : step cl i env K = some r) : o.wp P a w next Q := by
 unfold step at h; rw [hi] at h; simp only [hdst, Option.bind_eq_some_iff] at h
 obtain ⟨⟨env', z⟩, hq, y', hy', h⟩ := h
 obtain ⟨ob', hf, hC', vs, hv, hF⟩ := pub_rep hC hx hq
 have := cast?_some hy'
 simp only at this; subst this
 have hcells : (a.eval x).cells = vs.toArray := by rw [hv]; exact cells_asVal (Flat.len P T hF) (Flat.one P T rfl hF)
 refine wp_value (v := .pointer (some ⟨w.heap.size, 0, none⟩)) (w' := w.alloc (.cells vs.toArray t)) ?_ (loc_new hC' hK hd hF h)
 simp [execOp, ho, Instr.box, newVar, newRow, hcells]
theorem loc_part (hC : Conc P B G0 W0 n env a.tmps w ob) {s : Nat} {T0 : Ty} {oa : Ann} {x : den T0} (hs : look env s = .loc T0 oa x) {p : Path} {T : Ty} {y : den T} (hg : getP T0 p x = some ⟨T, y⟩) :
  ∃ b cur e v1 v2 v3 b1 b2 b3, a.tmps.getD s undef = .pointer (some ⟨b, 0, none⟩) ∧ w.heap[b]? = some (.cells cur e (0, 0)) ∧ B ≤ b ∧ cur.toList = v1 ++ v2 ++ v3 ∧ v1.length = offT T0 p ∧ ob s = (b, 0) :: (b1 ++ b2 ++ b3) ∧
    Flat P T w (Gd B G0 ob) B (annAt oa p) y v2 b2 ∧
    (∀ (o2 : Ann) (y2 : den T) (u : List Value) (c : OB) (x2 : den T0), (hasIx p = true → o2.pure = true) → Flat P T w (Gd B G0 ob) B o2 y2 u c → setP T0 p x ⟨T, y2⟩ = some x2 → Flat P T0 w (Gd B G0 ob) B (setAnn oa p o2) x2 (v1 ++ u ++ v3) (b1 ++ c ++ b3)) := by
 have hr := hC.rep s
 rw [hs] at hr
 obtain ⟨b, cur, e, ob', h1, h2, h3, h4, h5⟩ := hr
 obtain ⟨v1, v2, v3, b1, b2, b3, e1, e2, e3, e4, e5⟩ := Flat.lens P p T0 h4 hg
 exact ⟨b, cur, e, v1, v2, v3, b1, b2, b3, h1, h3, h2, e1, e3, by rw [h5, e2], e4, e5⟩
theorem cells_of_part {b : Nat} {cur : Array Value} {e : TypeId} (h : w.heap[b]? = some (.cells cur e (0, 0))) {v1 v2 v3 : List Value} (hc : cur.toList = v1 ++ v2 ++ v3) : ∀ j u, v2[j]? = some u → w.cell? ⟨b, v1.length + j, none⟩ = some u := by
 intro j u hj
 rw [cell_of_row w b _ cur e (0, 0) h, ← Array.getElem?_toList, hc]
 have hlt := (List.getElem?_eq_some_iff.1 hj).1
 rw [List.getElem?_append_left (by simp; omega), List.getElem?_append_right (by omega)]
 simpa using hj
theorem held_row (hC : Conc P B G0 W0 n env a.tmps w ob) {s : Nat} {p : Path} {h : Held} {v : Value} (hh : heldAt env s p = some h) (hv : headAt w a.tmps env s p = some v) :
  ∃ cells b2, rowX w B h.e (cellsN h.T) v h.xs.length cells ∧ Elems (Flat P h.T w (Gd B G0 ob) B h.o) h.xs cells b2 ∧ (∀ q ∈ obOf v (if h.wr = true then 0 else h.xs.length * cellsN h.T) ++ b2, q ∈ ob s) := by
 have hr := hC.rep s
 have hh' := hh
 simp only [heldAt] at hh
 simp only [headAt] at hv
 split at hh
 ·rename_i wr e T oa xs hs
  rw [hs] at hr hv
  split at hh
  ·simp only [Option.some.injEq] at hh hv
   subst hh; subst hv
   have hr' : Flat P (.sl T) w (Gd B G0 ob) B (.own wr e oa) xs [a.tmps.getD s undef] (ob s) := hr
   unfold Flat at hr'
   obtain ⟨v', cells, b2, e1, h2, h3, h4⟩ := hr'
   simp only [List.cons.injEq, and_true] at e1
   subst e1
   exact ⟨cells, b2, h2, h3, fun q hq => by rw [h4]; exact hq⟩
  ·exact absurd hh (by simp)
 ·rename_i T oa x hs
  split at hh
  ·rename_i wr e' o' T' xs he hg
   simp only [Option.some.injEq] at hh
   subst hh
   obtain ⟨b, cur, e, v1, v2, v3, b1, b2, b3, h1, h3, _, h5, h6, h7, h8, _⟩ := loc_part hC hs hg
   rw [hs] at hv
   simp only [h1] at hv
   rw [he] at h8
   have hv2 : v2.length = 1 := Flat.len P (.sl T') h8
   obtain ⟨u, rfl⟩ := List.length_eq_one_iff.1 hv2
   have := cells_of_part h3 h5 0 u rfl
   rw [h6, Nat.add_zero] at this
   rw [this] at hv
   simp only [Option.some.injEq] at hv
   subst hv
   unfold Flat at h8
   obtain ⟨v', cells, b2', e1, h2', h3', h4'⟩ := h8
   simp only [List.cons.injEq, and_true] at e1
   subst e1
   exact ⟨cells, b2', h2', h3', fun q hq => by rw [h7, h4']; simp only [List.mem_cons, List.mem_append] at hq ⊢; exact .inr (.inl (.inr hq))⟩
  ·exact absurd hh (by simp)
 ·exact absurd hh (by simp)
end
end Go.Fw
/- Soundness, part 10: reading. -/
namespace Go.Fw
open Go Go.RowKit
theorem Flat.shared (P : Program) : ∀ (T : Ty) {w : World} {G G' : Nat → Nat → Prop} {B : Nat} {o : Ann} {x : den T} {vs : List Value} {ob : OB}, o.whole = true →
  (∀ b lim i, (b, lim) ∈ ob → i < lim → B ≤ b → G' b i) → (∀ b i, b < w.heap.size → G b i → G' b i) → Flat P T w G B o.frz x vs ob → Flat P T w G' B .no x vs []
 | .int k, _, _, _, _, _, _, _, _, _, _, _, h => by unfold Flat at h ⊢; exact ⟨h.1, h.2.1, rfl⟩
 | .bool, _, _, _, _, _, _, _, _, _, _, _, h => by unfold Flat at h ⊢; exact ⟨h.1, rfl⟩
 | .str, _, _, _, _, _, _, _, _, _, _, _, h => by unfold Flat at h ⊢; exact ⟨h.1, h.2.1, rfl⟩
 | .unit, _, _, _, _, _, _, _, _, _, _, _, h => by unfold Flat at h ⊢; exact ⟨h.1, rfl⟩
 | .pair A C, _, _, _, _, o, _, _, _, ho, hg, hG, h => by
   unfold Flat at h ⊢
   obtain ⟨v1, v2, b1, b2, rfl, rfl, h1, h2⟩ := h
   rw [frz_l] at h1; rw [frz_r] at h2
   have ho1 : o.l.whole = true := by cases o <;> simp_all [Ann.whole, Ann.l]
   have ho2 : o.r.whole = true := by cases o <;> simp_all [Ann.whole, Ann.r]
   exact ⟨v1, v2, [], [], rfl, rfl, Flat.shared P A ho1 (fun b lim i hb => hg b lim i (List.mem_append_left _ hb)) hG h1, Flat.shared P C ho2 (fun b lim i hb => hg b lim i (List.mem_append_right _ hb)) hG h2⟩
 | .arr n T, _, _, _, _, _, _, _, _, _, _, hG, h => by
   unfold Flat at h ⊢
   obtain ⟨_, h2⟩ := Elems.pure P (o := .no) (o' := .no) rfl rfl h.2
   exact ⟨h.1, Elems.imp (fun x v b hb hx => by
    have : b = [] := by cases b with | nil => rfl | cons q r => exact absurd (hb q (by simp)) (by simp)
    subst this
    exact Flat.mono P T (fun b i hb h => ⟨hG b i hb h, rfl⟩) (Later.refl _ _) (by simp) hx) h2⟩
 | .fn A C, _, _, _, _, _, _, _, _, _, _, _, h => by unfold Flat at h ⊢; exact ⟨rfl, h.2⟩
 | .sl T, w, G, G', B, o, xs, vs, ob, ho, hg, hG, h => by
   have imm : ∀ {ob : OB}, (ob = [] ∧ ∃ A c, vs = [.slice A xs.length c] ∧ xs.length ≤ c ∧ c ≤ maxLen ∧
    (xs = [] ∨ ∃ b off cells, A = some ⟨b, off, none⟩ ∧ Elems (Flat P T w G B .no) xs cells [] ∧ ∀ j v, cells[j]? = some v → w.cell? ⟨b, off + j, none⟩ = some v ∧ G b (off + j))) → Flat P (.sl T) w G' B .no xs vs [] := by
    intro ob h
    have h' : Flat P (.sl T) w G B .no xs vs [] := by unfold Flat; exact ⟨rfl, h.2⟩
    exact Flat.mono P (.sl T) (fun b i hb h => ⟨hG b i hb h, rfl⟩) (Later.refl _ _) (by simp) h'
   cases o with
   | no => simp only [Ann.frz] at h; unfold Flat at h; exact imm h
   | pair a b => simp only [Ann.frz] at h; unfold Flat at h; exact imm h
   | hole => simp [Ann.whole] at ho
   | own wr e o =>
     simp only [Ann.frz] at h
     unfold Flat at h
     obtain ⟨v, cells, ob', h1, h2, h3, rfl⟩ := h
     subst h1
     simp only [Ann.whole] at ho
     have key : ∀ {xs : List (den T)} {vs : List Value} {ob : OB}, (∀ b lim i, (b, lim) ∈ ob → i < lim → B ≤ b → G' b i) → Elems (Flat P T w G B o.frz) xs vs ob → Elems (Flat P T w G' B .no) xs vs [] := by
      intro xs
      induction xs with
      | nil => rintro vs ob _ ⟨rfl, rfl⟩; exact ⟨rfl, rfl⟩
      | cons x xs ih =>
        rintro vs ob hg ⟨u1, u2, c1, c2, rfl, rfl, hr, ht⟩
        exact ⟨u1, u2, [], [], rfl, rfl, Flat.shared P T ho (fun b lim i hb => hg b lim i (List.mem_append_left _ hb)) hG hr, ih (fun b lim i hb => hg b lim i (List.mem_append_right _ hb)) ht⟩
     have h3' := key (fun b lim i hb => hg b lim i (List.mem_append_right _ hb)) h3
     unfold Flat
     refine ⟨rfl, ?_⟩
     have h2' := h2
     rcases h2.2 with ⟨rfl, hn⟩ | ⟨g, cap, cur, _, _, rfl, hBg, hh, hnc, hcm, hcs, htake, _, _⟩
     ·exact ⟨none, 0, by rw [hn], by omega, by unfold maxLen; omega, .inl (List.eq_nil_of_length_eq_zero hn)⟩
     ·refine ⟨some ⟨g, 0, none⟩, cap, rfl, hnc, hcm, .inr ⟨g, 0, cells, rfl, h3', fun j u hj => ?_⟩⟩
      have hc := h2'.cells (g := g) rfl j u hj
      rw [add_off] at hc
      refine ⟨hc, hg g (xs.length * cellsN T) (0 + j) (List.mem_append_left _ (by simp [obOf, Value.ownBlock])) ?_ hBg⟩
      have := (List.getElem?_eq_some_iff.1 hj).1
      rw [h2.1] at this; omega
section
variable {P : Program} {B : Nat} {G0 : Nat → Nat → Prop} {W0 : World} {n : Nat} {env : Env} {a : Act} {w : World} {ob : Nat → OB}
variable {R : Type} {K : Kont R} {r : R} {next : Act → World → Prop} {Q : Exit → Act → World → Prop} {o : Oper} {i : AI} {cl : Cal}
theorem v_rep {T : Ty} {x : den T} {vs : List Value} {G : Nat → Nat → Prop} {tm : Array Value} (h : Flat P T w G B .no x vs []) : ERep P w G B tm env (.v T x) (asVal T vs) [] := ⟨rfl, vs, h, rfl⟩
theorem rec_good (hC : Conc P B G0 W0 n env a.tmps w ob) {s : Nat} {l : OB} (hl : ∀ q ∈ l, q ∈ ob s) : ∀ b lim i, (b, lim) ∈ l → i < lim → B ≤ b → Gd B G0 ob b i :=
 fun _ _ _ hb hi hB => Gd_of_rec hC (hl _ hb) hi hB
theorem locOf {x : Operand} {y : Od} {s : Nat} {p : Path} (hC : Conc P B G0 W0 n env a.tmps w ob) (hx : okOd x y = true) (hm : locPlace env y = some (s, p)) {T0 : Ty} {oa : Ann} {x0 : den T0} (hs : look env s = .loc T0 oa x0) :
  ∃ b, a.tmps.getD s undef = .pointer (some ⟨b, 0, none⟩) ∧ a.eval x = .pointer (some ⟨b, offT T0 p, none⟩) := by
 have hr := ent_rep hC hx
 unfold locPlace at hm
 split at hm
 ·rename_i he
  rw [he] at hr
  simp only [Option.some.injEq, Prod.mk.injEq] at hm
  obtain ⟨rfl, rfl⟩ := hm
  obtain ⟨_, T, o', x', b, h1, h2, _, h3⟩ := hr
  rw [hs] at h1; cases h1
  exact ⟨b, h2, h3⟩
 ·rename_i he
  rw [he] at hr
  cases y with
  | t k =>
    simp only [Od.slot, Option.map_some, Option.some.injEq, Prod.mk.injEq] at hm
    obtain ⟨rfl, rfl⟩ := hm
    obtain ⟨b, cur, e', ob', h1, _⟩ := hr
    refine ⟨b, by rw [← okOd_t hx a]; exact h1, ?_⟩
    rw [h1]; cases T0 <;> rfl
  | c T x => simp [Od.slot] at hm
  | nil e T => simp [Od.slot] at hm
  | fn f A C => simp [Od.slot] at hm
 ·exact absurd hm (by simp)
theorem st_load {t : TypeId} {T : Ty} {x : Operand} {y : Od} (hC : Conc P B G0 W0 n env a.tmps w ob) (hK : KOk P B G0 W0 n a K r next) (hd : ∀ k, o.dst = some k → k < n) (hdst : i.dst = o.dst)
  (ho : o.op = .load t x) (hi : i.op = .load T y) (hT : TyR P t T) (hx : okOd x y = true) (h : step cl i env K = some r) : o.wp P a w next Q := by
 unfold step at h; rw [hi] at h; simp only [hdst] at h
 have run : ∀ {b off : Nat} {vs : List Value}, a.eval x = .pointer (some ⟨b, off, none⟩) → vs.length = cellsN T → (∀ j u, vs[j]? = some u → w.cell? ⟨b, off + j, none⟩ = some u) → (execOp a.eval o).run P w = .ok (.value (asVal T vs)) w := by
  intro b off vs hv hl hc
  simp [execOp, ho, hv, Instr.loadAt, Instr.sureAddr, run_loadT hT w hl hc]
 have hr := ent_rep hC hx
 split at h
 ·rename_i T' x' he
  simp only [Option.bind_eq_some_iff] at h
  obtain ⟨y', hy', h⟩ := h
  have hz := cast?_some hy'
  rw [he] at hr
  cases hz
  obtain ⟨_, b, off, vs, h1, h2, h3⟩ := hr
  exact wp_value (run h1 (Flat.len P T h2) (fun j u hj => (h3 j u hj).1)) (fin0 hC hK hd (Grows.refl w) (v_rep h2) h)
 ·rename_i s p j q he
  simp only [Option.bind_eq_some_iff] at h
  obtain ⟨hh, hhe, h⟩ := h
  split at h
  case isFalse => simp at h
  rename_i hj
  split at h
  case isFalse => simp at h
  rename_i hpure
  simp only [Option.bind_eq_some_iff] at h
  obtain ⟨z, hz, y', hy', h⟩ := h
  have hzz := cast?_some hy'
  subst hzz
  rw [he] at hr
  obtain ⟨_, h', g, m, c, h1, h2, h3, h4, h5⟩ := hr
  rw [hhe] at h1; cases h1
  obtain ⟨cells, b2, hrow, hel, hob⟩ := held_row hC hhe h2
  obtain ⟨v1, v2, v3, c1, c2, c3, e1, e2, e3, e4, _⟩ := Elems.split (fun x v b hx => Flat.len P _ hx) j (zero hh.T) hel hj
  obtain ⟨u1, u2, u3, d1, d2, d3, f1, f2, f3, f4, _⟩ := Flat.lens P q hh.T e4 hz
  have hann : (annAt hh.o q).pure = true := by
   have : ∀ (q : Path) (o : Ann), o.pure = true → (annAt o q).pure = true := by
    intro q
    induction q with
    | nil => intro o h; exact h
    | cons st q ih => intro o h; cases st <;> simp only [annAt] <;> first | exact ih _ (Ann.pure_l h) | exact ih _ (Ann.pure_r h) | rfl
   exact this q _ hpure
  obtain ⟨_, f5⟩ := Flat.pure P T hann (o' := .no) rfl f4
  refine wp_value (run h5 (Flat.len P T f5) (fun k u hk => ?_)) (fin0 hC hK hd (Grows.refl w) (v_rep f5) h)
  have hcell := hrow.cells (g := g) rfl (j * cellsN hh.T + offT hh.T q + k) u ?_
  ·rw [add_off] at hcell; simpa [Nat.add_assoc] using hcell
  ·rw [e1, f1]
   have hk' := (List.getElem?_eq_some_iff.1 hk).1
   rw [List.append_assoc, List.getElem?_append_right (by omega), List.getElem?_append_left (by simp; omega), List.append_assoc, List.getElem?_append_right (by omega), List.getElem?_append_left (by omega)]
   rw [← hk]; congr 1; omega
 ·split at h
  ·rename_i s p hm
   split at h
   ·rename_i T0 oa x0 hs
    obtain ⟨b, hb1, hb2⟩ := locOf hC hx hm hs
    split at h
    ·rename_i wr' e' o' hann
     split at h
     ·rename_i T' xs hg
      split at h
      case isFalse => simp at h
      rename_i hTT
      subst hTT
      obtain ⟨b', cur, e'', v1, v2, v3, b1, b2, b3, k1, k2, k3, k4, k5, k6, k7, _⟩ := loc_part hC hs hg
      rw [hb1] at k1; cases k1
      have hv2 : v2.length = 1 := Flat.len P (.sl T') k7
      obtain ⟨u, rfl⟩ := List.length_eq_one_iff.1 hv2
      have hcell := cells_of_part k2 k4
      rw [k5] at hcell
      refine wp_value (run hb2 hv2 hcell) (fin0 (e := .ref s p) hC hK hd (Grows.refl w) ⟨rfl, ?_, ?_⟩ h)
      ·simp only [headAt, hs, hb1]
       have := hcell 0 u rfl
       rw [asVal_sl]
       simpa using this
      ·simp only [heldAt, hs, hann, hg]; rfl
     ·exact absurd h (by simp)
    ·rename_i bb hbb
     split at h
     case isFalse => simp at h
     rename_i hwh
     simp only [Option.bind_eq_some_iff] at h
     obtain ⟨z, hz, y', hy', h⟩ := h
     have hzz := cast?_some hy'
     subst hzz
     by_cases hp : (annAt oa p).pure = true
     ·rw [if_pos hp] at h
      obtain ⟨b', cur, e'', v1, v2, v3, b1, b2, b3, k1, k2, k3, k4, k5, k6, k7, _⟩ := loc_part hC hs hz
      rw [hb1] at k1; cases k1
      obtain ⟨_, k8⟩ := Flat.pure P T hp (o' := .no) rfl k7
      have hcell := cells_of_part k2 k4
      rw [k5] at hcell
      exact wp_value (run hb2 (Flat.len P T k8) hcell) (fin0 hC hK hd (Grows.refl w) (v_rep k8) h)
     ·rw [if_neg hp] at h
      obtain ⟨ob', hf, hC'⟩ := freeze_any hC s
      have hs' : look (freeze env s) s = .loc T0 oa.frz x0 := by unfold freeze; rw [hs]; simp only [look_cons, if_true]
      obtain ⟨b', cur, e'', v1, v2, v3, b1, b2, b3, k1, k2, k3, k4, k5, k6, k7, _⟩ := loc_part hC' hs' hz
      rw [hb1] at k1; cases k1
      rw [annAt_frz] at k7
      have k8 : Flat P T w (Gd B G0 ob') B .no y' v2 [] := Flat.shared P T hwh (rec_good hC' (s := s) (fun q hq => by rw [k6]; simp [hq])) (fun _ _ _ h => h) k7
      have hcell := cells_of_part k2 k4
      rw [k5] at hcell
      exact wp_value (run hb2 (Flat.len P T k8) hcell) (fin0 hC' hK hd (Grows.refl w) (v_rep k8) h)
   ·exact absurd h (by simp)
  ·exact absurd h (by simp)
theorem run_field {t : TypeId} {S A : Ty} {f : Nat} {b off : Nat} (hS : TyR P t S) {fs : Array Field} (hu : P.underlying t = some (.struct fs)) {fd : Field} (hf : fs[f]? = some fd) (hA : subT S (fpath f) = some A) (hz : cellsN A ≠ 0) :
  (Instr.fieldAt t (.pointer (some ⟨b, off, none⟩)) f).run P w = .ok (.pointer (some ⟨b, off + offT S (fpath f), none⟩)) w := by
 obtain ⟨A', h1, h2, h3⟩ := hS.struct hu hf
 rw [hA] at h1; cases h1
 simp [Instr.fieldAt, run_underlying hu, hf, Instr.sureAddr, fieldPlace, run_sizeT h2, hz, add_off, h3]
theorem st_fieldAddr {t : TypeId} {S A : Ty} {f : Nat} {x : Operand} {y : Od} {fs : Array Field} {fd : Field} (hC : Conc P B G0 W0 n env a.tmps w ob) (hK : KOk P B G0 W0 n a K r next) (hd : ∀ k, o.dst = some k → k < n) (hdst : i.dst = o.dst)
  (ho : o.op = .fieldAddr t x f) (hi : i.op = .fieldAddr S (fpath f) y) (hS : TyR P t S) (hu : P.underlying t = some (.struct fs)) (hf : fs[f]? = some fd) (hA : subT S (fpath f) = some A) (hz : cellsN A ≠ 0) (hx : okOd x y = true)
  (h : step cl i env K = some r) : o.wp P a w next Q := by
 unfold step at h; rw [hi] at h; simp only [hdst] at h
 have hr := ent_rep hC hx
 have run : ∀ {b off : Nat}, a.eval x = .pointer (some ⟨b, off, none⟩) → (execOp a.eval o).run P w = .ok (.value (.pointer (some ⟨b, off + offT S (fpath f), none⟩))) w := by
  intro b off hv
  simp [execOp, ho, hv, run_field (w := w) hS hu hf hA hz]
 split at h
 ·rename_i T x' he
  simp only [Option.bind_eq_some_iff] at h
  obtain ⟨x2, hx2, y2, hy2, h⟩ := h
  have := cast?_some hx2
  rw [he] at hr
  cases this
  obtain ⟨_, b, off, vs, h1, h2, h3⟩ := hr
  obtain ⟨v1, v2, v3, b1, b2, b3, e1, e2, e3, e4, _⟩ := Flat.lens P (fpath f) S h2 hy2
  have hnil : b2 = [] := by
   have : b1 ++ b2 ++ b3 = [] := e2.symm
   simp at this; exact this.2.1
  subst hnil
  rw [annAt_no] at e4
  refine wp_value (run h1) (fin0 (e := .at y2.1 y2.2) hC hK hd (Grows.refl w) ⟨rfl, b, off + offT S (fpath f), v2, rfl, e4, fun j u hj => ?_⟩ h)
  have := h3 (v1.length + j) u (by
   have hlt := (List.getElem?_eq_some_iff.1 hj).1
   rw [e1, List.append_assoc, List.getElem?_append_right (by omega), List.getElem?_append_left (by omega)]
   simpa using hj)
  rw [e3] at this
  rw [Nat.add_assoc]; exact this
 ·rename_i s q he
  split at h
  ·rename_i T0 oa x0 hs
   split at h
   case isFalse => simp at h
   rename_i hsub
   rw [he] at hr
   obtain ⟨_, T1, o1, x1, b, h1, h2, h3, h4⟩ := hr
   rw [hs] at h1; cases h1
   have hoff := offT_append q (fpath f) T0 hsub
   refine wp_value (run h4) (fin0 (e := .ptr s (q ++ fpath f)) hC hK hd (Grows.refl w) ⟨rfl, T0, oa, x0, b, hs, h2, ?_, ?_⟩ h)
   ·rw [hoff.2, hA]; rfl
   ·rw [hoff.1]
  ·exact absurd h (by simp)
 ·rename_i s q j rr he
  simp only [Option.bind_eq_some_iff] at h
  obtain ⟨hh, hhe, h⟩ := h
  split at h
  case isFalse => simp at h
  rename_i hsub
  rw [he] at hr
  obtain ⟨_, h', g, m, c, h1, h2, h3, h4, h5⟩ := hr
  rw [hhe] at h1; cases h1
  have hoff := offT_append rr (fpath f) hh.T hsub
  refine wp_value (run h5) (fin0 (e := .ptre s q j (rr ++ fpath f)) hC hK hd (Grows.refl w) ⟨rfl, hh, g, m, c, hhe, h2, h3, ?_, ?_⟩ h)
  ·rw [hoff.2, hA]; rfl
  ·rw [hoff.1, Nat.add_assoc]
 ·rename_i T0 oa x0 he
  split at h
  case isFalse => simp at h
  rename_i hTS
  subst hTS
  simp only [Option.bind_eq_some_iff] at h
  obtain ⟨k, hk, h⟩ := h
  cases y with
  | t k' =>
    simp only [Od.slot, Option.some.injEq] at hk; subst hk
    simp only [ent] at he
    rw [ent, he] at hr
    obtain ⟨b, cur, e, ob', h1, _⟩ := hr
    refine wp_value (run h1) (fin0 (e := .ptr k' (fpath f)) hC hK hd (Grows.refl w) ⟨rfl, T0, oa, x0, b, he, ?_, ?_, ?_⟩ h)
    ·rw [← okOd_t hx a]; exact h1
    ·rw [hA]; rfl
    ·simp
  | c T x => simp [Od.slot] at hk
  | nil e T => simp [Od.slot] at hk
  | fn f A C => simp [Od.slot] at hk
 ·exact absurd h (by simp)
theorem run_index {t e : TypeId} {T : Ty} (hu : P.underlying t = some (.slice e)) (hT : TyR P e T) {b off m c : Nat} {k : IntKind} {q : Int} (h0 : 0 ≤ q) (h1 : q < (m : Int)) :
  (Instr.indexAt t (.slice (some ⟨b, off, none⟩) m c) (.int k q)).run P w = .ok (.pointer (some ⟨b, off + q.toNat * cellsN T, none⟩)) w := by
 simp [Instr.indexAt, run_underlying hu, asIntOf, h0, h1, run_sizeT hT, add_off]
theorem st_indexAddr {t e : TypeId} {T : Ty} {x ix : Operand} {y iy : Od} (hC : Conc P B G0 W0 n env a.tmps w ob) (hK : KOk P B G0 W0 n a K r next) (hd : ∀ k, o.dst = some k → k < n) (hdst : i.dst = o.dst)
  (ho : o.op = .indexAddr t x ix) (hi : i.op = .indexAddr T y iy) (hu : P.underlying t = some (.slice e)) (hT : TyR P e T) (hx : okOd x y = true) (hix : okOd ix iy = true) (h : step cl i env K = some r) : o.wp P a w next Q := by
 unfold step at h; rw [hi] at h; simp only [hdst, Option.bind_eq_some_iff] at h
 obtain ⟨q, hq, h⟩ := h
 have hvi := int_rep hC hix hq
 have hr := ent_rep hC hx
 have run : ∀ {b off m c : Nat}, a.eval x = .slice (some ⟨b, off, none⟩) m c → 0 ≤ q.2 → q.2 < (m : Int) → (execOp a.eval o).run P w = .ok (.value (.pointer (some ⟨b, off + q.2.toNat * cellsN T, none⟩))) w := by
  intro b off m c hv h0 h1
  simp [execOp, ho, hv, hvi.1, run_index (w := w) hu hT h0 h1]
 have held : ∀ {s : Nat} {p : Path} {h' : Held} {v : Value}, heldAt env s p = some h' → headAt w a.tmps env s p = some v → a.eval x = v → h'.T = T → 0 ≤ q.2 → q.2 < (h'.xs.length : Int) → K (putO env o.dst (.ptre s p q.2.toNat [])) = some r → o.wp P a w next Q := by
  intro s p h' v hh hv hev hTT h0 h1 hk
  obtain ⟨cells, b2, hrow, _, _⟩ := held_row hC hh hv
  rcases hrow.2 with ⟨_, hn⟩ | ⟨g, cap, cur, _, _, rfl, _⟩
  ·omega
  ·refine wp_value (run hev h0 h1) (fin0 (e := .ptre s p q.2.toNat []) hC hK hd (Grows.refl w) ⟨rfl, h', g, _, cap, hh, hv, by omega, ?_, ?_⟩ hk)
   ·cases h'.T <;> rfl
   ·have : offT h'.T [] = 0 := by cases h'.T <;> rfl
    rw [this, hTT, Nat.zero_add, Nat.add_zero]
 split at h
 ·rename_i T' xs he
  simp only [Option.bind_eq_some_iff] at h
  obtain ⟨xs', hxs, h⟩ := h
  have := cast?_some hxs
  rw [he] at hr
  cases this
  split at h
  case isFalse => simp at h
  rename_i hb
  obtain ⟨_, vs, h1, h2⟩ := hr
  unfold Flat at h1
  obtain ⟨_, A, c, h3, h4, h5, h6⟩ := h1
  rcases h6 with h6 | ⟨b, off, cells, rfl, h7, h8⟩
  ·subst h6; exact absurd hb.2 (by simp; omega)
  ·subst h3
   obtain ⟨v1, v2, v3, c1, c2, c3, e1, e2, e3, e4, _⟩ := Elems.split (fun x v b hx => Flat.len P _ hx) q.2.toNat (zero T) h7 (by omega)
   have hnil : c2 = [] := by
    have : c1 ++ c2 ++ c3 = [] := e2.symm
    simp at this; exact this.2.1
   subst hnil
   refine wp_value (run h2 hb.1 hb.2) (fin0 (e := .at T (xs'.getD q.2.toNat (zero T))) hC hK hd (Grows.refl w) ⟨rfl, b, off + q.2.toNat * cellsN T, v2, rfl, e4, fun j u hj => ?_⟩ h)
   have hlt := (List.getElem?_eq_some_iff.1 hj).1
   have := h8 (v1.length + j) u (by
    rw [e1, List.append_assoc, List.getElem?_append_right (by omega), List.getElem?_append_left (by omega)]
    simpa using hj)
   rw [e3] at this
   rw [Nat.add_assoc]
   exact ⟨this.1, .inr this.2⟩
 ·rename_i wr e' T' o' xs he
  split at h
  case isFalse => simp at h
  rename_i hTT
  simp only [Option.bind_eq_some_iff] at h
  obtain ⟨s, hs, h⟩ := h
  split at h
  case isFalse => simp at h
  rename_i hb
  cases y with
  | t k =>
    simp only [Od.slot, Option.some.injEq] at hs; subst hs
    simp only [ent] at he
    exact held (s := k) (p := []) (h' := ⟨wr, e', T', o', xs⟩) (by simp [heldAt, he]) (by simp [headAt, he]) (okOd_t hx a) hTT hb.1 hb.2 h
  | c T x => simp [Od.slot] at hs
  | nil e T => simp [Od.slot] at hs
  | fn f A C => simp [Od.slot] at hs
 ·rename_i s p he
  simp only [Option.bind_eq_some_iff] at h
  obtain ⟨hh, hhe, h⟩ := h
  split at h
  case isFalse => simp at h
  rename_i hTT
  split at h
  case isFalse => simp at h
  rename_i hb
  rw [he] at hr
  exact held hhe hr.2.1 rfl hTT hb.1 hb.2 h
 ·exact absurd h (by simp)
end
end Go.Fw
/- Soundness, part 11: lengths, elements, comparisons, several results, function literals. -/
namespace Go.Fw
open Go Go.RowKit
theorem Elems.drop_take {α : Type} {R : α → List Value → OB → Prop} {n : Nat} (hl : ∀ x v b, R x v b → v.length = n) : ∀ {xs : List α} {vs : List Value} (l m : Nat), Elems R xs vs [] → Elems R ((xs.drop l).take m) ((vs.drop (l * n)).take (m * n)) []
 | [], vs, l, m, h => by obtain ⟨rfl, _⟩ := h; simp; exact ⟨rfl, rfl⟩
 | x :: xs, vs, 0, 0, h => by simp; exact ⟨rfl, rfl⟩
 | x :: xs, vs, 0, m + 1, h => by
   obtain ⟨u1, u2, c1, c2, rfl, hc, hr, ht⟩ := h
   have hc' : c1 = [] ∧ c2 = [] := by simpa using hc.symm
   obtain ⟨rfl, rfl⟩ := hc'
   have ih := Elems.drop_take hl 0 m ht
   have hu := hl _ _ _ hr
   simp only [Nat.zero_mul, List.drop_zero, List.take_succ_cons] at ih ⊢
   have : (u1 ++ u2).take ((m + 1) * n) = u1 ++ u2.take (m * n) := by
    rw [List.take_append, List.take_of_length_le (by rw [hu, Nat.succ_mul]; omega), hu, Nat.succ_mul]
    congr 2; omega
   rw [this]
   exact ⟨u1, _, [], [], rfl, rfl, hr, ih⟩
 | x :: xs, vs, l + 1, m, h => by
   obtain ⟨u1, u2, c1, c2, rfl, hc, hr, ht⟩ := h
   have hc' : c1 = [] ∧ c2 = [] := by simpa using hc.symm
   obtain ⟨rfl, rfl⟩ := hc'
   have ih := Elems.drop_take hl l m ht
   have hu := hl _ _ _ hr
   have : (u1 ++ u2).drop ((l + 1) * n) = u2.drop (l * n) := by
    rw [List.drop_append, List.drop_eq_nil_of_le (by rw [hu, Nat.succ_mul]; omega), hu, Nat.succ_mul]
    simp
   rw [this]
   exact ih
theorem TupRep.split {Rr : E → Value → OB → Prop} : ∀ {es : List E} {vs : List Value} {ob : OB} {j : Nat} {e : E}, TupRep Rr es vs ob → es[j]? = some e →
  ∃ v b1 b2 b3, vs[j]? = some v ∧ ob = b1 ++ b2 ++ b3 ∧ Rr e v b2 ∧ ∀ e', Rr e' v [] → TupRep Rr (es.set j e') vs (b1 ++ b3)
 | [], _, _, _, _, _, h => by simp at h
 | f :: es, _, _, 0, e, h, he => by
   obtain ⟨v, r, b1, b2, rfl, rfl, h1, h2⟩ := h
   simp only [List.getElem?_cons_zero, Option.some.injEq] at he; subst he
   exact ⟨v, [], b1, b2, rfl, rfl, h1, fun e' h' => ⟨v, r, [], b2, rfl, rfl, h', h2⟩⟩
 | f :: es, _, _, j + 1, e, h, he => by
   obtain ⟨v, r, b1, b2, rfl, rfl, h1, h2⟩ := h
   simp only [List.getElem?_cons_succ] at he
   obtain ⟨u, c1, c2, c3, k1, rfl, k3, k4⟩ := TupRep.split h2 he
   exact ⟨u, b1 ++ c1, c2, c3, by simpa using k1, by simp, k3, fun e' h' => ⟨v, r, b1, c1 ++ c3, rfl, by simp, h1, k4 e' h'⟩⟩
section
variable {P : Program} {B : Nat} {G0 : Nat → Nat → Prop} {W0 : World} {n : Nat} {env : Env} {a : Act} {w : World} {ob : Nat → OB}
variable {R : Type} {K : Kont R} {r : R} {next : Act → World → Prop} {Q : Exit → Act → World → Prop} {o : Oper} {i : AI} {cl : Cal}
theorem st_lenS {t : TypeId} {x : Operand} {y : Od} (hC : Conc P B G0 W0 n env a.tmps w ob) (hK : KOk P B G0 W0 n a K r next) (hd : ∀ k, o.dst = some k → k < n) (hdst : i.dst = o.dst)
  (ho : o.op = .call { callee := .builtin .len, args := #[x], argTypes := #[t] }) (hi : i.op = .lenS y) (ht : TyR P t .str) (hx : okOd x y = true) (h : step cl i env K = some r) : o.wp P a w next Q := by
 unfold step at h; rw [hi] at h; simp only [hdst, Option.bind_eq_some_iff] at h
 obtain ⟨s, hs, h⟩ := h
 have hv := str_rep hC hx hs
 refine wp_value (v := .int .i64 (s.length : Int)) (w' := w) ?_ (fin0 hC hK hd (Grows.refl w) (v_int _ _ (inR_len hv.2)) h)
 have hsz : (⟨⟨s⟩⟩ : ByteArray).size = s.length := rfl
 simp [execOp, ho, resolve, invoke, builtin, Builtin.len_, run_underlying ht.str, hv.1, goInt, hsz]
theorem st_lenL {t e : TypeId} {x : Operand} {y : Od} (hC : Conc P B G0 W0 n env a.tmps w ob) (hK : KOk P B G0 W0 n a K r next) (hd : ∀ k, o.dst = some k → k < n) (hdst : i.dst = o.dst)
  (ho : o.op = .call { callee := .builtin .len, args := #[x], argTypes := #[t] }) (hi : i.op = .lenL y) (ht : P.underlying t = some (.slice e)) (hx : okOd x y = true) (h : step cl i env K = some r) : o.wp P a w next Q := by
 unfold step at h; rw [hi] at h; simp only [hdst, Option.bind_eq_some_iff] at h
 obtain ⟨z, hz, h⟩ := h
 obtain ⟨vs, hv, hF⟩ := imm_rep hC hx hz
 split at h
 ·rename_i T xs
  unfold Flat at hF
  obtain ⟨_, A, c, rfl, hc, hm, _⟩ := hF
  refine wp_value (v := .int .i64 (xs.length : Int)) (w' := w) ?_ (fin0 hC hK hd (Grows.refl w) (v_int _ _ (inR_len (Nat.le_trans hc hm))) h)
  rw [asVal_sl] at hv
  simp [execOp, ho, resolve, invoke, builtin, Builtin.len_, run_underlying ht, hv, goInt]
 ·exact absurd h (by simp)
theorem st_lenA {t e : TypeId} {m : Nat} {x : Operand} (hC : Conc P B G0 W0 n env a.tmps w ob) (hK : KOk P B G0 W0 n a K r next) (hd : ∀ k, o.dst = some k → k < n) (hdst : i.dst = o.dst)
  (ho : o.op = .call { callee := .builtin .len, args := #[x], argTypes := #[t] }) (hi : i.op = .lenA m) (ht : P.underlying t = some (.array m e)) (hm : m ≤ maxLen) (h : step cl i env K = some r) : o.wp P a w next Q := by
 unfold step at h; rw [hi] at h; simp only [hdst] at h
 refine wp_value (v := .int .i64 (m : Int)) (w' := w) ?_ (fin0 hC hK hd (Grows.refl w) (v_int _ _ (inR_len hm)) h)
 simp [execOp, ho, resolve, invoke, builtin, Builtin.len_, run_underlying ht, goInt]
theorem st_mm {ts : Array TypeId} {mx : Bool} {x y : Operand} {x' y' : Od} (hC : Conc P B G0 W0 n env a.tmps w ob) (hK : KOk P B G0 W0 n a K r next) (hd : ∀ k, o.dst = some k → k < n) (hdst : i.dst = o.dst)
  (ho : o.op = .call { callee := .builtin (if mx then .max else .min), args := #[x, y], argTypes := ts }) (hi : i.op = .mm mx x' y') (hx : okOd x x' = true) (hy : okOd y y' = true) (h : step cl i env K = some r) : o.wp P a w next Q := by
 unfold step at h; rw [hi] at h; simp only [hdst] at h
 split at h
 ·rename_i k m k' q hex hey
  split at h
  case isFalse => simp at h
  rename_i hkk
  subst hkk
  have hvx := int_rep' hC hx hex
  have hvy := int_rep' hC hy hey
  cases mx with
  | true =>
    simp only [if_true] at h ho
    refine wp_value (v := .int k (if q > m then q else m)) (w' := w) ?_ (fin0 hC hK hd (Grows.refl w) (v_int _ _ ?_) h)
    ·simp [execOp, ho, resolve, invoke, builtin, Builtin.max_, Builtin.max2, hvx.1, hvy.1]
    ·split
     ·exact hvy.2
     ·exact hvx.2
  | false =>
    simp only [Bool.false_eq_true, if_false] at h ho
    refine wp_value (v := .int k (if q < m then q else m)) (w' := w) ?_ (fin0 hC hK hd (Grows.refl w) (v_int _ _ ?_) h)
    ·simp [execOp, ho, resolve, invoke, builtin, Builtin.min_, Builtin.min2, hvx.1, hvy.1]
    ·split
     ·exact hvy.2
     ·exact hvx.2
 ·exact absurd h (by simp)
theorem st_indexS {t : TypeId} {x ix : Operand} {y iy : Od} (hC : Conc P B G0 W0 n env a.tmps w ob) (hK : KOk P B G0 W0 n a K r next) (hd : ∀ k, o.dst = some k → k < n) (hdst : i.dst = o.dst)
  (ho : o.op = .index t x ix) (hi : i.op = .indexS y iy) (ht : TyR P t .str) (hx : okOd x y = true) (hix : okOd ix iy = true) (h : step cl i env K = some r) : o.wp P a w next Q := by
 unfold step at h; rw [hi] at h; simp only [hdst, Option.bind_eq_some_iff] at h
 obtain ⟨q, hq, s, hs, h⟩ := h
 split at h
 case isFalse => simp at h
 rename_i hb
 have hvi := int_rep hC hix hq
 have hv := str_rep hC hx hs
 have hlt : q.2.toNat < s.length := by omega
 have hget : (⟨⟨s⟩⟩ : ByteArray)[q.2.toNat]? = some (s.getD q.2.toNat 0) := by
  have hsz : q.2.toNat < (⟨⟨s⟩⟩ : ByteArray).size := hlt
  rw [getElem?_pos (⟨⟨s⟩⟩ : ByteArray) q.2.toNat hsz]
  congr 1
  rw [List.getD_eq_getElem?_getD, List.getElem?_eq_getElem hlt]
  rfl
 refine wp_value (v := .int .u8 ((s.getD q.2.toNat 0).toNat : Int)) (w' := w) ?_ (fin0 hC hK hd (Grows.refl w) (v_int _ _ ?_) h)
 ·simp only [execOp, ho, Instr.index, hvi.1, hv.1, asIntOf, Sem.run_bind, Sem.run_pure, Result.andThen_ok, run_underlying ht.str, hb.1, if_true, hget]
 ·have := (s.getD q.2.toNat 0).toNat_lt
  constructor
  ·show (0 : Int) ≤ _; omega
  ·show _ ≤ (255 : Int); omega
theorem st_indexArr {t e : TypeId} {m : Nat} {T : Ty} {x ix : Operand} {y iy : Od} (hC : Conc P B G0 W0 n env a.tmps w ob) (hK : KOk P B G0 W0 n a K r next) (hd : ∀ k, o.dst = some k → k < n) (hdst : i.dst = o.dst)
  (ho : o.op = .indexAddr t x ix) (hi : i.op = .indexArr m T y iy) (hu : P.underlying t = some (.array m e)) (hT : TyR P e T) (hx : okOd x y = true) (hix : okOd ix iy = true) (h : step cl i env K = some r) : o.wp P a w next Q := by
 unfold step at h; rw [hi] at h; simp only [hdst, Option.bind_eq_some_iff] at h
 obtain ⟨q, hq, h⟩ := h
 have hvi := int_rep hC hix hq
 have hr := ent_rep hC hx
 have run : ∀ {b off : Nat}, a.eval x = .pointer (some ⟨b, off, none⟩) → 0 ≤ q.2 → q.2 < (m : Int) → (execOp a.eval o).run P w = .ok (.value (.pointer (some ⟨b, off + q.2.toNat * cellsN T, none⟩))) w := by
  intro b off hv h0 h1
  simp [execOp, ho, hv, hvi.1, Instr.indexAt, run_underlying hu, Instr.sureAddr, asIntOf, h0, h1, run_sizeT hT, add_off]
 split at h
 ·rename_i T' xs he
  simp only [Option.bind_eq_some_iff] at h
  obtain ⟨xs', hxs, h⟩ := h
  have := cast?_some hxs
  rw [he] at hr
  cases this
  split at h
  case isFalse => simp at h
  rename_i hb
  obtain ⟨_, b, off, vs, h1, h2, h3⟩ := hr
  unfold Flat at h2
  obtain ⟨hlen, h2⟩ := h2
  obtain ⟨v1, v2, v3, c1, c2, c3, e1, e2, e3, e4, _⟩ := Elems.split (fun x v b hx => Flat.len P _ hx) q.2.toNat (zero T) h2 (by omega)
  have hnil : c2 = [] := by
   have : c1 ++ c2 ++ c3 = [] := e2.symm
   simp at this; exact this.2.1
  subst hnil
  refine wp_value (run h1 hb.1 hb.2) (fin0 (e := .at T (xs'.getD q.2.toNat (zero T))) hC hK hd (Grows.refl w) ⟨rfl, b, off + q.2.toNat * cellsN T, v2, rfl, e4, fun j u hj => ?_⟩ h)
  have hlt := (List.getElem?_eq_some_iff.1 hj).1
  have := h3 (v1.length + j) u (by
   rw [e1, List.append_assoc, List.getElem?_append_right (by omega), List.getElem?_append_left (by omega)]
   simpa using hj)
  rw [e3] at this
  rw [Nat.add_assoc]
  exact this
 ·split at h
  ·rename_i s p hm
   split at h
   ·rename_i T0 oa x0 hs
    split at h
    case isFalse => simp at h
    rename_i hsub
    split at h
    case isFalse => simp at h
    rename_i hb
    obtain ⟨b, hb1, hb2⟩ := locOf hC hx hm hs
    have hoff := offT_append p [.ix q.2.toNat] T0 hsub
    have hO0 : offT T [] = 0 := by cases T <;> rfl
    refine wp_value (run hb2 hb.1 hb.2) (fin0 (e := .ptr s (p ++ [.ix q.2.toNat])) hC hK hd (Grows.refl w) ⟨rfl, T0, oa, x0, b, hs, hb1, ?_, ?_⟩ h)
    ·rw [hoff.2]
     simp only [subT]
     rw [if_pos (by omega)]; rfl
    ·rw [hoff.1]
     simp only [offT, hO0, Nat.add_zero]
   ·exact absurd h (by simp)
  ·exact absurd h (by simp)
def okOdO : Option Operand → Option Od → Bool
 | none, none => true
 | some u, some v => okOd u v
 | _, _ => false
theorem optInt_rep (hC : Conc P B G0 W0 n env a.tmps w ob) {u : Option Operand} {v : Option Od} {z : Option Int} (hu : okOdO u v = true) (h : optInt env v = some z) :
  (u = none ∧ z = none) ∨ (∃ x k m, u = some x ∧ z = some m ∧ a.eval x = .int k m) := by
 cases u with
 | none =>
   cases v with
   | none => simp only [optInt, Option.some.injEq] at h; exact .inl ⟨rfl, h.symm⟩
   | some v => simp [okOdO] at hu
 | some u =>
   cases v with
   | none => simp [okOdO] at hu
   | some v =>
     simp only [optInt, Option.bind_eq_some_iff, Option.some.injEq] at h
     obtain ⟨q, hq, rfl⟩ := h
     exact .inr ⟨u, q.1, q.2, rfl, rfl, (int_rep hC hu hq).1⟩
theorem st_sliceS {t : TypeId} {x : Operand} {y : Od} {lo hi' : Option Operand} {lo' hi'' : Option Od} (hC : Conc P B G0 W0 n env a.tmps w ob) (hK : KOk P B G0 W0 n a K r next) (hd : ∀ k, o.dst = some k → k < n) (hdst : i.dst = o.dst)
  (ho : o.op = .slice t x lo hi' none) (hi : i.op = .sliceS y lo' hi'') (ht : TyR P t .str) (hx : okOd x y = true) (hlo : okOdO lo lo' = true) (hhi : okOdO hi' hi'' = true)
  (h : step cl i env K = some r) : o.wp P a w next Q := by
 unfold step at h; rw [hi] at h; simp only [hdst, Option.bind_eq_some_iff] at h
 obtain ⟨l, hl, m, hm, s, hs, h⟩ := h
 split at h
 case isFalse => simp at h
 rename_i hb
 have hv := str_rep hC hx hs
 have hres : (⟨⟨s⟩⟩ : ByteArray).extract (l.getD 0).toNat (m.getD (s.length : Int)).toNat = ⟨⟨(s.drop (l.getD 0).toNat).take ((m.getD (s.length : Int)).toNat - (l.getD 0).toNat)⟩⟩ := ByteArray.extract_mk s _ _
 refine wp_value (v := .string ⟨⟨(s.drop (l.getD 0).toNat).take ((m.getD (s.length : Int)).toNat - (l.getD 0).toNat)⟩⟩) (w' := w) ?_ (fin0 hC hK hd (Grows.refl w) (v_str _ _ ?_) h)
 ·rw [← hres]
  have hsz : (⟨⟨s⟩⟩ : ByteArray).size = s.length := rfl
  rcases optInt_rep hC hlo hl with ⟨rfl, rfl⟩ | ⟨u, ku, zu, rfl, rfl, hu⟩ <;> rcases optInt_rep hC hhi hm with ⟨rfl, rfl⟩ | ⟨v, kv, zv, rfl, rfl, hvv⟩ <;> simp only [Option.getD_some, Option.getD_none] at hb
  ·have hfull : (⟨⟨s⟩⟩ : ByteArray).extract 0 s.length = ⟨⟨s⟩⟩ := by
    have := ByteArray.extract_mk s 0 s.length
    rw [List.drop_zero, Nat.sub_zero, List.take_length] at this
    exact this
   simp [execOp, ho, hv.1, Instr.sliceAt, Instr.slice, run_underlying ht.str, Instr.sliceBounds, hsz, hfull]
  ·have hb2 : zv ≤ ((⟨⟨s⟩⟩ : ByteArray).size : Int) := by rw [hsz]; exact hb.2.2
   simp [execOp, ho, hv.1, Instr.sliceAt, Instr.slice, run_underlying ht.str, Instr.sliceBounds, hvv, run_sliceBound w kv zv _ .sliceAlen hb.2.1 hb2]
  ·simp [execOp, ho, hv.1, Instr.sliceAt, Instr.slice, run_underlying ht.str, Instr.sliceBounds, hu, run_sliceBound w ku zu s.length .sliceB hb.1 hb.2.1, hsz]
  ·have hb2 : zv ≤ ((⟨⟨s⟩⟩ : ByteArray).size : Int) := by rw [hsz]; exact hb.2.2
   have hb3 : zu ≤ ((zv.toNat : Nat) : Int) := by omega
   simp [execOp, ho, hv.1, Instr.sliceAt, Instr.slice, run_underlying ht.str, Instr.sliceBounds, hvv, hu, run_sliceBound w kv zv _ .sliceAlen (by omega) hb2, run_sliceBound w ku zu _ .sliceB hb.1 hb3]
 ·have h2 : ((s.drop (l.getD 0).toNat).take ((m.getD (s.length : Int)).toNat - (l.getD 0).toNat)).length ≤ s.length := by
   rw [List.length_take, List.length_drop]; omega
  have := hv.2
  omega
end
end Go.Fw
/- Soundness, part 12: slices of slices, parts of values, several results, function literals. -/
namespace Go.Fw
open Go Go.RowKit
section
variable {P : Program} {B : Nat} {G0 : Nat → Nat → Prop} {W0 : World} {n : Nat} {env : Env} {a : Act} {w : World} {ob : Nat → OB}
variable {R : Type} {K : Kont R} {r : R} {next : Act → World → Prop} {Q : Exit → Act → World → Prop} {o : Oper} {i : AI} {cl : Cal}
def okOds : List Operand → List Od → Bool
 | [], [] => true
 | u :: us, y :: ys => okOd u y && okOds us ys
 | _, _ => false
theorem slice_part {T : Ty} {G : Nat → Nat → Prop} {xs : List (den T)} {A : Option Addr} {c l h m : Nat} (hF : Flat P (.sl T) w G B .no xs [.slice A xs.length c] []) (h1 : l ≤ h) (h2 : h ≤ m) (h3 : m ≤ c) (h4 : h ≤ xs.length) :
  Flat P (.sl T) w G B .no ((xs.drop l).take (h - l)) [.slice (if m = l then A else A.map (·.add (l * cellsN T))) (h - l) (m - l)] [] := by
 unfold Flat at hF ⊢
 obtain ⟨_, A', c', e1, hc, hm, hx⟩ := hF
 simp only [List.cons.injEq, Value.slice.injEq, and_true] at e1
 obtain ⟨rfl, _, rfl⟩ := e1
 have hlen : ((xs.drop l).take (h - l)).length = h - l := by rw [List.length_take, List.length_drop]; omega
 refine ⟨rfl, _, m - l, by rw [hlen], by rw [hlen]; omega, by omega, ?_⟩
 by_cases hml : m = l
 ·left
  have : h - l = 0 := by omega
  rw [this]; rfl
 ·rw [if_neg hml]
  rcases hx with rfl | ⟨b, off, cells, rfl, hE, hcell⟩
  ·left; simp
  ·right
   refine ⟨b, off + l * cellsN T, _, by simp [add_off], Elems.drop_take (fun x v b hx => Flat.len P _ hx) l (h - l) hE, fun j v hj => ?_⟩
   have hj' := (List.getElem?_eq_some_iff.1 hj).1
   rw [List.length_take, List.length_drop] at hj'
   rw [List.getElem?_take_of_lt (by omega), List.getElem?_drop] at hj
   have := hcell _ v hj
   rw [Nat.add_assoc]
   exact this
theorem st_sliceL {t e : TypeId} {T : Ty} {x : Operand} {y : Od} {lo hi' mx : Option Operand} {lo' hi'' mx' : Option Od} (hC : Conc P B G0 W0 n env a.tmps w ob) (hK : KOk P B G0 W0 n a K r next) (hd : ∀ k, o.dst = some k → k < n) (hdst : i.dst = o.dst)
  (ho : o.op = .slice t x lo hi' mx) (hi : i.op = .sliceL T y lo' hi'' mx') (hu : P.underlying t = some (.slice e)) (hT : TyR P e T) (hx : okOd x y = true) (hlo : okOdO lo lo' = true) (hhi : okOdO hi' hi'' = true) (hmx : okOdO mx mx' = true) (hhm : mx.isSome = true → hi'.isSome = true)
  (h : step cl i env K = some r) : o.wp P a w next Q := by
 unfold step at h; rw [hi] at h; simp only [hdst, Option.bind_eq_some_iff] at h
 obtain ⟨l, hl, m, hm, q, hq, ⟨env', z⟩, hz, xs, hxs, h⟩ := h
 obtain ⟨ob', hf, hC', vs, hv, hF⟩ := pub_rep hC hx hz
 have hzz := cast?_some hxs
 simp only at hzz; subst hzz
 replace hF : Flat P (.sl T) w (Gd B G0 ob') B .no xs vs [] := hF
 replace hv : a.eval x = asVal (.sl T) vs := hv
 split at h
 case isFalse => simp at h
 rename_i hb
 have hF' := hF
 unfold Flat at hF'
 obtain ⟨_, A, c, rfl, hc, hcm, _⟩ := hF'
 rw [asVal_sl] at hv
 have fin : ∀ (mm : Nat), mm ≤ c → (m.getD (xs.length : Int)).toNat ≤ mm →
   (Instr.sliceBounds true xs.length c (lo.map a.eval) (hi'.map a.eval) (mx.map a.eval)).run P w = .ok ((l.getD 0).toNat, (m.getD (xs.length : Int)).toNat, mm) w → o.wp P a w next Q := by
  intro mm hmm hmh hrun
  refine wp_value (w' := w) (v := .slice (if mm = (l.getD 0).toNat then A else A.map (·.add ((l.getD 0).toNat * cellsN T))) ((m.getD (xs.length : Int)).toNat - (l.getD 0).toNat) (mm - (l.getD 0).toNat)) ?_
   (fin0 (e := .v (.sl T) _) hC' hK hd (Grows.refl w) (v_rep (slice_part (m := mm) hF (by omega) hmh hmm (by omega))) h)
  simp [execOp, ho, hv, Instr.sliceAt, Instr.slice, run_underlying hu, hrun, run_sizeT hT]
 rcases optInt_rep hC hmx hq with ⟨rfl, rfl⟩ | ⟨um, km, zm, rfl, rfl, hum⟩
 ·rcases optInt_rep hC hlo hl with ⟨rfl, rfl⟩ | ⟨u, ku, zu, rfl, rfl, hu'⟩ <;> rcases optInt_rep hC hhi hm with ⟨rfl, rfl⟩ | ⟨v, kv, zv, rfl, rfl, hvv⟩ <;> simp only [Option.getD_some, Option.getD_none] at hb fin
  ·refine fin c (Nat.le_refl _) (by omega) ?_
   simp [Instr.sliceBounds]
  ·refine fin c (Nat.le_refl _) (by omega) ?_
   simp [Instr.sliceBounds, hvv, run_sliceBound w kv zv c .sliceAcap (by omega) (by omega)]
  ·refine fin c (Nat.le_refl _) (by omega) ?_
   simp [Instr.sliceBounds, hu', run_sliceBound w ku zu xs.length .sliceB (by omega) (by omega)]
  ·refine fin c (Nat.le_refl _) (by omega) ?_
   simp [Instr.sliceBounds, hvv, hu', run_sliceBound w kv zv c .sliceAcap (by omega) (by omega), run_sliceBound w ku zu zv.toNat .sliceB (by omega) (by omega)]
 ·rcases optInt_rep hC hhi hm with ⟨rfl, rfl⟩ | ⟨v, kv, zv, rfl, rfl, hvv⟩
  ·exact absurd (hhm rfl) (by simp)
  ·rcases optInt_rep hC hlo hl with ⟨rfl, rfl⟩ | ⟨u, ku, zu, rfl, rfl, hu'⟩ <;> simp only [Option.getD_some, Option.getD_none] at hb fin
   ·refine fin zm.toNat (by omega) (by omega) ?_
    simp [Instr.sliceBounds, hum, hvv, run_sliceBound w km zm c .slice3Acap (by omega) (by omega), run_sliceBound w kv zv zm.toNat .slice3B (by omega) (by omega)]
   ·refine fin zm.toNat (by omega) (by omega) ?_
    simp [Instr.sliceBounds, hum, hvv, hu', run_sliceBound w km zm c .slice3Acap (by omega) (by omega), run_sliceBound w kv zv zm.toNat .slice3B (by omega) (by omega), run_sliceBound w ku zu zv.toNat .slice3C (by omega) (by omega)]
theorem run_partT {t : TypeId} {T : Ty} (h : TyR P t T) (w : World) {v1 v2 v3 : List Value} (hl : v2.length = cellsN T) : (part t (v1 ++ v2 ++ v3).toArray v1.length).run P w = .ok (asVal T v2) w := by
 unfold part asVal
 simp only [Sem.run_bind, run_isAggT h, Result.andThen_ok]
 by_cases ha : isAggT T = true
 ·rw [if_pos ha, if_pos ha]
  simp only [Sem.run_bind, run_sizeT h, Result.andThen_ok, Sem.run_pure]
  congr 2
  apply Array.ext'
  simp [← hl]
 ·rw [if_neg ha, if_neg ha]
  have h1 : v2.length = 1 := by rw [hl]; cases T <;> simp_all [isAggT, cellsN]
  obtain ⟨u, rfl⟩ := List.length_eq_one_iff.1 h1
  simp
theorem asVal_agg {T : Ty} (h : isAggT T = true) (vs : List Value) : asVal T vs = .agg vs.toArray := by unfold asVal; rw [if_pos h]
theorem st_indexA {t e : TypeId} {m : Nat} {T : Ty} {x ix : Operand} {y iy : Od} (hC : Conc P B G0 W0 n env a.tmps w ob) (hK : KOk P B G0 W0 n a K r next) (hd : ∀ k, o.dst = some k → k < n) (hdst : i.dst = o.dst)
  (ho : o.op = .index t x ix) (hi : i.op = .indexA m T y iy) (hu : P.underlying t = some (.array m e)) (hT : TyR P e T) (hx : okOd x y = true) (hix : okOd ix iy = true) (h : step cl i env K = some r) : o.wp P a w next Q := by
 unfold step at h; rw [hi] at h; simp only [hdst, Option.bind_eq_some_iff] at h
 obtain ⟨q, hq, h⟩ := h
 have hvi := int_rep hC hix hq
 have hr := ent_rep hC hx
 split at h
 ·rename_i T' xs he
  simp only [Option.bind_eq_some_iff] at h
  obtain ⟨xs', hxs, h⟩ := h
  have := cast?_some hxs
  rw [he] at hr
  cases this
  split at h
  case isFalse => simp at h
  rename_i hb
  obtain ⟨_, vs, h1, h2⟩ := hr
  unfold Flat at h1
  obtain ⟨hlen, h1⟩ := h1
  obtain ⟨v1, v2, v3, c1, c2, c3, e1, e2, e3, e4, _⟩ := Elems.split (fun x v b hx => Flat.len P _ hx) q.2.toNat (zero T) h1 (by omega)
  have hnil : c2 = [] := by
   have : c1 ++ c2 ++ c3 = [] := e2.symm
   simp at this; exact this.2.1
  subst hnil
  rw [asVal_agg rfl, e1] at h2
  refine wp_value (v := asVal T v2) (w' := w) ?_ (fin0 hC hK hd (Grows.refl w) (v_rep e4) h)
  have hp := run_partT hT w (v1 := v1) (v3 := v3) (Flat.len P T e4)
  rw [e3, List.append_assoc] at hp
  simp [execOp, ho, h2, hvi.1, Instr.index, asIntOf, run_underlying hu, hb.1, hb.2, run_sizeT hT, hp]
 ·exact absurd h (by simp)
theorem st_field {t : TypeId} {S A : Ty} {f : Nat} {x : Operand} {y : Od} {fs : Array Field} {fd : Field} (hC : Conc P B G0 W0 n env a.tmps w ob) (hK : KOk P B G0 W0 n a K r next) (hd : ∀ k, o.dst = some k → k < n) (hdst : i.dst = o.dst)
  (ho : o.op = .field t x f) (hi : i.op = .field S (fpath f) y) (hS : TyR P t S) (hu : P.underlying t = some (.struct fs)) (hf : fs[f]? = some fd) (hsc : scalarT S = true) (hx : okOd x y = true)
  (h : step cl i env K = some r) : o.wp P a w next Q := by
 unfold step at h; rw [hi] at h; simp only [hdst, Option.bind_eq_some_iff] at h
 obtain ⟨z, hz, s, hs, u, hu', h⟩ := h
 have hr := ent_rep hC hx
 have hzz := cast?_some hs
 subst hzz
 obtain ⟨A', h1, h2, h3⟩ := hS.struct hu hf
 have hSagg : isAggT S = true := by
  obtain ⟨d, hd1, hd2⟩ := hS.agg
  rw [hu] at hd1; cases hd1; exact hd2.symm
 unfold imm at hz
 split at hz
 ·rename_i T x' he
  simp only [Option.some.injEq] at hz
  rw [he] at hr
  cases hz
  obtain ⟨_, vs, k1, k2⟩ := hr
  obtain ⟨v1, v2, v3, b1, b2, b3, e1, e2, e3, e4, _⟩ := Flat.lens P (fpath f) S k1 hu'
  have hnil : b2 = [] := by
   have : b1 ++ b2 ++ b3 = [] := e2.symm
   simp at this; exact this.2.1
  subst hnil
  rw [annAt_no] at e4
  have hsub := getP_subT (fpath f) S k1 hu'
  rw [h1] at hsub
  simp only [Option.some.injEq] at hsub
  rw [asVal_agg hSagg, e1] at k2
  refine wp_value (v := asVal u.1 v2) (w' := w) ?_ (fin0 hC hK hd (Grows.refl w) (v_rep e4) h)
  have hp := run_partT (hsub ▸ h2) w (v1 := v1) (v3 := v3) (Flat.len P u.1 e4)
  rw [e3, h3, List.append_assoc] at hp
  simp [execOp, ho, k2, Instr.field, run_underlying hu, hf, asAgg, hp]
 ·split at hz
  ·simp only [Option.some.injEq] at hz; cases hz; simp [isAggT] at hSagg
  ·exact absurd hz (by simp)
 ·simp only [Option.bind_eq_some_iff] at hz
  obtain ⟨hh, _, hz⟩ := hz
  split at hz
  ·simp only [Option.some.injEq] at hz; cases hz; simp [isAggT] at hSagg
  ·exact absurd hz (by simp)
 ·exact absurd hz (by simp)
theorem Conc.part {k d : Nat} {tm : Array Value} (hC : Conc P B G0 W0 n env tm w ob) (hkd : d ≠ k) (hd : d < n) {b1 b2 b3 : OB} (hob : ob k = b1 ++ b2 ++ b3) {ek ed : E} {v : Value} {env' : Env} {ob' : Nat → OB}
  (hob' : ob' = fun s => if s = d then b2 else if s = k then b1 ++ b3 else ob s) (hlook : ∀ s, look env' s = if s = d then ed else if s = k then ek else if (look env d).home = true ∧ leads d (look env s) = true then .dead else look env s)
  (hnh : (look env k).home = false) (hk : (∀ b i, Gd B G0 ob b i → Gd B G0 ob' b i) → ERep P w (Gd B G0 ob') B (tm.setIfInBounds d v) env' ek (tm.getD k undef) (b1 ++ b3))
  (hdd : (∀ b i, Gd B G0 ob b i → Gd B G0 ob' b i) → ERep P w (Gd B G0 ob') B (tm.setIfInBounds d v) env' ed v b2) : Conc P B G0 W0 n env' (tm.setIfInBounds d v) w ob' := by
 have hdt : d < tm.size := by rw [hC.size]; exact hd
 have hd' : ob' d = b2 := by rw [hob']; simp
 have hk' : ob' k = b1 ++ b3 := by rw [hob']; simp [Ne.symm hkd]
 have ho' : ∀ s, s ≠ d → s ≠ k → ob' s = ob s := fun s h1 h2 => by rw [hob']; simp [h1, h2]
 have hsub2 : ∀ q, q ∈ b2 → q ∈ ob k := fun q hq => by rw [hob]; simp [hq]
 have hsub13 : ∀ q, q ∈ b1 ++ b3 → q ∈ ob k := fun q hq => by rw [hob]; rcases List.mem_append.1 hq with hq | hq <;> simp [hq]
 have hfrom : ∀ s q, q ∈ ob' s → (s = d ∧ q ∈ b2) ∨ (s = k ∧ q ∈ b1 ++ b3) ∨ (s ≠ d ∧ s ≠ k ∧ q ∈ ob s) := by
  intro s q hq
  by_cases h1 : s = d
  ·subst h1; rw [hd'] at hq; exact .inl ⟨rfl, hq⟩
  ·by_cases h2 : s = k
   ·subst h2; rw [hk'] at hq; exact .inr (.inl ⟨rfl, hq⟩)
   ·rw [ho' s h1 h2] at hq; exact .inr (.inr ⟨h1, h2, hq⟩)
 have hGd : ∀ b i, Gd B G0 ob b i → Gd B G0 ob' b i := fun b i h => Gd_sub (fun s b lim hb => by
  rcases hfrom s _ hb with ⟨_, hq⟩ | ⟨_, hq⟩ | ⟨_, _, hq⟩
  ·exact ⟨k, lim, hsub2 _ hq, Nat.le_refl _⟩
  ·exact ⟨k, lim, hsub13 _ hq, Nat.le_refl _⟩
  ·exact ⟨s, lim, hq, Nat.le_refl _⟩) h
 have hnd := hC.nodup k
 rw [hob] at hnd
 simp only [blocks_append] at hnd
 rw [List.append_assoc, List.nodup_append] at hnd
 obtain ⟨n1, n2, n3⟩ := hnd
 rw [List.nodup_append] at n2
 obtain ⟨n21, n22, n23⟩ := n2
 have hap : ∀ b, b ∈ blocks b2 → b ∈ blocks (b1 ++ b3) → False := by
  intro b h1 h2
  rw [blocks_append, List.mem_append] at h2
  rcases h2 with h2 | h2
  ·exact n3 b h2 b (List.mem_append_left _ h1) rfl
  ·exact n23 b h1 b h2 rfl
 refine Conc.step hC (Below.refl _ _) (fun b i _ h => ⟨hGd b i h, rfl⟩) (fun s => ?_) ?_ ?_ ?_ (by rw [Array.size_setIfInBounds]; exact hC.size)
 ·by_cases h1 : s = d
  ·subst h1; right
   rw [hlook, if_pos rfl, getD_set_same _ _ _ hdt, hd']
   exact hdd hGd
  ·by_cases h2 : s = k
   ·subst h2; right
    rw [hlook, if_neg h1, if_pos rfl, getD_set_other _ _ h1, hk']
    exact hk hGd
   ·rw [hlook, if_neg h1, if_neg h2, getD_set_other _ _ h1, ho' s h1 h2]
    by_cases hkill : (look env d).home = true ∧ leads d (look env s) = true
    ·right; rw [if_pos hkill]; exact (ERep.leads hkill.2 (hC.rep s)).2
    ·left; rw [if_neg hkill]
     refine ⟨rfl, rfl, rfl, fun _ _ => rfl, fun s' hs' => ?_⟩
     have hh := ERep.leads hs' (hC.rep s)
     have e1 : s' ≠ d := by rintro rfl; exact hkill ⟨hh.1, hs'⟩
     have e2 : s' ≠ k := by rintro rfl; rw [hnh] at hh; exact absurd hh.1 (by simp)
     refine HomeEq.same (P := P) ?_ (getD_set_other _ _ e1) (hC.rep s') (fun _ _ => rfl)
     rw [hlook, if_neg e1, if_neg e2, leads_home hh.1]; simp
 ·intro x y b hx hy
  obtain ⟨l1, hx⟩ := mem_blocks.1 hx
  obtain ⟨l2, hy⟩ := mem_blocks.1 hy
  rcases hfrom x _ hx with ⟨e1, q1⟩ | ⟨e1, q1⟩ | ⟨e1, f1, q1⟩ <;> rcases hfrom y _ hy with ⟨e2, q2⟩ | ⟨e2, q2⟩ | ⟨e2, f2, q2⟩
  ·rw [e1, e2]
  ·exact (hap b (mem_blocks.2 ⟨_, q1⟩) (mem_blocks.2 ⟨_, q2⟩)).elim
  ·exact absurd (hC.dist _ _ b (mem_blocks.2 ⟨_, q2⟩) (mem_blocks.2 ⟨_, hsub2 _ q1⟩)) f2
  ·exact (hap b (mem_blocks.2 ⟨_, q2⟩) (mem_blocks.2 ⟨_, q1⟩)).elim
  ·rw [e1, e2]
  ·exact absurd (hC.dist _ _ b (mem_blocks.2 ⟨_, q2⟩) (mem_blocks.2 ⟨_, hsub13 _ q1⟩)) f2
  ·exact absurd (hC.dist _ _ b (mem_blocks.2 ⟨_, q1⟩) (mem_blocks.2 ⟨_, hsub2 _ q2⟩)) f1
  ·exact absurd (hC.dist _ _ b (mem_blocks.2 ⟨_, q1⟩) (mem_blocks.2 ⟨_, hsub13 _ q2⟩)) f1
  ·exact hC.dist _ _ b (mem_blocks.2 ⟨_, q1⟩) (mem_blocks.2 ⟨_, q2⟩)
 ·intro s
  by_cases h1 : s = d
  ·subst h1; rw [hd']; exact n21
  ·by_cases h2 : s = k
   ·subst h2; rw [hk', blocks_append, List.nodup_append]
    exact ⟨n1, n22, fun x hx y hy => n3 x hx y (List.mem_append_right _ hy)⟩
   ·rw [ho' s h1 h2]; exact hC.nodup s
 ·intro s b hb
  obtain ⟨l, hb⟩ := mem_blocks.1 hb
  rcases hfrom s _ hb with ⟨_, hq⟩ | ⟨_, hq⟩ | ⟨_, _, hq⟩
  ·exact hC.low k b (mem_blocks.2 ⟨_, hsub2 _ hq⟩)
  ·exact hC.low k b (mem_blocks.2 ⟨_, hsub13 _ hq⟩)
  ·exact hC.low s b (mem_blocks.2 ⟨_, hq⟩)
theorem st_extract {k j : Nat} (hC : Conc P B G0 W0 n env a.tmps w ob) (hK : KOk P B G0 W0 n a K r next) (hd : ∀ k, o.dst = some k → k < n) (hdst : i.dst = o.dst)
  (ho : o.op = .extract (.tmp k) j) (hi : i.op = .extract k j) (hkd : ∃ d, o.dst = some d ∧ d ≠ k) (h : step cl i env K = some r) : o.wp P a w next Q := by
 unfold step at h; rw [hi] at h; simp only [hdst] at h
 have hr := hC.rep k
 split at h
 ·rename_i es he
  rw [he] at hr
  obtain ⟨h0, vs, hv, ht⟩ := hr
  split at h
  ·rename_i e hej
   obtain ⟨u, b1, b2, b3, hu, hob, hre, hset⟩ := TupRep.split ht hej
   have hu' : vs[j]? = some u := by simpa using hu
   have hrun : (execOp a.eval o).run P w = .ok (.value u) w := by
    have : a.eval (.tmp k) = .tuple vs := hv
    simp [execOp, ho, this, Instr.extract, hu']
   cases e with
   | v T x' =>
     obtain ⟨rfl, vs', h1, h2⟩ := hre
     exact wp_value hrun (fin0 (e := .v T x') hC hK hd (Grows.refl w) ⟨rfl, vs', h1, h2⟩ h)
   | own wr e' T oa xs =>
     simp only at h
     split at h
     ·rename_i hwo
      simp only [Bool.and_eq_true, Bool.not_eq_true'] at hwo
      obtain ⟨rfl, hpu⟩ := hwo
      have hF := hre
      have hF2 : Flat P (.sl T) w (Gd B G0 ob) B (.own false e' oa) xs [u] b2 := hre
      unfold ERep1 Flat at hF
      obtain ⟨v', cells, ob', e1, _, _, hb2⟩ := hF
      simp only [List.cons.injEq, and_true] at e1
      subst e1
      have himm : Flat P (.sl T) w (Gd B G0 ob) B .no xs [u] [] := own_imm hF2 hpu (fun _ _ _ h => h) (fun g i hg hB hi => Gd_of_rec hC (s := k) (lim := xs.length * cellsN T) (by rw [hob, hb2]; simp [obOf, hg]) hi hB)
      exact wp_value hrun (fin0 (e := .v (.sl T) xs) hC hK hd (Grows.refl w) ⟨rfl, [u], himm, rfl⟩ h)
     refine wp_value hrun ?_
     obtain ⟨d, hod, hdk⟩ := hkd
     rw [hod] at h ⊢
     have := Conc.part (ek := .tup (es.set j .dead)) (ed := .own wr e' T oa xs) (v := u) (env' := putO ((k, .tup (es.set j .dead)) :: env) (some d) (.own wr e' T oa xs)) hC hdk (hd d hod) hob rfl ?_ (by rw [he]; rfl) ?_ ?_
     ·exact hK _ _ _ _ this h
     ·intro s
      simp only [Fw.putO]
      rw [look_put, look_cons, look_cons, if_neg (Ne.symm hdk)]
      by_cases h1 : s = d
      ·subst h1; rw [if_pos rfl, if_pos rfl, if_neg (by simp [leads])]
      ·rw [if_neg (Ne.symm h1), if_neg h1]
       by_cases h2 : s = k
       ·subst h2; rw [if_pos rfl, if_pos rfl]; simp [leads]
       ·rw [if_neg (Ne.symm h2), if_neg h2]
     ·intro hGd
      refine ⟨fun e he' s' => ?_, vs, hv, TupRep.imp (fun e he' v b hb hr => ERep1.keep (tm := a.tmps) (env := env) (fun b i _ h => ⟨hGd b i h, rfl⟩) (Later.refl _ _) (fun _ _ => rfl) (fun s' hs' => ?_) hr) (hset .dead rfl)⟩
      ·rcases List.mem_or_eq_of_mem_set he' with he' | rfl
       ·exact h0 e he' s'
       ·rfl
      ·rcases List.mem_or_eq_of_mem_set he' with he' | rfl
       ·rw [h0 e he' s'] at hs'; exact absurd hs' (by simp)
       ·simp [leads] at hs'
     ·intro hGd
      exact Flat.mono P (.sl T) (fun b i _ h => ⟨hGd b i h, rfl⟩) (Later.refl _ _) (fun _ _ => rfl) hre
   | _ => simp at h
  ·exact absurd h (by simp)
 ·exact absurd h (by simp)
theorem ERep.one {G : Nat → Nat → Prop} {tm : Array Value} {e : E} {v : Value} {b : OB} (h1 : ∀ es, e ≠ .tup es) (h2 : ∀ f A C c, e ≠ .clo f A C c) (h : ERep P w G B tm env e v b) : ERep1 P w G B tm env e v b := by
 cases e with
 | tup es => exact absurd rfl (h1 es)
 | clo f A C c => exact absurd rfl (h2 f A C c)
 | _ => exact h
theorem st_mkfn {f : FuncId} {A C : Ty} {caps : List Od} {cs : Array Operand} (hC : Conc P B G0 W0 n env a.tmps w ob) (hK : KOk P B G0 W0 n a K r next) (hd : ∀ k, o.dst = some k → k < n) (hdst : i.dst = o.dst)
  (ho : o.op = .makeFunc (.func f) #[] cs) (hi : i.op = .mkfn f A C caps) (hcs : okOds cs.toList caps = true) (h : step cl i env K = some r) : o.wp P a w next Q := by
 unfold step at h; rw [hi] at h; simp only [hdst] at h
 split at h
 case isFalse => simp at h
 rename_i hcap
 refine wp_value (v := .func (.func f) #[] (cs.map a.eval)) (w' := w) (by simp [execOp, ho, Instr.makeFunc]) (fin0 (e := .clo f A C (caps.map fun y => copyE y (ent env y))) hC hK hd (Grows.refl w) ⟨rfl, _, rfl, ?_⟩ h)
 have key : ∀ (us : List Operand) (ys : List Od), okOds us ys = true → (ys.all fun a => (ent env a).cap) = true → TupRep (ERep1 P w (Gd B G0 ob) B a.tmps env) (ys.map fun y => copyE y (ent env y)) (us.map a.eval) [] := by
  intro us
  induction us with
  | nil =>
    intro ys hy _
    cases ys with
    | nil => exact ⟨rfl, rfl⟩
    | cons => simp [okOds] at hy
  | cons u us ih =>
    intro ys hy hc
    cases ys with
    | nil => simp [okOds] at hy
    | cons y ys =>
      simp only [okOds, Bool.and_eq_true] at hy
      simp only [List.all_cons, Bool.and_eq_true] at hc
      refine ⟨a.eval u, us.map a.eval, [], [], rfl, rfl, ?_, ih ys hy.2 hc.2⟩
      have hc1 := hc.1
      rcases copy_rep hC hy.1 with hh | ⟨wr, e, T, o', xs, h1, _⟩
      ·refine ERep.one ?_ ?_ hh
       ·intro es he
        change copyE y (ent env y) = _ at he
        generalize ent env y = e at *
        cases e <;> simp only [E.cap, Bool.false_eq_true] at hc1 <;> cases y <;> simp [copyE] at he
       ·intro f A C cs he
        change copyE y (ent env y) = _ at he
        generalize ent env y = e at *
        cases e <;> simp only [E.cap, Bool.false_eq_true] at hc1 <;> cases y <;> simp [copyE] at he
      ·exfalso
       generalize ent env y = e at *
       cases e <;> simp only [E.cap, Bool.false_eq_true] at hc1 <;> cases y <;> simp [copyE] at h1
 have := key cs.toList caps hcs hcap
 simpa using this
end
end Go.Fw
/- Soundness, part 13: values that are built. -/
namespace Go.Fw
open Go Go.RowKit
theorem fold_set : ∀ (vs : List Value) (k off : Nat) (cs : Array Value), off + k + vs.length ≤ cs.size →
  ((vs.zipIdx k).foldl (fun cs (q : Value × Nat) => cs.setIfInBounds (off + q.2) q.1) cs).toList = cs.toList.take (off + k) ++ vs ++ cs.toList.drop (off + k + vs.length)
 | [], k, off, cs, _ => by simp
 | v :: vs, k, off, cs, h => by
   simp only [List.length_cons] at h
   simp only [List.zipIdx_cons, List.foldl_cons]
   rw [fold_set vs (k + 1) off (cs.setIfInBounds (off + k) v) (by rw [Array.size_setIfInBounds]; omega)]
   rw [Array.toList_setIfInBounds]
   apply List.ext_getElem?
   intro j
   simp only [List.getElem?_append, List.length_append, List.length_take, List.length_set, List.length_cons, Array.length_toList, List.getElem?_take, List.getElem?_set, List.getElem?_drop]
   have hs : off + k < cs.size := by omega
   by_cases h1 : j < off + k
   ·simp [h1, show j < off + (k + 1) by omega, show min (off + k) cs.size = off + k by omega, show min (off + (k + 1)) cs.size = off + (k + 1) by omega, show ¬ off + k = j by omega, show j < off + (k + 1) + vs.length by omega, show j < off + k + (vs.length + 1) by omega]
   ·by_cases h2 : j = off + k
    ·subst h2
     simp [show min (off + k) cs.size = off + k by omega, show min (off + (k + 1)) cs.size = off + (k + 1) by omega, show off + k < off + (k + 1) by omega, show off + k < off + (k + 1) + vs.length by omega, hs]
    ·simp only [show ¬ j < off + (k + 1) by omega, show min (off + k) cs.size = off + k by omega, show min (off + (k + 1)) cs.size = off + (k + 1) by omega, h1, if_false]
     by_cases h3 : j < off + (k + 1) + vs.length
     ·simp only [h3, if_true, show j < off + k + (vs.length + 1) by omega]
      rw [show j - (off + k) = (j - (off + (k + 1))) + 1 by omega, List.getElem?_cons_succ]
     ·simp only [h3, if_false, show ¬ j < off + k + (vs.length + 1) by omega]
      rw [if_neg (by omega)]
      congr 1; omega
theorem fill_step {place : Nat → Option (Nat × Nat)} {cells : Array Value} {f off size : Nat} {v : Value} {vs v1 v2 v3 : List Value} {rest : List (Nat × Value)} (hp : place f = some (off, size)) (hv : v.cells = vs.toArray) (hl : vs.length = size)
  (hc : cells.toList = v1 ++ v2 ++ v3) (h1 : v1.length = off) (h2 : v2.length = size) : Instr.fill place cells ((f, v) :: rest) = Instr.fill place (v1 ++ vs ++ v3).toArray rest := by
 have hsz : cells.size = v1.length + v2.length + v3.length := by
  have := congrArg List.length hc
  simp at this; omega
 simp only [Instr.fill, hp, hv]
 rw [if_neg (by simp; omega)]
 congr 1
 apply Array.ext'
 have := fold_set vs 0 off cells (by omega)
 rw [← Array.foldl_toList, Array.toList_zipIdx]
 simp only [Nat.add_zero] at this
 rw [this, hc]
 simp [← h1, ← hl ▸ h2, List.drop_append]
section
variable {P : Program} {B : Nat} {G0 : Nat → Nat → Prop} {W0 : World} {n : Nat} {env : Env} {a : Act} {w : World} {ob : Nat → OB}
variable {R : Type} {K : Kont R} {r : R} {next : Act → World → Prop} {Q : Exit → Act → World → Prop} {o : Oper} {i : AI} {cl : Cal}
theorem Frz.trans {o1 o2 o3 : Nat → OB} (h : Frz o1 o2) (k : Frz o2 o3) : Frz o1 o3 := ⟨fun j => ⟨(k.less j).1.trans (h.less j).1, fun b lim hb => by
 obtain ⟨l1, h1, h2⟩ := (k.less j).2 b lim hb
 obtain ⟨l2, h3, h4⟩ := (h.less j).2 b l1 h1
 exact ⟨l2, h3, Nat.le_trans h4 h2⟩⟩⟩
def okParts (T : Ty) (place : Nat → Option (Nat × Nat)) : List (Nat × Operand) → List (Path × Od) → Bool
 | [], [] => true
 | (f, x) :: us, (p, y) :: ys => okOd x y && (match subT T p with | some A => (match place f with | some q => q.1 == offT T p && q.2 == cellsN A | none => false) | none => false) && okParts T place us ys
 | _, _ => false
theorem buildV_sound {T : Ty} {place : Nat → Option (Nat × Nat)} : ∀ {us : List (Nat × Operand)} {ys : List (Path × Od)} {env env' : Env} {ob : Nat → OB} {x x' : den T} {cells : Array Value}, Conc P B G0 W0 n env a.tmps w ob → okParts T place us ys = true →
  Flat P T w (Gd B G0 ob) B .no x cells.toList [] → buildV T x env ys = some (env', x') →
  ∃ ob' cells', Frz ob ob' ∧ Conc P B G0 W0 n env' a.tmps w ob' ∧ Instr.fill place cells (us.map fun q => (q.1, a.eval q.2)) = some cells' ∧ Flat P T w (Gd B G0 ob') B .no x' cells'.toList []
 | [], [], env, env', ob, x, x', cells, hC, _, hF, h => by
   simp only [buildV, Option.some.injEq, Prod.mk.injEq] at h
   obtain ⟨rfl, rfl⟩ := h
   exact ⟨ob, cells, Frz.refl _, hC, rfl, hF⟩
 | (f, u) :: us, (p, y) :: ys, env, env', ob, x, x', cells, hC, hok, hF, h => by
   simp only [okParts, Bool.and_eq_true] at hok
   simp only [buildV, Option.bind_eq_some_iff] at h
   obtain ⟨⟨env1, z⟩, hz, x1, hx1, h⟩ := h
   obtain ⟨ob1, hf1, hC1, vs, hv, hFz⟩ := pub_rep hC hok.1.1 hz
   have hp := hok.1.2
   obtain ⟨A, hA⟩ : ∃ A, subT T p = some A := by
    cases hA : subT T p with
    | none => simp [hA] at hp
    | some A => exact ⟨A, rfl⟩
   obtain ⟨q, hq⟩ : ∃ q, place f = some q := by
    cases hq : place f with
    | none => simp [hA, hq] at hp
    | some q => exact ⟨q, rfl⟩
   rw [hA, hq] at hp
   simp only [Bool.and_eq_true, beq_iff_eq] at hp
   have hF1 : Flat P T w (Gd B G0 ob1) B .no x cells.toList [] := Flat.mono P T (fun b i _ hg => ⟨hf1.Gd hg, rfl⟩) (Later.refl _ _) (fun _ _ => rfl) hF
   -- the part's own type
   obtain ⟨old, hold⟩ := setP_getP p T x z x1 hx1
   obtain ⟨v1, v2, v3, b1, b2, b3, e1, e2, e3, e4, e5⟩ := Flat.lens P p T hF1 hold
   have hnil : b1 = [] ∧ b2 = [] ∧ b3 = [] := by
    have : b1 ++ b2 ++ b3 = [] := e2.symm
    simpa using this
   obtain ⟨rfl, rfl, rfl⟩ := hnil
   have hF2 := e5 .no z.2 vs [] x1 (fun _ => rfl) hFz hx1
   have hann : setAnn .no p .no = .no ∨ (setAnn .no p .no).pure = true := .inr (setAnn_pure p _ _ rfl rfl)
   obtain ⟨_, hF3⟩ := Flat.pure P T (setAnn_pure p .no .no rfl rfl) (o' := .no) rfl hF2
   have hsub := getP_subT p T hF1 hold
   rw [hA] at hsub; simp only [Option.some.injEq] at hsub
   have hvl : vs.length = cellsN z.1 := Flat.len P z.1 hFz
   have hcells : (a.eval u).cells = vs.toArray := by rw [hv]; exact cells_asVal hvl (Flat.one P z.1 rfl hFz)
   have hstep := fill_step (rest := us.map fun q => (q.1, a.eval q.2)) (f := f) (v := a.eval u) (hq) hcells (by rw [hvl, hp.2, hsub]) e1 (by rw [e3, hp.1]) (by rw [Flat.len P z.1 e4, hp.2, hsub])
   obtain ⟨ob2, cells', hf2, hC2, h3, h4⟩ := buildV_sound (cells := (v1 ++ vs ++ v3).toArray) hC1 hok.2 hF3 h
   exact ⟨ob2, cells', hf1.trans hf2, hC2, by rw [List.map_cons, hstep]; exact h3, h4⟩
 | [], _ :: _, _, _, _, _, _, _, _, hok, _, _ => by simp [okParts] at hok
 | _ :: _, [], _, _, _, _, _, _, _, hok, _, _ => by simp [okParts] at hok
where
 setP_getP : ∀ (p : Path) (T : Ty) (x : den T) (z : TV) (x1 : den T), setP T p x z = some x1 → ∃ y : den z.1, getP T p x = some ⟨z.1, y⟩
  | [], T, x, z, x1, h => by
    have hs' : cast? T z = some x1 := by cases T <;> exact h
    have := cast?_some hs'
    subst this
    exact ⟨x, by simp only [getP]⟩
  | .l :: p, .pair A C, x, z, x1, h => by
    simp only [setP, Option.bind_eq_some_iff] at h
    obtain ⟨y, hy, _⟩ := h
    obtain ⟨u, hu⟩ := setP_getP p A x.1 z y hy
    exact ⟨u, by simp only [getP]; exact hu⟩
  | .r :: p, .pair A C, x, z, x1, h => by
    simp only [setP, Option.bind_eq_some_iff] at h
    obtain ⟨y, hy, _⟩ := h
    obtain ⟨u, hu⟩ := setP_getP p C x.2 z y hy
    exact ⟨u, by simp only [getP]; exact hu⟩
  | .ix i :: p, .arr m T, x, z, x1, h => by
    simp only [setP] at h
    split at h
    ·rename_i hi
     simp only [Option.bind_eq_some_iff] at h
     obtain ⟨y, hy, _⟩ := h
     obtain ⟨u, hu⟩ := setP_getP p T _ z y hy
     exact ⟨u, by simp only [getP]; rw [if_pos hi]; exact hu⟩
    ·simp at h
  | .l :: _, .int _, _, _, _, h | .l :: _, .bool, _, _, _, h | .l :: _, .str, _, _, _, h | .l :: _, .unit, _, _, _, h | .l :: _, .sl _, _, _, _, h | .l :: _, .arr _ _, _, _, _, h | .l :: _, .fn _ _, _, _, _, h => by simp [setP] at h
  | .r :: _, .int _, _, _, _, h | .r :: _, .bool, _, _, _, h | .r :: _, .str, _, _, _, h | .r :: _, .unit, _, _, _, h | .r :: _, .sl _, _, _, _, h | .r :: _, .arr _ _, _, _, _, h | .r :: _, .fn _ _, _, _, _, h => by simp [setP] at h
  | .ix _ :: _, .int _, _, _, _, h | .ix _ :: _, .bool, _, _, _, h | .ix _ :: _, .str, _, _, _, h | .ix _ :: _, .unit, _, _, _, h | .ix _ :: _, .sl _, _, _, _, h | .ix _ :: _, .pair _ _, _, _, _, h | .ix _ :: _, .fn _ _, _, _, _, h => by simp [setP] at h
theorem buildN_sound {T : Ty} {place : Nat → Option (Nat × Nat)} : ∀ {us : List (Nat × Operand)} {ys : List (Path × Od)} {env env' : Env} {ob : Nat → OB} {oa : Ann} {x x' : den T} {cells : Array Value}, Conc P B G0 W0 n env a.tmps w ob → okParts T place us ys = true →
  Flat P T w (Gd B G0 ob) B oa x cells.toList [] → buildV T x env ys = some (env', x') →
  ∃ ob' cells', Frz ob ob' ∧ Conc P B G0 W0 n env' a.tmps w ob' ∧ Instr.fill place cells (us.map fun q => (q.1, a.eval q.2)) = some cells' ∧ Flat P T w (Gd B G0 ob') B (annParts oa ys) x' cells'.toList []
 | [], [], env, env', ob, oa, x, x', cells, hC, _, hF, h => by
   simp only [buildV, Option.some.injEq, Prod.mk.injEq] at h
   obtain ⟨rfl, rfl⟩ := h
   exact ⟨ob, cells, Frz.refl _, hC, rfl, hF⟩
 | (f, u) :: us, (p, y) :: ys, env, env', ob, oa, x, x', cells, hC, hok, hF, h => by
   simp only [okParts, Bool.and_eq_true] at hok
   simp only [buildV, Option.bind_eq_some_iff] at h
   obtain ⟨⟨env1, z⟩, hz, x1, hx1, h⟩ := h
   obtain ⟨ob1, hf1, hC1, vs, hv, hFz⟩ := pub_rep hC hok.1.1 hz
   have hp := hok.1.2
   obtain ⟨A, hA⟩ : ∃ A, subT T p = some A := by
    cases hA : subT T p with
    | none => simp [hA] at hp
    | some A => exact ⟨A, rfl⟩
   obtain ⟨q, hq⟩ : ∃ q, place f = some q := by
    cases hq : place f with
    | none => simp [hA, hq] at hp
    | some q => exact ⟨q, rfl⟩
   rw [hA, hq] at hp
   simp only [Bool.and_eq_true, beq_iff_eq] at hp
   have hF1 : Flat P T w (Gd B G0 ob1) B oa x cells.toList [] := Flat.mono P T (fun b i _ hg => ⟨hf1.Gd hg, rfl⟩) (Later.refl _ _) (fun _ _ => rfl) hF
   -- the part's own type
   obtain ⟨old, hold⟩ := buildV_sound.setP_getP p T x z x1 hx1
   obtain ⟨v1, v2, v3, b1, b2, b3, e1, e2, e3, e4, e5⟩ := Flat.lens P p T hF1 hold
   have hnil : b1 = [] ∧ b2 = [] ∧ b3 = [] := by
    have : b1 ++ b2 ++ b3 = [] := e2.symm
    simpa using this
   obtain ⟨rfl, rfl, rfl⟩ := hnil
   have hF2 := e5 .no z.2 vs [] x1 (fun _ => rfl) hFz hx1
   have hsub := getP_subT p T hF1 hold
   rw [hA] at hsub; simp only [Option.some.injEq] at hsub
   have hvl : vs.length = cellsN z.1 := Flat.len P z.1 hFz
   have hcells : (a.eval u).cells = vs.toArray := by rw [hv]; exact cells_asVal hvl (Flat.one P z.1 rfl hFz)
   have hstep := fill_step (rest := us.map fun q => (q.1, a.eval q.2)) (f := f) (v := a.eval u) (hq) hcells (by rw [hvl, hp.2, hsub]) e1 (by rw [e3, hp.1]) (by rw [Flat.len P z.1 e4, hp.2, hsub])
   obtain ⟨ob2, cells', hf2, hC2, h3, h4⟩ := buildN_sound (cells := (v1 ++ vs ++ v3).toArray) hC1 hok.2 hF2 h
   exact ⟨ob2, cells', hf1.trans hf2, hC2, by rw [List.map_cons, hstep]; exact h3, h4⟩
 | [], _ :: _, _, _, _, _, _, _, _, _, hok, _, _ => by simp [okParts] at hok
 | _ :: _, [], _, _, _, _, _, _, _, _, hok, _, _ => by simp [okParts] at hok
theorem st_build {t : TypeId} {T : Ty} {us : Array (Nat × Operand)} {ys : List (Path × Od)} (hC : Conc P B G0 W0 n env a.tmps w ob) (hK : KOk P B G0 W0 n a K r next) (hd : ∀ k, o.dst = some k → k < n) (hdst : i.dst = o.dst)
  (ho : o.op = .build t us) (hi : i.op = .build T ys) (hz : ZeroOk P t T) (hagg : isAggT T = true) (hT : TyR P t T)
  (hok : (∃ fs places, P.underlying t = some (.struct fs) ∧ fs.toList.mapM (fun f => (P.info? f.type).map fun i => (f.offset, i.size)) = some places ∧ okParts T (places.toArray[·]?) us.toList ys = true) ∨
   (∃ m e T', P.underlying t = some (.array m e) ∧ TyR P e T' ∧ okParts T (fun i => some (i * cellsN T', cellsN T')) us.toList ys = true)) (h : step cl i env K = some r) : o.wp P a w next Q := by
 unfold step at h; rw [hi] at h; simp only [hdst, Option.bind_eq_some_iff] at h
 obtain ⟨⟨env', x⟩, hx, h⟩ := h
 obtain ⟨it, z, vs, h1, h2, h3, h4⟩ := hz.ok
 have hcells : z.cells = vs.toArray := by rw [h4]; exact cells_asVal (constV_len h3) (constV_one h3)
 have hF0 : Flat P T w (Gd B G0 ob) B .no (zero T) vs.toArray.toList [] := by simpa using constV_flat P T w _ B .no (constV_flat.annOk_no T) h3
 rcases hok with ⟨fs, places, hu, hpl, hok⟩ | ⟨m, e, T', hu, hT', hok⟩
 ·obtain ⟨ob', cells', hf, hC', h5, h6⟩ := buildV_sound hC hok hF0 hx
  refine wp_value (v := .agg cells') (w' := w) ?_ ?_
  ·have hb : P.built t ((us.map fun (i, x) => (i, a.eval x))).toList = some cells' := by
    simp only [Program.built, h1, hu, h2, hpl, hcells]
    rw [← h5]; congr 1; simp
   have := run_build (P := P) w t (us.map fun (i, x) => (i, a.eval x)) cells' hb
   simp [execOp, ho, this]
  ·have hr := v_rep (tm := a.tmps) (env := env') h6
   rw [asVal_agg hagg] at hr
   exact fin0 hC' hK hd (Grows.refl w) (by simpa using hr) h
 ·obtain ⟨ie, hie, hse⟩ := hT'.size
  obtain ⟨ob', cells', hf, hC', h5, h6⟩ := buildV_sound hC hok hF0 hx
  refine wp_value (v := .agg cells') (w' := w) ?_ ?_
  ·have hb : P.built t ((us.map fun (i, x) => (i, a.eval x))).toList = some cells' := by
    simp only [Program.built, h1, hu, h2, hie, hcells, hse]
    rw [← h5]; congr 1; simp
   have := run_build (P := P) w t (us.map fun (i, x) => (i, a.eval x)) cells' hb
   simp [execOp, ho, this]
  ·have hr := v_rep (tm := a.tmps) (env := env') h6
   rw [asVal_agg hagg] at hr
   exact fin0 hC' hK hd (Grows.refl w) (by simpa using hr) h
theorem st_buildN {t : TypeId} {T : Ty} {oa : Ann} {us : Array (Nat × Operand)} {ys : List (Path × Od)} (hC : Conc P B G0 W0 n env a.tmps w ob) (hK : KOk P B G0 W0 n a K r next) (hd : ∀ k, o.dst = some k → k < n) (hdst : i.dst = o.dst)
  (ho : o.op = .build t us) (hi : i.op = .buildN T oa ys) (hoa : annOk T oa = true) (hz : ZeroOk P t T) (hagg : isAggT T = true) (hT : TyR P t T)
  (hok : (∃ fs places, P.underlying t = some (.struct fs) ∧ fs.toList.mapM (fun f => (P.info? f.type).map fun i => (f.offset, i.size)) = some places ∧ okParts T (places.toArray[·]?) us.toList ys = true) ∨
   (∃ m e T', P.underlying t = some (.array m e) ∧ TyR P e T' ∧ okParts T (fun i => some (i * cellsN T', cellsN T')) us.toList ys = true)) (h : step cl i env K = some r) : o.wp P a w next Q := by
 unfold step at h; rw [hi] at h; simp only [hdst, Option.bind_eq_some_iff] at h
 obtain ⟨⟨env', x⟩, hx, h⟩ := h
 obtain ⟨it, z, vs, h1, h2, h3, h4⟩ := hz.ok
 have hcells : z.cells = vs.toArray := by rw [h4]; exact cells_asVal (constV_len h3) (constV_one h3)
 have hF0 : Flat P T w (Gd B G0 ob) B oa (zero T) vs.toArray.toList [] := by simpa using constV_flat P T w _ B oa hoa h3
 rcases hok with ⟨fs, places, hu, hpl, hok⟩ | ⟨m, e, T', hu, hT', hok⟩
 ·obtain ⟨ob', cells', hf, hC', h5, h6⟩ := buildN_sound hC hok hF0 hx
  refine wp_value (v := .agg cells') (w' := w) ?_ ?_
  ·have hb : P.built t ((us.map fun (i, x) => (i, a.eval x))).toList = some cells' := by
    simp only [Program.built, h1, hu, h2, hpl, hcells]
    rw [← h5]; congr 1; simp
   have := run_build (P := P) w t (us.map fun (i, x) => (i, a.eval x)) cells' hb
   simp [execOp, ho, this]
  ·have hr : ERep P w (Gd B G0 ob') B a.tmps env' (.nw T (annParts oa ys) x) (asVal T cells'.toList) [] := ⟨rfl, _, h6, rfl⟩
   rw [asVal_agg hagg] at hr
   exact fin0 hC' hK hd (Grows.refl w) (by simpa using hr) h
 ·obtain ⟨ie, hie, hse⟩ := hT'.size
  obtain ⟨ob', cells', hf, hC', h5, h6⟩ := buildN_sound hC hok hF0 hx
  refine wp_value (v := .agg cells') (w' := w) ?_ ?_
  ·have hb : P.built t ((us.map fun (i, x) => (i, a.eval x))).toList = some cells' := by
    simp only [Program.built, h1, hu, h2, hie, hcells, hse]
    rw [← h5]; congr 1; simp
   have := run_build (P := P) w t (us.map fun (i, x) => (i, a.eval x)) cells' hb
   simp [execOp, ho, this]
  ·have hr : ERep P w (Gd B G0 ob') B a.tmps env' (.nw T (annParts oa ys) x) (asVal T cells'.toList) [] := ⟨rfl, _, h6, rfl⟩
   rw [asVal_agg hagg] at hr
   exact fin0 hC' hK hd (Grows.refl w) (by simpa using hr) h
end
end Go.Fw
/- Soundness, part 14: slices that are made and that grow. -/
namespace Go.Fw
open Go Go.RowKit
section
variable {P : Program} {B : Nat} {G0 : Nat → Nat → Prop} {W0 : World} {n : Nat} {env : Env} {a : Act} {w w' : World} {ob : Nat → OB}
variable {R : Type} {K : Kont R} {r : R} {next : Act → World → Prop} {Q : Exit → Act → World → Prop} {o : Oper} {i : AI} {cl : Cal}
theorem Conc.partW {k d : Nat} {tm : Array Value} (hC : Conc P B G0 W0 n env tm w ob) (hkd : d ≠ k) (hd : d < n) {b1 b2 b3 bd : OB} (hob : ob k = b1 ++ b2 ++ b3) {ek ed : E} {v : Value} {env' : Env} {ob' : Nat → OB}
  (hob' : ob' = fun s => if s = d then bd else if s = k then b1 ++ b3 else ob s) (hbel : Below B w w') (hw : ∀ b, b < w.heap.size → b ∉ blocks b2 → w'.heap[b]? = w.heap[b]?)
  (hbd : ∀ b, b ∈ blocks bd → b ∈ blocks b2 ∨ (w.heap.size ≤ b ∧ b < w'.heap.size)) (hbdn : (blocks bd).Nodup)
  (hcell : ∀ b i, b < w.heap.size → b ∈ blocks b2 → Gd B G0 ob b i → (∀ lim, (b, lim) ∈ bd → i < lim) ∧ w'.cell? ⟨b, i, none⟩ = w.cell? ⟨b, i, none⟩)
  (hlk : look env' k = ek) (hld : look env' d = ed)
  (hls : ∀ s, s ≠ k → s ≠ d → look env' s = .dead ∨ (look env' s = look env s ∧ leads k (look env s) = false ∧ ¬ ((look env d).home = true ∧ leads d (look env s) = true)) ∨
   (∃ p T o x o' x', look env s = .ptr k p ∧ look env' s = .ptr k p ∧ look env k = .loc T o x ∧ ek = .loc T o' x'))
  (hsd : ∀ s, s ≠ k → s ≠ d → look env' s = .dead → ob s = [] ∧ (look env s).home = false)
  (hk : (∀ b i, b < w.heap.size → Gd B G0 ob b i → Gd B G0 ob' b i ∧ w'.cell? ⟨b, i, none⟩ = w.cell? ⟨b, i, none⟩) → ERep P w' (Gd B G0 ob') B (tm.setIfInBounds d v) env' ek (tm.getD k undef) (b1 ++ b3))
  (hdd : (∀ b i, b < w.heap.size → Gd B G0 ob b i → Gd B G0 ob' b i ∧ w'.cell? ⟨b, i, none⟩ = w.cell? ⟨b, i, none⟩) → ERep P w' (Gd B G0 ob') B (tm.setIfInBounds d v) env' ed v bd) : Conc P B G0 W0 n env' (tm.setIfInBounds d v) w' ob' := by
 have hdt : d < tm.size := by rw [hC.size]; exact hd
 have hd' : ob' d = bd := by rw [hob']; simp
 have hk' : ob' k = b1 ++ b3 := by rw [hob']; simp [Ne.symm hkd]
 have ho' : ∀ s, s ≠ d → s ≠ k → ob' s = ob s := fun s h1 h2 => by rw [hob']; simp [h1, h2]
 have hsub2 : ∀ q, q ∈ b2 → q ∈ ob k := fun q hq => by rw [hob]; simp [hq]
 have hsub13 : ∀ q, q ∈ b1 ++ b3 → q ∈ ob k := fun q hq => by rw [hob]; rcases List.mem_append.1 hq with hq | hq <;> simp [hq]
 have hfrom : ∀ s q, q ∈ ob' s → (s = d ∧ q ∈ bd) ∨ (s = k ∧ q ∈ b1 ++ b3) ∨ (s ≠ d ∧ s ≠ k ∧ q ∈ ob s) := by
  intro s q hq
  by_cases h1 : s = d
  ·subst h1; rw [hd'] at hq; exact .inl ⟨rfl, hq⟩
  ·by_cases h2 : s = k
   ·subst h2; rw [hk'] at hq; exact .inr (.inl ⟨rfl, hq⟩)
   ·rw [ho' s h1 h2] at hq; exact .inr (.inr ⟨h1, h2, hq⟩)
 have hnd := hC.nodup k
 rw [hob] at hnd
 simp only [blocks_append] at hnd
 rw [List.append_assoc, List.nodup_append] at hnd
 obtain ⟨n1, n2, n3⟩ := hnd
 rw [List.nodup_append] at n2
 obtain ⟨n21, n22, n23⟩ := n2
 have hap2 : ∀ b, b ∈ blocks b2 → b ∈ blocks (b1 ++ b3) → False := by
  intro b h1 h2
  rw [blocks_append, List.mem_append] at h2
  rcases h2 with h2 | h2
  ·exact n3 b h2 b (List.mem_append_left _ h1) rfl
  ·exact n23 b h1 b h2 rfl
 have hlowk : ∀ b, b ∈ blocks (b1 ++ b3) → b < w.heap.size := fun b hb => by
  obtain ⟨l, hl⟩ := mem_blocks.1 hb
  exact (hC.low k b (mem_blocks.2 ⟨l, hsub13 _ hl⟩)).2
 have hap : ∀ b, b ∈ blocks bd → b ∈ blocks (b1 ++ b3) → False := by
  intro b h1 h2
  rcases hbd b h1 with h | h
  ·exact hap2 b h h2
  ·have := hlowk b h2; omega
 have hap' : ∀ s b, s ≠ k → b ∈ blocks bd → b ∈ blocks (ob s) → False := by
  intro s b hs h1 h2
  rcases hbd b h1 with h | h
  ·obtain ⟨l, hl⟩ := mem_blocks.1 h
   exact hs (hC.dist _ _ b h2 (mem_blocks.2 ⟨l, hsub2 _ hl⟩))
  ·have := (hC.low s b h2).2; omega
 have hG : ∀ b i, b < w.heap.size → Gd B G0 ob b i → Gd B G0 ob' b i ∧ w'.cell? ⟨b, i, none⟩ = w.cell? ⟨b, i, none⟩ := by
  intro b i hb hg
  by_cases hb2 : b ∈ blocks b2
  ·obtain ⟨hc1, hc2⟩ := hcell b i hb hb2 hg
   refine ⟨?_, hc2⟩
   rcases hg with hg | ⟨g1, g2⟩
   ·exact .inl hg
   ·refine .inr ⟨g1, fun s lim hs => ?_⟩
    rcases hfrom s _ hs with ⟨_, hq⟩ | ⟨_, hq⟩ | ⟨_, _, hq⟩
    ·exact hc1 lim hq
    ·exact g2 k lim (hsub13 _ hq)
    ·exact g2 s lim hq
  ·refine ⟨?_, World.cell?_of_block (w := w) (hw b hb hb2)⟩
   rcases hg with hg | ⟨g1, g2⟩
   ·exact .inl hg
   ·refine .inr ⟨g1, fun s lim hs => ?_⟩
    rcases hfrom s _ hs with ⟨_, hq⟩ | ⟨_, hq⟩ | ⟨_, _, hq⟩
    ·rcases hbd b (mem_blocks.2 ⟨lim, hq⟩) with h | h
     ·exact absurd h hb2
     ·omega
    ·exact g2 k lim (hsub13 _ hq)
    ·exact g2 s lim hq
 have hheap : ∀ s, s ≠ k → ∀ g ∈ blocks (ob s), w'.heap[g]? = w.heap[g]? := by
  intro s hs g hg
  refine hw g (hC.low s g hg).2 (fun h => ?_)
  obtain ⟨l, hl⟩ := mem_blocks.1 h
  exact hs (hC.dist _ _ g hg (mem_blocks.2 ⟨l, hsub2 _ hl⟩))
 refine Conc.step hC hbel hG (fun s => ?_) ?_ ?_ ?_ (by rw [Array.size_setIfInBounds]; exact hC.size)
 ·by_cases h1 : s = d
  ·subst h1; right
   rw [hld, getD_set_same _ _ _ hdt, hd']
   exact hdd hG
  ·by_cases h2 : s = k
   ·subst h2; right
    rw [hlk, getD_set_other _ _ h1, hk']
    exact hk hG
   ·rw [getD_set_other _ _ h1, ho' s h1 h2]
    rcases hls s h2 h1 with hdead | ⟨h3, h4, h5⟩ | ⟨p, T, oa, x, oa', x', e1, e2, e3, e4⟩
    ·right; rw [hdead]; exact (hsd s h2 h1 hdead).1
    ·left
     refine ⟨h3, rfl, rfl, hheap s h2, fun s' hs' => ?_⟩
     have hh := ERep.leads hs' (hC.rep s)
     have f1 : s' ≠ d := by rintro rfl; exact h5 ⟨hh.1, hs'⟩
     have f2 : s' ≠ k := by rintro rfl; rw [h4] at hs'; exact absurd hs' (by simp)
     have f3 : look env' s' = look env s' := by
      rcases hls s' f2 f1 with q | ⟨q, _⟩ | ⟨p, _, _, _, _, _, q, _⟩
      ·exfalso
       have := (hsd s' f2 f1 q).2
       rw [this] at hh; exact absurd hh.1 (by simp)
      ·exact q
      ·rw [q] at hh; exact absurd hh.1 (by simp [E.home])
     exact HomeEq.same (P := P) f3 (getD_set_other _ _ f1) (hC.rep s') (hheap s' f2)
    ·right
     rw [e2]
     have hr := hC.rep s
     rw [e1] at hr
     obtain ⟨h6, T1, o1, x1, b, h7, h8, h9, h10⟩ := hr
     rw [e3] at h7; cases h7
     exact ⟨h6, T, oa', x', b, by rw [hlk, e4], by rw [getD_set_other _ _ (Ne.symm hkd)]; exact h8, h9, h10⟩
 ·intro x y b hx hy
  obtain ⟨l1, hx⟩ := mem_blocks.1 hx
  obtain ⟨l2, hy⟩ := mem_blocks.1 hy
  rcases hfrom x _ hx with ⟨e1, q1⟩ | ⟨e1, q1⟩ | ⟨e1, f1, q1⟩ <;> rcases hfrom y _ hy with ⟨e2, q2⟩ | ⟨e2, q2⟩ | ⟨e2, f2, q2⟩
  ·rw [e1, e2]
  ·exact (hap b (mem_blocks.2 ⟨_, q1⟩) (mem_blocks.2 ⟨_, q2⟩)).elim
  ·exact (hap' y b f2 (mem_blocks.2 ⟨_, q1⟩) (mem_blocks.2 ⟨_, q2⟩)).elim
  ·exact (hap b (mem_blocks.2 ⟨_, q2⟩) (mem_blocks.2 ⟨_, q1⟩)).elim
  ·rw [e1, e2]
  ·exact absurd (hC.dist _ _ b (mem_blocks.2 ⟨_, q2⟩) (mem_blocks.2 ⟨_, hsub13 _ q1⟩)) f2
  ·exact (hap' x b f1 (mem_blocks.2 ⟨_, q2⟩) (mem_blocks.2 ⟨_, q1⟩)).elim
  ·exact absurd (hC.dist _ _ b (mem_blocks.2 ⟨_, q1⟩) (mem_blocks.2 ⟨_, hsub13 _ q2⟩)) f1
  ·exact hC.dist _ _ b (mem_blocks.2 ⟨_, q1⟩) (mem_blocks.2 ⟨_, q2⟩)
 ·intro s
  by_cases h1 : s = d
  ·subst h1; rw [hd']; exact hbdn
  ·by_cases h2 : s = k
   ·subst h2; rw [hk', blocks_append, List.nodup_append]
    exact ⟨n1, n22, fun x hx y hy => n3 x hx y (List.mem_append_right _ hy)⟩
   ·rw [ho' s h1 h2]; exact hC.nodup s
 ·intro s b hb
  obtain ⟨l, hb⟩ := mem_blocks.1 hb
  rcases hfrom s _ hb with ⟨_, hq⟩ | ⟨_, hq⟩ | ⟨_, _, hq⟩
  ·rcases hbd b (mem_blocks.2 ⟨_, hq⟩) with h | h
   ·obtain ⟨l', hl'⟩ := mem_blocks.1 h
    have := hC.low k b (mem_blocks.2 ⟨_, hsub2 _ hl'⟩)
    exact ⟨this.1, Nat.lt_of_lt_of_le this.2 hbel.size⟩
   ·exact ⟨Nat.le_trans hC.base h.1, h.2⟩
  ·have := hC.low k b (mem_blocks.2 ⟨_, hsub13 _ hq⟩)
   exact ⟨this.1, Nat.lt_of_lt_of_le this.2 hbel.size⟩
  ·have := hC.low s b (mem_blocks.2 ⟨_, hq⟩)
   exact ⟨this.1, Nat.lt_of_lt_of_le this.2 hbel.size⟩
theorem own_new {e : TypeId} {T : Ty} {xs : List (den T)} {css : List Value} {cur : Array Value} {cap : Nat} {d : Option Nat} (hC : Conc P B G0 W0 n env a.tmps w ob) (hK : KOk P B G0 W0 n a K r next) (hd : ∀ k, d = some k → k < n)
  (hE : Elems (Flat P T w (Gd B G0 ob) B .no) xs css []) (hcur : cur.toList.take (xs.length * cellsN T) = css) (hcap : cur.size = cap * cellsN T) (hle : xs.length ≤ cap) (hmax : cap ≤ maxLen)
  (hk : K (putO env d (.own true e T .no xs)) = some r) : next (a.put d (.slice (some ⟨w.heap.size, 0, none⟩) xs.length cap)) (w.alloc (.cells cur e)) := by
 have hg : Grows w (w.alloc (.cells cur e)) := Grows.alloc w _
 cases d with
 | none => exact fin0 (e := .dead) hC hK hd hg (v := undef) rfl hk
 | some k =>
   have h := Conc.putG (e := .own true e T .no xs) (v := .slice (some ⟨w.heap.size, 0, none⟩) xs.length cap) (bk := [(w.heap.size, 0)]) hC (hd k rfl) hg ?_ (by simp) (by simp)
   ·exact hK _ _ _ _ h hk
   ·rw [if_neg (by simp [leads])]
    show Flat P (.sl T) _ _ B (.own true e .no) xs [_] _
    unfold Flat
    refine ⟨_, css, [], rfl, rowX_of ⟨Elems.length (fun x v b hx => Flat.len P T hx) hE, .inr ⟨w.heap.size, cap, cur, rfl, hC.base, heap_alloc_new w _, hle, hmax, hcap, hcur⟩⟩, ?_, by simp [obOf, Value.ownBlock]⟩
    exact Elems.imp (fun x v b hb hx => by
     have : b = [] := by cases b with | nil => rfl | cons q r => exact absurd (hb q (by simp)) (by simp)
     subst this
     exact Flat.mono P T (fun b i hb h => ⟨Gd_upd (fun lim hl => by simp at hl; omega) h, hg.cell hb⟩) ⟨hg.size, fun b hb => hg.block b (Nat.lt_of_lt_of_le hb hC.base)⟩ (by simp) hx) hE
def okIdx : List (Nat × Operand) → Nat → Bool
 | [], _ => true
 | (i, _) :: r, k => i == k && okIdx r (k + 1)
theorem fill_row (size : Nat) : ∀ (parts : List (Nat × Value)) (k : Nat) (done : List Value) (vss : List (List Value)) (cells : Array Value), parts.length = vss.length → (∀ j q, parts[j]? = some q → q.1 = k + j ∧ ∃ vs, vss[j]? = some vs ∧ q.2.cells = vs.toArray ∧ vs.length = size) →
  (∃ rest, cells.toList = done ++ rest ∧ rest.length = parts.length * size) → done.length = k * size → Instr.fill (fun i => some (i * size, size)) cells parts = some (done ++ vss.flatten).toArray
 | [], k, done, vss, cells, hl, _, ⟨rest, hc, hr⟩, _ => by
   have hv : vss = [] := List.eq_nil_of_length_eq_zero (by simpa using hl.symm)
   have hr' : rest = [] := List.eq_nil_of_length_eq_zero (by simpa using hr)
   subst hv; subst hr'
   simp only [Instr.fill, Option.some.injEq]
   apply Array.ext'
   simpa using hc
 | (f, v) :: parts, k, done, vss, cells, hl, hp, ⟨rest, hc, hr⟩, hd => by
   cases vss with
   | nil => simp at hl
   | cons vs vss =>
     obtain ⟨h1, vs', h2, h3, h4⟩ := hp 0 (f, v) rfl
     simp only [List.getElem?_cons_zero, Option.some.injEq] at h2
     subst h2
     simp only [Nat.add_zero] at h1
     subst h1
     simp only [List.length_cons, Nat.succ_mul] at hr
     have hsplit : cells.toList = done ++ rest.take size ++ rest.drop size := by rw [hc, List.append_assoc, List.take_append_drop]
     rw [fill_step (rest := parts) rfl h3 h4 hsplit hd (by rw [List.length_take]; omega)]
     rw [fill_row size parts (f + 1) (done ++ vs) vss _ (by simpa using hl) (fun j q hq => ?_) ⟨rest.drop size, by simp, by rw [List.length_drop]; omega⟩ (by rw [List.length_append, hd, h4, Nat.succ_mul])]
     ·simp
     ·obtain ⟨g1, vs2, g2, g3⟩ := hp (j + 1) q (by simpa using hq)
      exact ⟨by omega, vs2, by simpa using g2, g3⟩
theorem buildL_sound {T : Ty} : ∀ {us : List Operand} {ys : List Od} {env env' : Env} {ob : Nat → OB} {xs : List (den T)}, Conc P B G0 W0 n env a.tmps w ob → okOds us ys = true → buildL T env ys = some (env', xs) →
  ∃ (ob' : Nat → OB) (vss : List (List Value)), Frz ob ob' ∧ Conc P B G0 W0 n env' a.tmps w ob' ∧ Elems (Flat P T w (Gd B G0 ob') B .no) xs vss.flatten [] ∧ vss.length = us.length ∧ (∀ (j : Nat) (u : Operand), us[j]? = some u → ∃ vs : List Value, vss[j]? = some vs ∧ (a.eval u).cells = vs.toArray ∧ vs.length = cellsN T) ∧ xs.length = us.length
 | [], [], env, env', ob, xs, hC, _, h => by
   simp only [buildL, Option.some.injEq, Prod.mk.injEq] at h
   obtain ⟨rfl, rfl⟩ := h
   exact ⟨ob, [], Frz.refl _, hC, ⟨rfl, rfl⟩, rfl, fun j u hu => by simp at hu, rfl⟩
 | u :: us, y :: ys, env, env', ob, xs, hC, hok, h => by
   simp only [okOds, Bool.and_eq_true] at hok
   simp only [buildL, Option.bind_eq_some_iff, Option.some.injEq, Prod.mk.injEq] at h
   obtain ⟨⟨env1, z⟩, hz, x, hx, ⟨env2, xs2⟩, h2, rfl, rfl⟩ := h
   obtain ⟨ob1, hf1, hC1, vs, hv, hFz⟩ := pub_rep hC hok.1 hz
   have hzz := cast?_some hx
   simp only at hzz; subst hzz
   replace hFz : Flat P T w (Gd B G0 ob1) B .no x vs [] := hFz
   replace hv : a.eval u = asVal T vs := hv
   obtain ⟨ob2, vss, hf2, hC2, hE, hl, hcs, hxl⟩ := buildL_sound hC1 hok.2 h2
   refine ⟨ob2, vs :: vss, hf1.trans hf2, hC2, ⟨vs, vss.flatten, [], [], rfl, rfl, Flat.mono P T (fun b i _ hg => ⟨hf2.Gd hg, rfl⟩) (Later.refl _ _) (fun _ _ => rfl) hFz, hE⟩, by simp [hl], fun j w' hj => ?_, by simp [hxl]⟩
   cases j with
   | zero =>
     simp only [List.getElem?_cons_zero, Option.some.injEq] at hj; subst hj
     exact ⟨vs, rfl, by rw [hv]; exact cells_asVal (Flat.len P T hFz) (Flat.one P T rfl hFz), Flat.len P T hFz⟩
   | succ j => simpa using hcs j w' (by simpa using hj)
 | [], _ :: _, _, _, _, _, _, hok, _ => by simp [okOds] at hok
 | _ :: _, [], _, _, _, _, _, hok, _ => by simp [okOds] at hok
theorem okIdx_get : ∀ (l : List (Nat × Operand)) (k j : Nat) (q : Nat × Operand), okIdx l k = true → l[j]? = some q → q.1 = k + j
 | [], _, _, _, _, h => by simp at h
 | (i, u) :: r, k, 0, q, h, hq => by
   simp only [okIdx, Bool.and_eq_true, beq_iff_eq] at h
   simp only [List.getElem?_cons_zero, Option.some.injEq] at hq
   subst hq; exact h.1
 | (i, u) :: r, k, j + 1, q, h, hq => by
   simp only [okIdx, Bool.and_eq_true, beq_iff_eq] at h
   have := okIdx_get r (k + 1) j q h.2 (by simpa using hq)
   omega
theorem st_buildSlice {t e : TypeId} {T : Ty} {m : Nat} {us : Array (Nat × Operand)} {ys : List Od} (hC : Conc P B G0 W0 n env a.tmps w ob) (hK : KOk P B G0 W0 n a K r next) (hd : ∀ k, o.dst = some k → k < n) (hdst : i.dst = o.dst)
  (ho : o.op = .buildSlice t m us) (hi : i.op = .buildSlice e T ys) (hu : P.underlying t = some (.slice e)) (hT : TyR P e T) (hz : ZeroOk P e T) (hm : us.size = m) (hidx : okIdx us.toList 0 = true) (hok : okOds (us.toList.map (·.2)) ys = true)
  (hlim : m * cellsN T ≤ 2 ^ 24) (hm24 : m ≤ 2 ^ 24) (h : step cl i env K = some r) : o.wp P a w next Q := by
 unfold step at h; rw [hi] at h; simp only [hdst, Option.bind_eq_some_iff] at h
 obtain ⟨⟨env', xs⟩, hx, h⟩ := h
 obtain ⟨ob', vss, hf, hC', hE, hl, hcs, hxl⟩ := buildL_sound hC hok hx
 obtain ⟨it, z, zs, h1, h2, h3, h4⟩ := hz.ok
 have hml : xs.length = m := by rw [hxl, List.length_map, Array.length_toList, hm]
 have hfl : vss.flatten.length = m * cellsN T := by rw [Elems.length (fun x v b hx => Flat.len P T hx) hE, hml]
 have hfill : ∀ cells : Array Value, cells.size = m * cellsN T → Instr.fill (fun i => some (i * cellsN T, cellsN T)) cells (us.map fun x => (x.1, a.eval x.2)).toList = some vss.flatten.toArray := by
  intro cells hsz
  have := fill_row (cellsN T) (us.map fun x => (x.1, a.eval x.2)).toList 0 [] vss cells (by simp [hl]) (fun j q hq => ?_) ⟨cells.toList, by simp, by simp [hm, hsz]⟩ (by simp)
  ·simpa using this
  ·simp only [Array.toList_map, List.getElem?_map, Option.map_eq_some_iff] at hq
   obtain ⟨p, hp, rfl⟩ := hq
   obtain ⟨vs, k1, k2, k3⟩ := hcs j p.2 (by simp only [List.getElem?_map, hp]; rfl)
   exact ⟨okIdx_get _ _ _ _ hidx hp, vs, k1, k2, k3⟩
 refine wp_value (v := .slice (some ⟨w.heap.size, 0, none⟩) m m) (w' := w.alloc (.cells vss.flatten.toArray e)) ?_ ?_
 ·have hlim' : ¬ (2 ^ 24 < m * cellsN T) := by omega
  simp only [execOp, ho, Instr.buildSlice, Sem.run_bind, run_underlying hu, Result.andThen_ok, run_sizeT hT, gt_iff_lt, hlim', if_false]
  by_cases hmz : m * cellsN T = 0
  ·rw [if_pos hmz]
   simp only [Sem.run_bind, Sem.run_pure, Result.andThen_ok]
   rw [hfill _ (by simp)]
   simp [newRow]
  ·rw [if_neg hmz]
   simp only [Sem.run_bind, zeroValue, typeInfo, run_program, h1, h2, Sem.run_pure, Result.andThen_ok]
   rw [hfill _ (by simp)]
   simp [newRow]
 ·rw [← hml]
  refine own_new hC' hK hd hE (by rw [hml, ← hfl]; exact List.take_length) (by simp only [List.size_toArray]; rw [hfl, hml]) (Nat.le_refl _) ?_ h
  rw [hml]; unfold maxLen; omega
end
end Go.Fw
