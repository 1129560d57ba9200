/- Soundness, part 6: what is held goes over; what is held is shared. -/
import Derived.Test.YtggppceiapjadaaFwS5
set_option linter.unusedVariables false
set_option linter.unusedSimpArgs false
namespace Go.Fw
open Go Go.RowKit

section
variable {P : Program} {B : Nat} {G0 : Nat → Nat → Prop} {W0 : World} {n : Nat} {env : Env} {tm : Array Value} {a : Act} {w : World} {ob : Nat → OB}

theorem Gd_sub {ob' : Nat → OB} (h : ∀ j b lim, (b, lim) ∈ ob' j → ∃ j' lim', (b, lim') ∈ ob j' ∧ lim' ≤ lim) {b i : Nat} (hg : Gd B G0 ob b i) : Gd B G0 ob' b i := by
  rcases hg with hg | ⟨h1, h2⟩
  · exact .inl hg
  · refine .inr ⟨h1, fun j lim hj => ?_⟩
    obtain ⟨j', lim', h3, h4⟩ := h j b lim hj
    exact Nat.lt_of_lt_of_le (h2 j' lim' h3) h4

/-- the home's own lemma: k's goes over to d -/
def shO (ob : Nat → OB) (k d : Nat) : Nat → OB := updO (updO ob k []) d (ob k)

theorem shO_d (k d : Nat) : shO ob k d d = ob k := updO_same _ _ _
theorem shO_k {k d : Nat} (h : k ≠ d) : shO ob k d k = [] := by unfold shO; rw [updO_other _ _ h, updO_same]
theorem shO_other {k d j : Nat} (h1 : j ≠ k) (h2 : j ≠ d) : shO ob k d j = ob j := by unfold shO; rw [updO_other _ _ h2, updO_other _ _ h1]

theorem shO_from {k d : Nat} {j : Nat} {q : Nat × Nat} (h : q ∈ shO ob k d j) : (j = d ∧ q ∈ ob k) ∨ (j ≠ d ∧ j ≠ k ∧ q ∈ ob j) := by
  by_cases hd : j = d
  · subst hd; rw [shO_d] at h; exact .inl ⟨rfl, h⟩
  · by_cases hk : j = k
    · subst hk; rw [shO_k hd] at h; exact absurd h (by simp)
    · rw [shO_other hk hd] at h; exact .inr ⟨hd, hk, h⟩

theorem mem_blocks {b : Nat} {l : OB} : b ∈ blocks l ↔ ∃ lim, (b, lim) ∈ l := by
  unfold blocks
  rw [List.mem_map]
  constructor
  · rintro ⟨⟨x, y⟩, h, rfl⟩; exact ⟨y, h⟩
  · rintro ⟨y, h⟩; exact ⟨(b, y), h, rfl⟩

theorem shO_dist (hC : Conc P B G0 W0 n env tm w ob) {k d : Nat} (i j b : Nat) (hi : b ∈ blocks (shO ob k d i)) (hj : b ∈ blocks (shO ob k d j)) : i = j := by
  obtain ⟨l1, hi⟩ := mem_blocks.1 hi
  obtain ⟨l2, hj⟩ := mem_blocks.1 hj
  rcases shO_from hi with ⟨e1, q1⟩ | ⟨h1, h2, q1⟩ <;> rcases shO_from hj with ⟨e2, q2⟩ | ⟨h3, h4, q2⟩
  · rw [e1, e2]
  · exact absurd (hC.dist _ _ b (mem_blocks.2 ⟨_, q2⟩) (mem_blocks.2 ⟨_, q1⟩)) h4
  · exact absurd (hC.dist _ _ b (mem_blocks.2 ⟨_, q1⟩) (mem_blocks.2 ⟨_, q2⟩)) h2
  · exact hC.dist _ _ b (mem_blocks.2 ⟨_, q1⟩) (mem_blocks.2 ⟨_, q2⟩)

theorem shO_nodup (hC : Conc P B G0 W0 n env tm w ob) {k d : Nat} (j : Nat) : (blocks (shO ob k d j)).Nodup := by
  by_cases hd : j = d
  · subst hd; rw [shO_d]; exact hC.nodup k
  · by_cases hk : j = k
    · subst hk; rw [shO_k hd]; simp
    · rw [shO_other hk hd]; exact hC.nodup j

theorem shO_low (hC : Conc P B G0 W0 n env tm w ob) {k d : Nat} (j b : Nat) (h : b ∈ blocks (shO ob k d j)) : B ≤ b ∧ b < w.heap.size := by
  obtain ⟨l, h⟩ := mem_blocks.1 h
  rcases shO_from h with ⟨_, h⟩ | ⟨_, _, h⟩ <;> exact hC.low _ b (mem_blocks.2 ⟨_, h⟩)

theorem shO_Gd {k d b i : Nat} (h : Gd B G0 ob b i) : Gd B G0 (shO ob k d) b i :=
  Gd_sub (fun j b lim hj => by rcases shO_from hj with ⟨_, h⟩ | ⟨_, _, h⟩ <;> exact ⟨_, lim, h, Nat.le_refl _⟩) h

theorem look_env1 (env : Env) (d j : Nat) : look (if (look env d).home = true then kill d env else env) j = if (look env d).home = true ∧ leads d (look env j) = true then .dead else look env j := by
  by_cases h : (look env d).home = true
  · simp only [h, if_true, true_and, look_kill]
  · simp [h]

theorem mvE_home {k d : Nat} {e : E} (h : e.home = true) : mvE k d e = e := by
  cases e <;> first | rfl | (exfalso; simp [E.home] at h; done)

theorem mvE_stays {k d : Nat} {e : E} (h : ¬ leads k e = true) : mvE k d e = e := by
  cases e with
  | ref s p => simp only [leads] at h; simp only [mvE]; rw [if_neg h]
  | ptre s p i q => simp only [leads] at h; simp only [mvE]; rw [if_neg h]
  | clo f A C caps => simp only [mvE]; rw [if_neg h]
  | _ => rfl

theorem assign_own (hC : Conc P B G0 W0 n env tm w ob) {k d : Nat} (hkd : k ≠ d) (hd : d < n) {wr : Bool} {e : TypeId} {T : Ty} {o : Ann} {xs : List (den T)} (hk : look env k = .own wr e T o xs) :
    Conc P B G0 W0 n ((d, .own wr e T o xs) :: (k, .ref d []) :: moved k d (if (look env d).home = true then kill d env else env)) (tm.setIfInBounds d (tm.getD k undef)) w (shO ob k d) := by
  have hdt : d < tm.size := by rw [hC.size]; exact hd
  have hrk := hC.rep k
  rw [hk] at hrk
  have hlook : ∀ j, look ((d, E.own wr e T o xs) :: (k, .ref d []) :: moved k d (if (look env d).home = true then kill d env else env)) j =
      if d = j then .own wr e T o xs else if k = j then .ref d [] else mvE k d (if (look env d).home = true ∧ leads d (look env j) = true then .dead else look env j) := by
    intro j
    rw [look_cons, look_cons, look_moved, look_env1]
  refine Conc.step hC (Below.refl _ _) (fun b i _ h => ⟨shO_Gd h, rfl⟩) (fun j => ?_) (fun i j b => shO_dist hC i j b) (fun j => shO_nodup hC j) (fun j b => shO_low hC j b) (by rw [Array.size_setIfInBounds]; exact hC.size)
  by_cases hjd : j = d
  · subst hjd
    right
    rw [hlook, if_pos rfl, getD_set_same _ _ _ hdt, shO_d]
    exact Flat.mono P (.sl T) (fun b i _ h => ⟨shO_Gd h, rfl⟩) (Later.refl _ _) (fun _ _ => rfl) hrk
  · by_cases hjk : j = k
    · subst hjk
      right
      rw [hlook, if_neg (Ne.symm hjd), if_pos rfl, getD_set_other _ _ hjd, shO_k hkd]
      refine ⟨rfl, ?_, ?_⟩
      · simp only [headAt]; rw [hlook, if_pos rfl]; simp only; rw [getD_set_same _ _ _ hdt]
      · simp only [heldAt]; rw [hlook, if_pos rfl]; rfl
    · rw [hlook, if_neg (Ne.symm hjd), if_neg (Ne.symm hjk), getD_set_other _ _ hjd, shO_other hjk hjd]
      by_cases hkill : (look env d).home = true ∧ leads d (look env j) = true
      · right
        rw [if_pos hkill]
        exact (ERep.leads hkill.2 (hC.rep j)).2
      · rw [if_neg hkill]
        by_cases hl : leads k (look env j) = true
        · right
          have hrj := hC.rep j
          cases hej : look env j with
          | ref s p =>
            rw [hej] at hl hrj
            simp only [leads, beq_iff_eq] at hl; subst hl
            obtain ⟨h0, h1, h2⟩ := hrj
            simp only [headAt, hk] at h1
            cases p with
            | cons => exact absurd h1 (by simp)
            | nil =>
              simp only [Option.some.injEq] at h1
              simp only [mvE, beq_self_eq_true, if_true]
              refine ⟨h0, ?_, ?_⟩
              · simp only [headAt]; rw [hlook, if_pos rfl]; simp only; rw [getD_set_same _ _ _ hdt, h1]
              · simp only [heldAt]; rw [hlook, if_pos rfl]; rfl
          | ptre s p i q =>
            rw [hej] at hl hrj
            simp only [leads, beq_iff_eq] at hl; subst hl
            obtain ⟨h0, hh, g, m, c, h1, h2, h3, h4, h5⟩ := hrj
            simp only [headAt, hk] at h2
            simp only [heldAt, hk] at h1
            cases p with
            | cons => exact absurd h2 (by simp)
            | nil =>
              simp only [Option.some.injEq] at h1 h2
              simp only [mvE, beq_self_eq_true, if_true]
              refine ⟨h0, hh, g, m, c, ?_, ?_, h3, h4, h5⟩
              · simp only [heldAt]; rw [hlook, if_pos rfl]; simp only; rw [h1]
              · simp only [headAt]; rw [hlook, if_pos rfl]; simp only; rw [getD_set_same _ _ _ hdt, h2]
          | clo f A C caps =>
            rw [hej] at hl hrj
            simp only [mvE, hl, if_true]
            exact hrj.1
          | ptr s p =>
            rw [hej] at hl hrj
            simp only [leads, beq_iff_eq] at hl; subst hl
            obtain ⟨_, _, _, _, _, h1, _⟩ := hrj
            rw [hk] at h1; exact absurd h1 (by simp)
          | _ => rw [hej] at hl; exact absurd hl (by simp [leads])
        · left
          have hmv : mvE k d (look env j) = look env j := mvE_stays hl
          rw [hmv]
          refine ⟨rfl, rfl, rfl, fun _ _ => rfl, fun s hs => ?_⟩
          have hsh := ERep.leads hs (hC.rep j)
          have hsk : s ≠ k := by rintro rfl; exact hl hs
          have hsd : s ≠ d := by rintro rfl; exact hkill ⟨hsh.1, hs⟩
          refine HomeEq.same (P := P) ?_ (getD_set_other _ _ hsd) (hC.rep s) (fun _ _ => rfl)
          rw [hlook, if_neg (Ne.symm hsd), if_neg (Ne.symm hsk), leads_home hsh.1]
          simp only [Bool.false_eq_true, and_false, if_false]
          exact mvE_home hsh.1

theorem move_tup (hC : Conc P B G0 W0 n env tm w ob) {k d : Nat} (hkd : k ≠ d) (hd : d < n) {es : List E} (hk : look env k = .tup es) :
    Conc P B G0 W0 n ((d, .tup es) :: (k, .dead) :: (if (look env d).home = true then kill d env else env)) (tm.setIfInBounds d (tm.getD k undef)) w (shO ob k d) := by
  have hdt : d < tm.size := by rw [hC.size]; exact hd
  have hrk := hC.rep k
  rw [hk] at hrk
  have hlook : ∀ j, look ((d, E.tup es) :: (k, .dead) :: (if (look env d).home = true then kill d env else env)) j =
      if d = j then .tup es else if k = j then .dead else (if (look env d).home = true ∧ leads d (look env j) = true then .dead else look env j) := by
    intro j
    rw [look_cons, look_cons, look_env1]
  refine Conc.step hC (Below.refl _ _) (fun b i _ h => ⟨shO_Gd h, rfl⟩) (fun j => ?_) (fun i j b => shO_dist hC i j b) (fun j => shO_nodup hC j) (fun j b => shO_low hC j b) (by rw [Array.size_setIfInBounds]; exact hC.size)
  by_cases hjd : j = d
  · subst hjd
    right
    rw [hlook, if_pos rfl, getD_set_same _ _ _ hdt, shO_d]
    exact ERep.keep (e := .tup es) (fun b i _ h => ⟨shO_Gd h, rfl⟩) (Later.refl _ _) (fun _ _ => rfl) (fun s hs => by simp [leads] at hs) hrk
  · by_cases hjk : j = k
    · subst hjk
      right
      rw [hlook, if_neg (Ne.symm hjd), if_pos rfl, shO_k hkd]
      exact rfl
    · rw [hlook, if_neg (Ne.symm hjd), if_neg (Ne.symm hjk), getD_set_other _ _ hjd, shO_other hjk hjd]
      by_cases hkill : (look env d).home = true ∧ leads d (look env j) = true
      · right
        rw [if_pos hkill]
        exact (ERep.leads hkill.2 (hC.rep j)).2
      · rw [if_neg hkill]
        left
        refine ⟨rfl, rfl, rfl, fun _ _ => rfl, fun s hs => ?_⟩
        have hsh := ERep.leads hs (hC.rep j)
        have hsk : s ≠ k := by rintro rfl; rw [hk] at hsh; exact absurd hsh.1 (by simp [E.home])
        have hsd : s ≠ d := by rintro rfl; exact hkill ⟨hsh.1, hs⟩
        refine HomeEq.same (P := P) ?_ (getD_set_other _ _ hsd) (hC.rep s) (fun _ _ => rfl)
        rw [hlook, if_neg (Ne.symm hsd), if_neg (Ne.symm hsk), leads_home hsh.1]
        simp

variable {R : Type} {K : Kont R} {r : R} {next : Act → World → Prop}

theorem okOd_t {x : Operand} {k : Nat} (h : okOd x (.t k) = true) (a : Act) : a.eval x = a.tmps.getD k undef := by
  unfold okOd at h
  split at h <;> first | (rename_i k1 k2 _ hh; cases hh; rw [beq_iff_eq] at h; subst h; rfl) | (rename_i hh; cases hh; done) | (exact absurd h (by simp))

theorem set_self (tm : Array Value) (k : Nat) : tm.setIfInBounds k (tm.getD k undef) = tm := by
  apply Array.ext
  · simp
  · intro i h1 h2
    rw [Array.getElem_setIfInBounds]
    split
    · rename_i h; subst h; simp [Array.getD, h2]
    · rfl

theorem fin_move (hC : Conc P B G0 W0 n env a.tmps w ob) (hK : KOk P B G0 W0 n a K r next) {d : Option Nat} {x : Operand} {y : Od} (hx : okOd x y = true) (hd : ∀ k, d = some k → k < n)
    (hk : K (moveE env d y) = some r) : next (a.put d (a.eval x)) w := by
  unfold moveE at hk
  split at hk
  · rename_i es he
    split at hk
    · rename_i k d'
      simp only [ent] at he
      have hev := okOd_t hx a
      by_cases hkd : k = d'
      · subst hkd
        rw [if_pos (by simp)] at hk
        have := hK _ _ _ _ hC hk
        rw [hev]
        simpa only [Act.put, set_self] using this
      · rw [if_neg (by simpa using hkd)] at hk
        have := hK _ _ _ _ (move_tup hC hkd (hd d' rfl) he) hk
        rw [hev]
        exact this
    · exact fin0 hC hK hd (Grows.refl w) (e := .dead) rfl hk
  · exact fin_copy hC hK hx hd hk

theorem fin_assign (hC : Conc P B G0 W0 n env a.tmps w ob) (hK : KOk P B G0 W0 n a K r next) {d : Nat} {x : Operand} {y : Od} (hx : okOd x y = true) (hd : d < n)
    (hk : K (assign env d y) = some r) : next (a.put (some d) (a.eval x)) w := by
  unfold assign at hk
  split at hk
  · rename_i wr e T o xs he
    split at hk
    · rename_i k
      simp only [ent] at he
      have hev := okOd_t hx a
      by_cases hkd : k = d
      · subst hkd
        rw [if_pos (by simp)] at hk
        have := hK _ _ _ _ hC hk
        rw [hev]
        simpa only [Act.put, set_self] using this
      · rw [if_neg (by simpa using hkd)] at hk
        have := hK _ _ _ _ (assign_own hC hkd hd he) hk
        rw [hev]
        exact this
    · rename_i hnt
      cases y with
      | t k => exact absurd rfl (hnt k)
      | c T x => simp [ent] at he
      | fn f A C => simp [ent] at he
      | nil e' T' =>
        have hr := copy_rep hC hx
        rcases hr with h | ⟨wr', e2, T2, o2, xs2, h1, _, h3, h4⟩
        · have : copyE (.nil e' T') (ent env (.nil e' T')) = .own true e' T' .no [] := rfl
          simp only [ent] at he
          cases he
          have hr2 := ent_rep hC hx
          have hv : a.eval x = .slice none 0 0 := by
            unfold okOd at hx
            split at hx <;> first | (rename_i hh; cases hh; exact eq1_eq hx) | (rename_i hh; cases hh; done) | (exact absurd hx (by simp))
          rw [hv]
          exact fin_nil hC hK (d := some d) (fun k hk => by cases hk; exact hd) hk
        · simp only [ent] at he
          cases he
          rw [h4]
          exact fin_nil hC hK (d := some d) (fun k hk => by cases hk; exact hd) hk
  · refine fin_copy hC hK (d := some d) hx (fun k hk => by cases hk; exact hd) hk

end
end Go.Fw
