/- Soundness, part 3: how a state of the machine goes on to hold. -/
import Derived.Test.YtggppceiapjadaaFwS2
set_option linter.unusedVariables false
set_option linter.unusedSimpArgs false
namespace Go.Fw
open Go Go.RowKit

/-! ### Looking up -/
theorem look_cons (j : Nat) (e : E) (env : Env) (k : Nat) : look ((j, e) :: env) k = if j = k then e else look env k := by
  simp only [look]
  cases hd : Nat.decEq j k with
  | isTrue h => rw [if_pos h]
  | isFalse h => rw [if_neg h]

theorem look_map (f : E → E) (hf : f .dead = .dead) : ∀ (env : Env) (k : Nat), look (env.map fun q => (q.1, f q.2)) k = f (look env k)
  | [], k => hf.symm
  | (j, e) :: r, k => by
    rw [List.map_cons, look_cons, look_cons, look_map f hf r k]
    split <;> rfl

theorem look_kill (s : Nat) (env : Env) (k : Nat) : look (kill s env) k = if leads s (look env k) then .dead else look env k := by
  have : kill s env = env.map fun q => (q.1, if leads s q.2 then E.dead else q.2) := by
    unfold kill
    apply List.map_congr_left
    intro q _
    split <;> rfl
  rw [this, look_map (fun e => if leads s e then E.dead else e) (by simp)]

def mvE (s d : Nat) : E → E
  | .ref k p => if k == s then .ref d p else .ref k p
  | .ptre k p i r => if k == s then .ptre d p i r else .ptre k p i r
  | .clo f A C caps => if leads s (.clo f A C caps) then .dead else .clo f A C caps
  | .dead => .dead
  | .und => .und
  | .v T x => .v T x
  | .own wr e T o xs => .own wr e T o xs
  | .loc T o x => .loc T o x
  | .ptr k p => .ptr k p
  | .at T x => .at T x
  | .tup es => .tup es
  | .it s p => .it s p
  | .nw T o x => .nw T o x

theorem look_moved (s d : Nat) (env : Env) (k : Nat) : look (moved s d env) k = mvE s d (look env k) := by
  have : moved s d env = env.map fun q => (q.1, mvE s d q.2) := by
    unfold moved
    apply List.map_congr_left
    intro q _
    obtain ⟨j, e⟩ := q
    cases e <;> simp only [mvE] <;> split <;> rfl
  rw [this, look_map (mvE s d) rfl]

theorem look_keepL (f : E → E) : ∀ (live : List Nat) (env : Env) (k : Nat), look (live.map fun k => (k, f (look env k))) k = if k ∈ live then f (look env k) else .dead
  | [], env, k => by simp [look]
  | j :: live, env, k => by
    have ih := look_keepL f live env k
    rw [List.map_cons, look_cons, ih]
    by_cases h : j = k
    · subst h; simp
    · rw [if_neg h]
      simp only [List.mem_cons]
      by_cases h' : k ∈ live
      · simp [h']
      · have : k ≠ j := fun e => h e.symm
        simp [h', this]

theorem look_keep (live : List Nat) (env : Env) (k : Nat) : look (keep live env) k = if k ∈ live then keepE live (look env k) else .dead := look_keepL (keepE live) live env k

theorem leads_led {s : Nat} {e : E} (h : leads s e = true) : s ∈ ledTo e := by
  cases e <;> simp only [leads] at h <;> first | (exfalso; simp at h; done) | skip
  · simp only [ledTo, led1, List.mem_singleton]; simpa using (beq_iff_eq.1 h).symm
  · simp only [ledTo, led1, List.mem_singleton]; simpa using (beq_iff_eq.1 h).symm
  · simp only [ledTo, led1, List.mem_singleton]; simpa using (beq_iff_eq.1 h).symm
  · rename_i f A C caps
    simp only [List.any_eq_true] at h
    obtain ⟨c, hc, h⟩ := h
    simp only [ledTo, List.mem_flatMap]
    refine ⟨c, hc, ?_⟩
    cases c <;> simp only [led1, List.mem_singleton] at h ⊢ <;> first | (exact (beq_iff_eq.1 h).symm) | (exfalso; simp at h; done)

theorem keepE_or (live : List Nat) (e : E) : (keepE live e = e ∧ ∀ s, leads s e = true → s ∈ live) ∨ keepE live e = .dead := by
  unfold keepE
  split
  · rename_i h
    refine .inl ⟨rfl, fun s hs => ?_⟩
    have := List.all_eq_true.1 h s (leads_led hs)
    obtain ⟨k, hk, h2⟩ := List.any_eq_true.1 this
    rw [beq_iff_eq] at h2; subst h2; exact hk
  · exact .inr rfl

theorem look_put (env : Env) (k : Nat) (e : E) (j : Nat) : look (put env k e) j = if k = j then (if leads k e then .dead else e) else if (look env k).home = true ∧ leads k (look env j) = true then .dead else look env j := by
  unfold put
  rw [look_cons]
  split
  · rfl
  · split
    · rename_i hh
      rw [look_kill]
      by_cases hl : leads k (look env j) = true
      · simp [hl, hh]
      · simp [hl]
    · rename_i hh
      simp [hh]

theorem leads_home {s : Nat} {e : E} (h : e.home = true) : leads s e = false := by cases e <;> simp_all [E.home, leads]

/-! ### Homes that stay -/
def HomeEq (w : World) (tm : Array Value) (env : Env) (w' : World) (tm' : Array Value) (env' : Env) (s : Nat) : Prop :=
  (∀ p v, (heldAt env s p).isSome = true → headAt w tm env s p = some v → headAt w' tm' env' s p = some v) ∧
  (∀ p h, heldAt env s p = some h → ∃ h', heldAt env' s p = some h' ∧ h'.T = h.T ∧ h'.xs.length = h.xs.length) ∧
  (∀ T o x, look env s = .loc T o x → ∃ o' x', look env' s = .loc T o' x' ∧ tm'.getD s undef = tm.getD s undef)

theorem heldAt_of_look {env env' : Env} {s : Nat} (h : look env' s = look env s) (p : Path) : heldAt env' s p = heldAt env s p := by simp [heldAt, h]

theorem HomeEq.same {P : Program} {w w' : World} {G : Nat → Nat → Prop} {B : Nat} {tm tm' : Array Value} {env env' : Env} {s : Nat} {ob : OB}
    (hl : look env' s = look env s) (ht : tm'.getD s undef = tm.getD s undef) (hr : ERep P w G B tm env (look env s) (tm.getD s undef) ob) (hO : ∀ g ∈ blocks ob, w'.heap[g]? = w.heap[g]?) :
    HomeEq w tm env w' tm' env' s := by
  refine ⟨fun p v _ hv => ?_, fun p h hh => ⟨h, by rw [heldAt_of_look hl]; exact hh, rfl, rfl⟩, fun T o x hx => ⟨o, x, by rw [hl]; exact hx, ht⟩⟩
  unfold headAt at hv ⊢
  rw [hl, ht]
  cases he : look env s with
  | own wr e T o xs => rw [he] at hv; exact hv
  | loc T o x =>
    rw [he] at hv hr
    obtain ⟨b, cur, e, ob', hp, _, hb, _, rfl⟩ := hr
    simp only [hp] at hv ⊢
    rw [World.cell?_of_block (w := w) (hO b (by simp))]
    exact hv
  | dead => simp [he] at hv
  | und => simp [he] at hv
  | v => simp [he] at hv
  | ref => simp [he] at hv
  | ptr => simp [he] at hv
  | ptre => simp [he] at hv
  | «at» => simp [he] at hv
  | tup => simp [he] at hv
  | clo => simp [he] at hv
  | it => simp [he] at hv
  | nw => simp [he] at hv

theorem cell?_below {B : Nat} {w w' : World} (hL : Later B w w') {b i : Nat} (h : b < B) : w'.cell? ⟨b, i, none⟩ = w.cell? ⟨b, i, none⟩ := World.cell?_of_block (w := w) (hL.2 b h)

theorem ERep1.keep {P : Program} {w w' : World} {G G' : Nat → Nat → Prop} {B : Nat} {tm tm' : Array Value} {env env' : Env} {e : E} {v : Value} {ob : OB}
    (hG : ∀ b i, b < w.heap.size → G b i → G' b i ∧ w'.cell? ⟨b, i, none⟩ = w.cell? ⟨b, i, none⟩) (hL : Later B w w') (hO : ∀ g ∈ blocks ob, w'.heap[g]? = w.heap[g]?)
    (hH : ∀ s, leads s e = true → HomeEq w tm env w' tm' env' s) (h : ERep1 P w G B tm env e v ob) : ERep1 P w' G' B tm' env' e v ob := by
  cases e with
  | dead => exact h
  | und => exact h
  | v T x => obtain ⟨h0, vs, h1, h2⟩ := h; exact ⟨h0, vs, Flat.mono P T hG hL (by simp) h1, h2⟩
  | own wr e T o xs => exact Flat.mono P (.sl T) hG hL hO h
  | loc T o x =>
    obtain ⟨b, cur, e, ob', h1, h2, h3, h4, rfl⟩ := h
    exact ⟨b, cur, e, ob', h1, h2, by rw [hO b (by simp)]; exact h3, Flat.mono P T hG hL (fun g hg => hO g (by simp [hg])) h4, rfl⟩
  | ref s p =>
    obtain ⟨h0, h1, h2⟩ := h
    have hs := hH s (by simp [leads])
    obtain ⟨q, hq⟩ := Option.isSome_iff_exists.1 h2
    obtain ⟨q', hq', _⟩ := hs.2.1 p q hq
    exact ⟨h0, hs.1 p v h2 h1, by rw [hq']; rfl⟩
  | ptr s p =>
    obtain ⟨h0, T, o, x, b, h1, h2, h3, h4⟩ := h
    have hs := hH s (by simp [leads])
    obtain ⟨o', x', h5, h6⟩ := hs.2.2 T o x h1
    exact ⟨h0, T, o', x', b, h5, by rw [h6]; exact h2, h3, h4⟩
  | ptre s p i q =>
    obtain ⟨h0, hh, g, n, c, h1, h2, h3, h4, h5⟩ := h
    have hs := hH s (by simp [leads])
    obtain ⟨h', h6, h7, h8⟩ := hs.2.1 p hh h1
    exact ⟨h0, h', g, n, c, h6, hs.1 p _ (by rw [h1]; rfl) h2, by rw [h8]; exact h3, by rw [h7]; exact h4, by rw [h7]; exact h5⟩
  | «at» T x =>
    obtain ⟨h0, b, off, vs, h1, h2, h3⟩ := h
    refine ⟨h0, b, off, vs, h1, Flat.mono P T hG hL (by simp) h2, fun j u hj => ?_⟩
    obtain ⟨h4, h5⟩ := h3 j u hj
    rcases h5 with h5 | h5
    · exact ⟨(cell?_below hL h5).trans h4, .inl h5⟩
    · have hlt : b < w.heap.size := World.block_lt_of_cell? w _ h4
      have := hG b (off + j) hlt h5
      exact ⟨this.2.trans h4, .inr this.1⟩
  | tup => exact h.elim
  | clo => exact h.elim
  | nw T o x => obtain ⟨h0, vs, h1, h2⟩ := h; exact ⟨h0, vs, Flat.mono P T hG hL (by simp) h1, h2⟩
  | it s pos =>
    obtain ⟨b, h1, h2, h3, h4, rfl⟩ := h
    exact ⟨b, h1, h2, by rw [hO b (by simp)]; exact h3, h4, rfl⟩

theorem TupRep.imp {R S : E → Value → OB → Prop} : ∀ {es : List E} {vs : List Value} {ob : OB}, (∀ e ∈ es, ∀ v b, (∀ q ∈ b, q ∈ ob) → R e v b → S e v b) → TupRep R es vs ob → TupRep S es vs ob
  | [], _, _, _, h => h
  | e :: es, _, _, f, h => by
    obtain ⟨v, r, b1, b2, rfl, rfl, h1, h2⟩ := h
    exact ⟨v, r, b1, b2, rfl, rfl, f e (List.mem_cons_self ..) v b1 (fun q hq => List.mem_append_left _ hq) h1, TupRep.imp (fun e he v b hb => f e (List.mem_cons_of_mem _ he) v b fun q hq => List.mem_append_right _ (hb q hq)) h2⟩

theorem ERep.keep {P : Program} {w w' : World} {G G' : Nat → Nat → Prop} {B : Nat} {tm tm' : Array Value} {env env' : Env} {e : E} {v : Value} {ob : OB}
    (hG : ∀ b i, b < w.heap.size → G b i → G' b i ∧ w'.cell? ⟨b, i, none⟩ = w.cell? ⟨b, i, none⟩) (hL : Later B w w') (hO : ∀ g ∈ blocks ob, w'.heap[g]? = w.heap[g]?)
    (hH : ∀ s, leads s e = true → HomeEq w tm env w' tm' env' s) (h : ERep P w G B tm env e v ob) : ERep P w' G' B tm' env' e v ob := by
  cases e with
  | tup es =>
    obtain ⟨h0, vs, h1, h2⟩ := h
    refine ⟨h0, vs, h1, TupRep.imp (fun e he v b hb hr => ERep1.keep hG hL (fun g hg => ?_) (fun s hs => ?_) hr) h2⟩
    · obtain ⟨q, hq, rfl⟩ := List.mem_map.1 hg
      exact hO _ (List.mem_map.2 ⟨q, hb q hq, rfl⟩)
    · rw [h0 e he s] at hs; exact absurd hs (by simp)
  | clo f A C caps =>
    obtain ⟨h0, cv, h1, h2⟩ := h
    refine ⟨h0, cv, h1, TupRep.imp (fun e he v b hb hr => ERep1.keep hG hL (fun g hg => ?_) (fun s hs => ?_) hr) h2⟩
    · obtain ⟨q, hq, rfl⟩ := List.mem_map.1 hg
      exact absurd (hb q hq) (by simp)
    · refine hH s ?_
      simp only [leads, List.any_eq_true]
      refine ⟨e, he, ?_⟩
      cases e <;> simp only [leads] at hs ⊢ <;> first | exact hs | exact (hr : False).elim | exact absurd hs (by simp)
  | dead => exact h
  | und => exact h
  | v T x => exact ERep1.keep (P := P) (e := .v T x) hG hL hO hH h
  | own wr e T o xs => exact ERep1.keep (P := P) (e := .own wr e T o xs) hG hL hO hH h
  | loc T o x => exact ERep1.keep (P := P) (e := .loc T o x) hG hL hO hH h
  | ref s p => exact ERep1.keep (P := P) (e := .ref s p) hG hL hO hH h
  | ptr s p => exact ERep1.keep (P := P) (e := .ptr s p) hG hL hO hH h
  | ptre s p i q => exact ERep1.keep (P := P) (e := .ptre s p i q) hG hL hO hH h
  | «at» T x => exact ERep1.keep (P := P) (e := .at T x) hG hL hO hH h
  | it s pos => exact ERep1.keep (P := P) (e := .it s pos) hG hL hO hH h
  | nw T o x => exact ERep1.keep (P := P) (e := .nw T o x) hG hL hO hH h

/-- an entry that leads to a slot: the slot is a home, and the entry holds nothing -/
theorem ERep.leads {P : Program} {w : World} {G : Nat → Nat → Prop} {B : Nat} {tm : Array Value} {env : Env} {e : E} {v : Value} {ob : OB} {s : Nat}
    (hs : leads s e = true) (h : ERep P w G B tm env e v ob) : (look env s).home = true ∧ ob = [] := by
  have key : ∀ {e : E} {v : Value} {ob : OB}, Fw.leads s e = true → ERep1 P w G B tm env e v ob → (look env s).home = true ∧ ob = [] := by
    intro e v ob hs h
    cases e <;> simp only [Fw.leads] at hs <;> first | exact (h : False).elim | (exfalso; simp at hs; done) | skip
    · simp only [beq_iff_eq] at hs; subst hs
      obtain ⟨h0, h1, _⟩ := h
      refine ⟨?_, h0⟩
      unfold headAt at h1
      split at h1 <;> first | (rename_i hq; rw [hq]; rfl) | exact absurd h1 (by simp)
    · simp only [beq_iff_eq] at hs; subst hs
      obtain ⟨h0, T, o, x, b, h1, _⟩ := h
      exact ⟨by rw [h1]; rfl, h0⟩
    · simp only [beq_iff_eq] at hs; subst hs
      obtain ⟨h0, hh, g, n, c, _, h2, _⟩ := h
      refine ⟨?_, h0⟩
      unfold headAt at h2
      split at h2 <;> first | (rename_i hq; rw [hq]; rfl) | exact absurd h2 (by simp)
  cases e with
  | tup => exact absurd hs (by simp [Fw.leads])
  | clo f A C caps =>
    obtain ⟨h0, cv, h1, h2⟩ := h
    refine ⟨?_, h0⟩
    simp only [Fw.leads, List.any_eq_true] at hs
    obtain ⟨c, hc, hs⟩ := hs
    have find : ∀ {es : List E} {vs : List Value} {ob : OB}, TupRep (ERep1 P w G B tm env) es vs ob → ∀ c ∈ es, ∃ v b, ERep1 P w G B tm env c v b := by
      intro es
      induction es with
      | nil => intro vs ob _ c hc; exact absurd hc (by simp)
      | cons e es ih =>
        rintro vs ob ⟨v, r, b1, b2, rfl, rfl, h1, h2⟩ c hc
        rcases List.mem_cons.1 hc with rfl | hc
        · exact ⟨v, b1, h1⟩
        · exact ih h2 c hc
    obtain ⟨v', b', hr⟩ := find h2 c hc
    refine (key (e := c) ?_ hr).1
    cases c <;> simp only [Fw.leads] at hs ⊢ <;> first | exact hs | exact (hr : False).elim | exact absurd hs (by simp)
  | dead => exact absurd hs (by simp [Fw.leads])
  | und => exact absurd hs (by simp [Fw.leads])
  | v => exact absurd hs (by simp [Fw.leads])
  | own => exact absurd hs (by simp [Fw.leads])
  | loc => exact absurd hs (by simp [Fw.leads])
  | ref s p => exact key (e := .ref s p) hs h
  | ptr s p => exact key (e := .ptr s p) hs h
  | ptre s p i q => exact key (e := .ptre s p i q) hs h
  | «at» => exact absurd hs (by simp [Fw.leads])
  | it => exact absurd hs (by simp [Fw.leads])
  | nw => exact absurd hs (by simp [Fw.leads])

/-! ### A state that goes on -/
section
variable {P : Program} {B : Nat} {G0 : Nat → Nat → Prop} {W0 : World} {n : Nat} {env env' : Env} {tm tm' : Array Value} {w w' : World} {ob ob' : Nat → OB}

theorem Conc.step (hC : Conc P B G0 W0 n env tm w ob) (hbel : Below B w w')
    (hG : ∀ b i, b < w.heap.size → Gd B G0 ob b i → Gd B G0 ob' b i ∧ w'.cell? ⟨b, i, none⟩ = w.cell? ⟨b, i, none⟩)
    (hrep : ∀ k, (look env' k = look env k ∧ tm'.getD k undef = tm.getD k undef ∧ ob' k = ob k ∧ (∀ g ∈ blocks (ob k), w'.heap[g]? = w.heap[g]?) ∧
        (∀ s, leads s (look env k) = true → HomeEq w tm env w' tm' env' s)) ∨
      ERep P w' (Gd B G0 ob') B tm' env' (look env' k) (tm'.getD k undef) (ob' k))
    (hdist : ∀ j k b, b ∈ blocks (ob' j) → b ∈ blocks (ob' k) → j = k) (hnodup : ∀ k, (blocks (ob' k)).Nodup)
    (hlow : ∀ k b, b ∈ blocks (ob' k) → B ≤ b ∧ b < w'.heap.size) (hsize : tm'.size = n) : Conc P B G0 W0 n env' tm' w' ob' where
  rep k := by
    rcases hrep k with ⟨h1, h2, h3, h4, h5⟩ | h
    · rw [h1, h2, h3]
      exact ERep.keep hG ⟨hbel.size, hbel.block⟩ h4 h5 (hC.rep k)
    · exact h
  dist := hdist
  nodup := hnodup
  low := hlow
  below := hC.below.trans hbel
  base := Nat.le_trans hC.base hbel.size
  size := hsize

def updO (ob : Nat → OB) (k : Nat) (b : OB) : Nat → OB := fun j => if j = k then b else ob j
theorem updO_same (ob : Nat → OB) (k : Nat) (b : OB) : updO ob k b k = b := by simp [updO]
theorem updO_other (ob : Nat → OB) {k j : Nat} (b : OB) (h : j ≠ k) : updO ob k b j = ob j := by simp [updO, h]

theorem getD_set_same (tm : Array Value) (k : Nat) (v : Value) (h : k < tm.size) : (tm.setIfInBounds k v).getD k undef = v := by
  simp [Array.getD, h]
theorem getD_set_other (tm : Array Value) {k j : Nat} (v : Value) (h : j ≠ k) : (tm.setIfInBounds k v).getD j undef = tm.getD j undef := by
  have : (tm.setIfInBounds k v)[j]? = tm[j]? := Array.getElem?_setIfInBounds_ne (Ne.symm h)
  simp only [Array.getD_eq_getD_getElem?, this]

/-- a new entry in a slot -/
theorem Conc.put (hC : Conc P B G0 W0 n env tm w ob) {k : Nat} {e : E} {v : Value} {bk : OB} (hk : k < n) (hbel : Below B w w')
    (hO : ∀ j, j ≠ k → ∀ g ∈ blocks (ob j), w'.heap[g]? = w.heap[g]?)
    (hG : ∀ b i, b < w.heap.size → Gd B G0 ob b i → Gd B G0 (updO ob k bk) b i ∧ w'.cell? ⟨b, i, none⟩ = w.cell? ⟨b, i, none⟩)
    (hnew : ERep P w' (Gd B G0 (updO ob k bk)) B (tm.setIfInBounds k v) (Fw.put env k e) (if leads k e then .dead else e) v bk)
    (hdist : ∀ j b, j ≠ k → b ∈ blocks (ob j) → b ∉ blocks bk) (hnodup : (blocks bk).Nodup) (hlow : ∀ b, b ∈ blocks bk → B ≤ b ∧ b < w'.heap.size) :
    Conc P B G0 W0 n (Fw.put env k e) (tm.setIfInBounds k v) w' (updO ob k bk) := by
  have hkt : k < tm.size := by rw [hC.size]; exact hk
  refine Conc.step hC hbel hG (fun j => ?_) ?_ ?_ ?_ (by rw [Array.size_setIfInBounds]; exact hC.size)
  · by_cases hj : j = k
    · subst hj
      right
      rw [look_put, if_pos rfl, getD_set_same _ _ _ hkt, updO_same]
      exact hnew
    · rw [look_put, if_neg (Ne.symm hj), getD_set_other _ _ hj, updO_other _ _ hj]
      by_cases hd : (look env k).home = true ∧ leads k (look env j) = true
      · right
        rw [if_pos hd]
        exact (ERep.leads hd.2 (hC.rep j)).2
      · left
        rw [if_neg hd]
        refine ⟨rfl, rfl, rfl, hO j hj, fun s hs => ?_⟩
        have hs2 := ERep.leads hs (hC.rep j)
        have hsk : s ≠ k := by rintro rfl; exact hd ⟨hs2.1, hs⟩
        refine HomeEq.same (P := P) ?_ (getD_set_other _ _ hsk) (hC.rep s) (hO s hsk)
        rw [look_put, if_neg (Ne.symm hsk), leads_home hs2.1]
        simp
  · intro i j b hi hj
    by_cases h1 : i = k
    · by_cases h2 : j = k
      · rw [h1, h2]
      · subst h1
        rw [updO_same] at hi; rw [updO_other _ _ h2] at hj
        exact absurd hi (hdist j b h2 hj)
    · by_cases h2 : j = k
      · subst h2
        rw [updO_same] at hj; rw [updO_other _ _ h1] at hi
        exact absurd hj (hdist i b h1 hi)
      · rw [updO_other _ _ h1] at hi; rw [updO_other _ _ h2] at hj
        exact hC.dist i j b hi hj
  · intro j
    by_cases h : j = k
    · subst h; rw [updO_same]; exact hnodup
    · rw [updO_other _ _ h]; exact hC.nodup j
  · intro j b hb
    by_cases h : j = k
    · subst h; rw [updO_same] at hb; exact hlow b hb
    · rw [updO_other _ _ h] at hb
      have := hC.low j b hb
      exact ⟨this.1, Nat.lt_of_lt_of_le this.2 hbel.size⟩

/-- memory that only grows -/
structure Grows (w w' : World) : Prop where
  os : w'.os = w.os
  tape : w'.tape = w.tape
  output : w'.output = w.output
  size : w.heap.size ≤ w'.heap.size
  block : ∀ k, k < w.heap.size → w'.heap[k]? = w.heap[k]?

theorem Grows.refl (w : World) : Grows w w := ⟨rfl, rfl, rfl, Nat.le_refl _, fun _ _ => rfl⟩
theorem Grows.alloc (w : World) (o : Obj) : Grows w (w.alloc o) := ⟨rfl, rfl, rfl, by simp, fun i hi => heap_alloc_old w o hi⟩
theorem Grows.drew (w : World) : Grows w w.drew := ⟨rfl, rfl, rfl, Nat.le_refl _, fun _ _ => rfl⟩
theorem Grows.trans {a b c : World} (h : Grows a b) (q : Grows b c) : Grows a c :=
  ⟨q.os.trans h.os, q.tape.trans h.tape, q.output.trans h.output, Nat.le_trans h.size q.size, fun i hi => (q.block i (Nat.lt_of_lt_of_le hi h.size)).trans (h.block i hi)⟩
theorem Grows.below {w w' : World} (h : Grows w w') {B : Nat} (hB : B ≤ w.heap.size) : Below B w w' := ⟨h.os, h.tape, h.output, h.size, fun k hk => h.block k (Nat.lt_of_lt_of_le hk hB)⟩
theorem Grows.cell {w w' : World} (h : Grows w w') {b i : Nat} (hb : b < w.heap.size) : w'.cell? ⟨b, i, none⟩ = w.cell? ⟨b, i, none⟩ := World.cell?_of_block (w := w) (h.block b hb)

theorem Gd_upd {k : Nat} {bk : OB} {b i : Nat} (hb : ∀ lim, (b, lim) ∈ bk → i < lim) (h : Gd B G0 ob b i) : Gd B G0 (updO ob k bk) b i := by
  rcases h with h | ⟨h1, h2⟩
  · exact .inl h
  · refine .inr ⟨h1, fun j lim hj => ?_⟩
    by_cases hjk : j = k
    · subst hjk; rw [updO_same] at hj; exact hb lim hj
    · rw [updO_other _ _ hjk] at hj; exact h2 j lim hj

/-- a new entry in a slot, where memory at most grows and what is held is new -/
theorem Conc.putG (hC : Conc P B G0 W0 n env tm w ob) {k : Nat} {e : E} {v : Value} {bk : OB} (hk : k < n) (hg : Grows w w')
    (hnew : ERep P w' (Gd B G0 (updO ob k bk)) B (tm.setIfInBounds k v) (Fw.put env k e) (if leads k e then .dead else e) v bk)
    (hbk : ∀ b ∈ blocks bk, w.heap.size ≤ b ∧ b < w'.heap.size) (hnodup : (blocks bk).Nodup) :
    Conc P B G0 W0 n (Fw.put env k e) (tm.setIfInBounds k v) w' (updO ob k bk) := by
  refine Conc.put hC hk (hg.below hC.base) (fun j _ g hg' => hg.block g (hC.low j g hg').2) (fun b i hb h => ⟨Gd_upd (fun lim hl => ?_) h, hg.cell hb⟩) hnew (fun j b _ hb hb' => ?_) hnodup (fun b hb => ?_)
  · have := (hbk b (List.mem_map.2 ⟨_, hl, rfl⟩)).1; omega
  · have := (hbk b hb').1; have := (hC.low j b hb).2; omega
  · have h1 := hbk b hb; have h2 := hC.base; exact ⟨by omega, h1.2⟩

/-- an entry that holds nothing and was right before: in a slot, where memory at most grows -/
theorem Conc.putOld (hC : Conc P B G0 W0 n env tm w ob) {k : Nat} {e : E} {v : Value} (hk : k < n) (hg : Grows w w')
    (hr : ERep P w (Gd B G0 ob) B tm env e v []) : Conc P B G0 W0 n (Fw.put env k e) (tm.setIfInBounds k v) w' (updO ob k []) := by
  refine Conc.putG hC hk hg ?_ (by simp) (by simp)
  split
  · exact rfl
  · rename_i hl
    refine ERep.keep (fun b i hb h => ⟨Gd_upd (by simp) h, hg.cell hb⟩) ⟨hg.size, fun b hb => hg.block b (Nat.lt_of_lt_of_le hb hC.base)⟩ (by simp) (fun s hs => ?_) hr
    have hsk : s ≠ k := by rintro rfl; exact hl hs
    have hs2 := ERep.leads hs hr
    refine HomeEq.same (P := P) ?_ (getD_set_other _ _ hsk) (hC.rep s) (fun g hg' => hg.block g (hC.low s g hg').2)
    rw [look_put, if_neg (Ne.symm hsk), leads_home hs2.1]
    simp

/-- an operation's result, that holds nothing and was right before -/
theorem Conc.putO (hC : Conc P B G0 W0 n env tm w ob) {d : Option Nat} {e : E} {v : Value} (hk : ∀ k, d = some k → k < n) (hg : Grows w w')
    (hr : ERep P w (Gd B G0 ob) B tm env e v []) (a : Act) (ha : a.tmps = tm) : ∃ ob', Conc P B G0 W0 n (Fw.putO env d e) (a.put d v).tmps w' ob' := by
  cases d with
  | none =>
    refine ⟨ob, ?_⟩
    subst ha
    refine Conc.step hC (hg.below hC.base) (fun b i hb h => ⟨h, hg.cell hb⟩) (fun k => .inl ⟨rfl, rfl, rfl, fun g hg' => hg.block g (hC.low k g hg').2, fun s hs => ?_⟩) hC.dist hC.nodup (fun k b hb => ⟨(hC.low k b hb).1, Nat.lt_of_lt_of_le (hC.low k b hb).2 hg.size⟩) hC.size
    exact HomeEq.same (P := P) rfl rfl (hC.rep s) (fun g hg' => hg.block g (hC.low s g hg').2)
  | some k => subst ha; exact ⟨_, Conc.putOld hC (hk k rfl) hg hr⟩

/-- one entry becomes another, without its slot's being written: what it holds may grow less -/
theorem Conc.relabel (hC : Conc P B G0 W0 n env tm w ob) {s : Nat} {e : E} {bs : OB}
    (hbl : blocks bs = blocks (ob s)) (hlim : ∀ b lim, (b, lim) ∈ bs → ∃ lim', (b, lim') ∈ ob s ∧ lim' ≤ lim)
    (hhome : HomeEq w tm env w tm ((s, e) :: env) s) (hnew : ERep P w (Gd B G0 (updO ob s bs)) B tm ((s, e) :: env) e (tm.getD s undef) bs) :
    Conc P B G0 W0 n ((s, e) :: env) tm w (updO ob s bs) := by
  refine Conc.step hC (Below.refl _ _) (fun b i hb h => ⟨?_, rfl⟩) (fun j => ?_) ?_ ?_ ?_ hC.size
  · rcases h with h | ⟨h1, h2⟩
    · exact .inl h
    · refine .inr ⟨h1, fun j lim hj => ?_⟩
      by_cases hjk : j = s
      · subst hjk; rw [updO_same] at hj
        obtain ⟨lim', h3, h4⟩ := hlim b lim hj
        exact Nat.lt_of_lt_of_le (h2 j lim' h3) h4
      · rw [updO_other _ _ hjk] at hj; exact h2 j lim hj
  · by_cases hj : j = s
    · subst hj; right; rw [look_cons, if_pos rfl, updO_same]; exact hnew
    · left
      rw [look_cons, if_neg (Ne.symm hj), updO_other _ _ hj]
      refine ⟨rfl, rfl, rfl, fun _ _ => rfl, fun t ht => ?_⟩
      by_cases hts : t = s
      · subst hts; exact hhome
      · exact HomeEq.same (P := P) (by rw [look_cons, if_neg (Ne.symm hts)]) rfl (hC.rep t) (fun _ _ => rfl)
  · intro i j b hi hj
    have key : ∀ i, b ∈ blocks (updO ob s bs i) → b ∈ blocks (ob i) := by
      intro i hi
      by_cases h : i = s
      · subst h; rw [updO_same, hbl] at hi; exact hi
      · rw [updO_other _ _ h] at hi; exact hi
    exact hC.dist i j b (key i hi) (key j hj)
  · intro j
    by_cases h : j = s
    · subst h; rw [updO_same, hbl]; exact hC.nodup j
    · rw [updO_other _ _ h]; exact hC.nodup j
  · intro j b hb
    by_cases h : j = s
    · subst h; rw [updO_same, hbl] at hb; exact hC.low j b hb
    · rw [updO_other _ _ h] at hb; exact hC.low j b hb

/-- entries that are forgotten, or told by another spelling -/
theorem Conc.forget (hC : Conc P B G0 W0 n env tm w ob) (h : ∀ k, look env' k = look env k ∨ (look env' k = .dead ∧ (∀ j, leads k (look env' j) = true → False))) :
    ∃ ob', Conc P B G0 W0 n env' tm w ob' := by
  classical
  refine ⟨fun k => if look env' k = look env k then ob k else [], ?_⟩
  refine Conc.step hC (Below.refl _ _) (fun b i hb h => ⟨?_, rfl⟩) (fun j => ?_) ?_ ?_ ?_ hC.size
  · rcases h with h | ⟨h1, h2⟩
    · exact .inl h
    · refine .inr ⟨h1, fun j lim hj => h2 j lim ?_⟩
      simp only at hj
      split at hj
      · exact hj
      · exact absurd hj (by simp)
  · by_cases hj : look env' j = look env j
    · left
      refine ⟨hj, rfl, by simp [hj], fun _ _ => rfl, fun s hs => ?_⟩
      rcases h s with h1 | h1
      · exact HomeEq.same (P := P) h1 rfl (hC.rep s) (fun _ _ => rfl)
      · exact (h1.2 j (by rw [hj]; exact hs)).elim
    · right
      simp only [hj, if_false]
      rcases h j with h1 | h1
      · exact absurd h1 hj
      · rw [h1.1]; exact rfl
  · intro i j b hi hj
    split at hi <;> split at hj <;> first | exact hC.dist i j b hi hj | exact absurd hi (by simp) | exact absurd hj (by simp)
  · intro j; split
    · exact hC.nodup j
    · simp
  · intro j b hb
    split at hb
    · exact hC.low j b hb
    · exact absurd hb (by simp)

end
end Go.Fw
