/- Soundness, part 16: arguments of a call; what a callee answers. -/
import Derived.Test.YtggppceiapjadaaFwS15
set_option linter.unusedVariables false
set_option linter.unusedSimpArgs false
namespace Go.Fw
open Go Go.RowKit

/-- a value without slices and functions: as it is anywhere -/
theorem Flat.scal (P : Program) : ∀ (T : Ty) {w : World} {G : Nat → Nat → Prop} {B : Nat} {o : Ann} {x : den T} {vs : List Value} {ob : OB}, scalarT T = true → Flat P T w G B o x vs ob →
    ob = [] ∧ ∀ (w' : World) (G' : Nat → Nat → Prop) (B' : Nat) (o' : Ann), Flat P T w' G' B' o' x vs []
  | .int k, _, _, _, _, _, _, _, _, h => by unfold Flat at h; exact ⟨h.2.2, fun _ _ _ _ => by unfold Flat; exact ⟨h.1, h.2.1, rfl⟩⟩
  | .bool, _, _, _, _, _, _, _, _, h => by unfold Flat at h; exact ⟨h.2, fun _ _ _ _ => by unfold Flat; exact ⟨h.1, rfl⟩⟩
  | .str, _, _, _, _, _, _, _, _, h => by unfold Flat at h; exact ⟨h.2.2, fun _ _ _ _ => by unfold Flat; exact ⟨h.1, h.2.1, rfl⟩⟩
  | .unit, _, _, _, _, _, _, _, _, h => by unfold Flat at h; exact ⟨h.2, fun _ _ _ _ => by unfold Flat; exact ⟨h.1, rfl⟩⟩
  | .pair A C, _, _, _, _, _, _, _, hs, h => by
    simp only [scalarT, Bool.and_eq_true] at hs
    unfold Flat at h
    obtain ⟨v1, v2, b1, b2, rfl, rfl, h1, h2⟩ := h
    obtain ⟨e1, k1⟩ := Flat.scal P A hs.1 h1
    obtain ⟨e2, k2⟩ := Flat.scal P C hs.2 h2
    exact ⟨by rw [e1, e2]; rfl, fun w' G' B' o' => by unfold Flat; exact ⟨v1, v2, [], [], rfl, rfl, k1 _ _ _ _, k2 _ _ _ _⟩⟩
  | .arr n T, w, G, B, _, _, _, _, hs, h => by
    simp only [scalarT] at hs
    unfold Flat at h
    have key : ∀ {xs : List (den T)} {vs : List Value} {ob : OB}, Elems (Flat P T w G B .no) xs vs ob → ob = [] ∧ ∀ (w' : World) (G' : Nat → Nat → Prop) (B' : Nat), Elems (Flat P T w' G' B' .no) xs vs [] := by
      intro xs
      induction xs with
      | nil => rintro vs ob ⟨rfl, rfl⟩; exact ⟨rfl, fun _ _ _ => ⟨rfl, rfl⟩⟩
      | cons x xs ih =>
        rintro vs ob ⟨u1, u2, c1, c2, rfl, rfl, hr, ht⟩
        obtain ⟨e1, k1⟩ := Flat.scal P T hs hr
        obtain ⟨e2, k2⟩ := ih ht
        exact ⟨by rw [e1, e2]; rfl, fun w' G' B' => ⟨u1, u2, [], [], rfl, rfl, k1 _ _ _ _, k2 _ _ _⟩⟩
    obtain ⟨e, k⟩ := key h.2
    exact ⟨e, fun w' G' B' o' => by unfold Flat; exact ⟨h.1, k _ _ _⟩⟩
  | .sl T, _, _, _, _, _, _, _, hs, _ => by simp [scalarT] at hs
  | .fn A C, _, _, _, _, _, _, _, hs, _ => by simp [scalarT] at hs

/-- a later base: for what is nobody's own -/
theorem Flat.up (P : Program) : ∀ (T : Ty) {w : World} {G : Nat → Nat → Prop} {B B' : Nat} {x : den T} {vs : List Value} {ob : OB}, B ≤ B' → Flat P T w G B .no x vs ob → Flat P T w G B' .no x vs ob
  | .int k, _, _, _, _, _, _, _, _, h => by unfold Flat at h ⊢; exact h
  | .bool, _, _, _, _, _, _, _, _, h => by unfold Flat at h ⊢; exact h
  | .str, _, _, _, _, _, _, _, _, h => by unfold Flat at h ⊢; exact h
  | .unit, _, _, _, _, _, _, _, _, h => by unfold Flat at h ⊢; exact h
  | .pair A C, _, _, _, _, _, _, _, hB, h => by
    unfold Flat at h ⊢
    obtain ⟨v1, v2, b1, b2, rfl, rfl, h1, h2⟩ := h
    exact ⟨v1, v2, b1, b2, rfl, rfl, Flat.up P A hB h1, Flat.up P C hB h2⟩
  | .arr n T, _, _, _, _, _, _, _, hB, h => by
    unfold Flat at h ⊢
    exact ⟨h.1, Elems.imp (fun x v b _ hx => Flat.up P T hB hx) h.2⟩
  | .sl T, _, _, _, _, _, _, _, hB, h => by
    unfold Flat at h ⊢
    obtain ⟨h0, A, c, h1, h2, h3, h4⟩ := h
    refine ⟨h0, A, c, h1, h2, h3, ?_⟩
    rcases h4 with h4 | ⟨b, off, cells, h5, h6, h7⟩
    · exact .inl h4
    · exact .inr ⟨b, off, cells, h5, Elems.imp (fun x v b _ hx => Flat.up P T hB hx) h6, h7⟩
  | .fn A C, _, _, _, _, _, _, _, hB, h => by
    unfold Flat at h ⊢
    obtain ⟨h0, hs, f, caps, h1, h2⟩ := h
    refine ⟨h0, hs, f, caps, h1, fun w' G' x vals hl hx r hr => ?_⟩
    have h3 := h2 w' G' x vals ⟨hl.1, fun b hb => hl.2 b (Nat.lt_of_lt_of_le hb hB)⟩ hx r hr
    refine ⟨h3.1, Calls.mono h3.2 ?_⟩
    rintro e w'' ⟨rs, k1, k2⟩
    exact ⟨rs, (Flat.scal P C hs k1).2 _ _ _ _, k2⟩

/-- an earlier base: where no function is in it -/
theorem Flat.down (P : Program) : ∀ (T : Ty) {w : World} {G : Nat → Nat → Prop} {B B' : Nat} {o : Ann} {x : den T} {vs : List Value} {ob : OB}, noFnT T = true → B' ≤ B → Flat P T w G B o x vs ob → Flat P T w G B' o x vs ob
  | .int k, _, _, _, _, _, _, _, _, _, _, h => by unfold Flat at h ⊢; exact h
  | .bool, _, _, _, _, _, _, _, _, _, _, h => by unfold Flat at h ⊢; exact h
  | .str, _, _, _, _, _, _, _, _, _, _, h => by unfold Flat at h ⊢; exact h
  | .unit, _, _, _, _, _, _, _, _, _, _, h => by unfold Flat at h ⊢; exact h
  | .pair A C, _, _, _, _, _, _, _, _, hn, hB, h => by
    simp only [noFnT, Bool.and_eq_true] at hn
    unfold Flat at h ⊢
    obtain ⟨v1, v2, b1, b2, rfl, rfl, h1, h2⟩ := h
    exact ⟨v1, v2, b1, b2, rfl, rfl, Flat.down P A hn.1 hB h1, Flat.down P C hn.2 hB h2⟩
  | .arr n T, _, _, _, _, _, _, _, _, hn, hB, h => by
    simp only [noFnT] at hn
    unfold Flat at h ⊢
    exact ⟨h.1, Elems.imp (fun x v b _ hx => Flat.down P T hn hB hx) h.2⟩
  | .sl T, w, G, B, B', o, xs, vs, ob, hn, hB, h => by
    simp only [noFnT] at hn
    have imm : (ob = [] ∧ ∃ A c, vs = [.slice A xs.length c] ∧ xs.length ≤ c ∧ c ≤ maxLen ∧
      (xs = [] ∨ ∃ b off cells, A = some ⟨b, off, none⟩ ∧ Elems (Flat P T w G B .no) xs cells [] ∧ ∀ j v, cells[j]? = some v → w.cell? ⟨b, off + j, none⟩ = some v ∧ G b (off + j))) →
      (ob = [] ∧ ∃ A c, vs = [.slice A xs.length c] ∧ xs.length ≤ c ∧ c ≤ maxLen ∧
      (xs = [] ∨ ∃ b off cells, A = some ⟨b, off, none⟩ ∧ Elems (Flat P T w G B' .no) xs cells [] ∧ ∀ j v, cells[j]? = some v → w.cell? ⟨b, off + j, none⟩ = some v ∧ G b (off + j))) := by
      rintro ⟨h0, A, c, h1, h2, h3, h4⟩
      refine ⟨h0, A, c, h1, h2, h3, ?_⟩
      rcases h4 with h4 | ⟨b, off, cells, h5, h6, h7⟩
      · exact .inl h4
      · exact .inr ⟨b, off, cells, h5, Elems.imp (fun x v b _ hx => Flat.down P T hn hB hx) h6, h7⟩
    cases o with
    | no => unfold Flat at h ⊢; exact imm h
    | hole => unfold Flat at h ⊢; exact h
    | pair a b => unfold Flat at h ⊢; exact imm h
    | own wr e o =>
      unfold Flat at h ⊢
      obtain ⟨v, cells, ob', h1, h2, h3, h4⟩ := h
      refine ⟨v, cells, ob', h1, ⟨h2.1, ?_⟩, Elems.imp (fun x v b _ hx => Flat.down P T hn hB hx) h3, h4⟩
      rcases h2.2 with k | ⟨g, cap, cur, e1, fz, k1, k2, k3⟩
      · exact .inl k
      · exact .inr ⟨g, cap, cur, e1, fz, k1, Nat.le_trans hB k2, k3⟩
  | .fn A C, _, _, _, _, _, _, _, _, hn, _, _ => by simp [noFnT] at hn

/-! ### What a callee is handed -/
def ARep (P : Program) (w : World) (G : Nat → Nat → Prop) : E → Value → Prop
  | .v T x, v => ∃ vs, Flat P T w G w.heap.size .no x vs [] ∧ v = asVal T vs
  | .at T x, v => ∃ b off vs, v = .pointer (some ⟨b, off, none⟩) ∧ Flat P T w G w.heap.size .no x vs [] ∧ ∀ j u, vs[j]? = some u → w.cell? ⟨b, off + j, none⟩ = some u
  | _, _ => False

inductive ArgsRep (P : Program) (w : World) (G : Nat → Nat → Prop) : List E → List Value → Prop
  | nil : ArgsRep P w G [] []
  | cons {e : E} {v : Value} {es : List E} {vs : List Value} : ARep P w G e v → ArgsRep P w G es vs → ArgsRep P w G (e :: es) (v :: vs)

theorem ArgsRep.append {P : Program} {w : World} {G : Nat → Nat → Prop} {es fs : List E} {vs us : List Value} (h : ArgsRep P w G es vs) (k : ArgsRep P w G fs us) : ArgsRep P w G (es ++ fs) (vs ++ us) := by
  induction h with
  | nil => exact k
  | cons h _ ih => exact .cons h ih

theorem ARep.later {P : Program} {w w' : World} {G G' : Nat → Nat → Prop} {e : E} {v : Value} (hL : Later w.heap.size w w') (hG : ∀ b i, b < w.heap.size → G b i → G' b i) (h : ARep P w G e v) : ARep P w' G' e v := by
  have cell : ∀ b i, b < w.heap.size → w'.cell? ⟨b, i, none⟩ = w.cell? ⟨b, i, none⟩ := fun b i hb => cell?_below hL hb
  cases e <;> first | exact (h : False).elim | skip
  · obtain ⟨vs, h1, h2⟩ := h
    exact ⟨vs, Flat.up P _ hL.1 (Flat.mono P _ (fun b i hb hg => ⟨hG b i hb hg, cell b i hb⟩) hL (by simp) h1), h2⟩
  · obtain ⟨b, off, vs, h1, h2, h3⟩ := h
    refine ⟨b, off, vs, h1, Flat.up P _ hL.1 (Flat.mono P _ (fun b i hb hg => ⟨hG b i hb hg, cell b i hb⟩) hL (by simp) h2), fun j u hj => ?_⟩
    rw [cell b _ (World.block_lt_of_cell? w _ (h3 j u hj))]
    exact h3 j u hj

theorem ArgsRep.later {P : Program} {w w' : World} {G G' : Nat → Nat → Prop} {es : List E} {vs : List Value} (hL : Later w.heap.size w w') (hG : ∀ b i, b < w.heap.size → G b i → G' b i) (h : ArgsRep P w G es vs) : ArgsRep P w' G' es vs := by
  induction h with
  | nil => exact .nil
  | cons h _ ih => exact .cons (ARep.later hL hG h) ih

/-! ### What a callee answers -/
def Gr (B : Nat) (G : Nat → Nat → Prop) (rob : OB) (b i : Nat) : Prop := (b < B ∧ G b i) ∨ (B ≤ b ∧ ∀ lim, (b, lim) ∈ rob → i < lim)

structure ResRep (P : Program) (w w' : World) (G : Nat → Nat → Prop) (res : List E) (v : Value) (rob : OB) : Prop where
  rep : ERep P w' (Gr w.heap.size G rob) w.heap.size #[] [] (resE res) v rob
  back : res.all E.back = true
  nodup : (blocks rob).Nodup
  new : ∀ b ∈ blocks rob, w.heap.size ≤ b ∧ b < w'.heap.size

def Good (P : Program) (cl : Cal) : Prop := ∀ f as res, cl f as = some res → ∀ (w : World) (G : Nat → Nat → Prop) (vals : List Value), ArgsRep P w G as vals →
  Callable P f ∧ Calls P f vals.toArray w fun e w' => ∃ v rob, e = .returned v ∧ Below w.heap.size w w' ∧ ResRep P w w' G res v rob

/-- one scalar answer -/
theorem ResRep.scal {P : Program} {w w' : World} {G : Nat → Nat → Prop} {C : Ty} {r : den C} {v : Value} {rob : OB} (hs : scalarT C = true) (h : ResRep P w w' G [.v C r] v rob) :
    ∃ rs, v = asVal C rs ∧ ∀ (w' : World) (G' : Nat → Nat → Prop) (B' : Nat), Flat P C w' G' B' .no r rs [] := by
  obtain ⟨_, vs, h1, h2⟩ := h.rep
  exact ⟨vs, h2, fun w' G' B' => (Flat.scal P C hs h1).2 _ _ _ _⟩

theorem unE_some {C : Ty} {es : List E} {r : den C} (h : unE C es = some r) : es = [.v C r] := by
  unfold unE at h
  split at h
  · have := cast?_some h; cases this; rfl
  · exact absurd h (by simp)

theorem FArgs.args {P : Program} {w : World} {G : Nat → Nat → Prop} : ∀ (A : Ty) {x : den A} {vals : List Value}, FArgs P A w G x vals → ArgsRep P w G (unpack A x) vals
  | .pair A C, x, vals, h => by
    unfold FArgs at h
    obtain ⟨v1, rest, h1, rfl, h2⟩ := h
    exact .cons ⟨v1, h1, rfl⟩ (FArgs.args C h2)
  | .unit, _, _, h => by unfold FArgs at h; subst h; exact .nil
  | .int _, _, _, h | .bool, _, _, h | .str, _, _, h | .sl _, _, _, h | .arr _ _, _, _, h | .fn _ _, _, _, h => by unfold FArgs at h; exact h.elim

theorem tuple_args {P : Program} {w : World} {G : Nat → Nat → Prop} : ∀ (A : Ty) {as : List E} {x : den A} {vals : List Value}, tuple A as = some x → ArgsRep P w G as vals → FArgs P A w G x vals
  | .unit, [], x, vals, _, h => by cases h; unfold FArgs; rfl
  | .unit, _ :: _, _, _, h, _ => by simp [tuple] at h
  | .pair A C, e :: es, x, vals, ht, h => by
    cases h with
    | cons h1 h2 =>
      cases e with
      | v T y =>
        simp only [tuple, Option.bind_eq_some_iff, Option.some.injEq] at ht
        obtain ⟨y', hy, z, hz, rfl⟩ := ht
        have := cast?_some hy; cases this
        obtain ⟨v1, k1, rfl⟩ := h1
        unfold FArgs
        exact ⟨v1, _, k1, rfl, tuple_args C hz h2⟩
      | _ => simp [tuple] at ht
  | .pair A C, [], _, _, h, _ => by simp [tuple] at h
  | .int _, _, _, _, h, _ | .bool, _, _, _, h, _ | .str, _, _, _, h, _ | .sl _, _, _, _, h, _ | .arr _ _, _, _, _, h, _ | .fn _ _, _, _, _, h, _ => by simp [tuple] at h

end Go.Fw
