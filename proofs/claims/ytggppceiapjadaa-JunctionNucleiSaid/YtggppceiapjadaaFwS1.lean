/- Soundness, part 1: laws on what memory shows of a value. -/
import Derived.Test.YtggppceiapjadaaFwC
set_option linter.unusedVariables false
set_option linter.unusedSimpArgs false
namespace Go.Fw
open Go Go.RowKit

def blocks (ob : OB) : List Nat := ob.map (·.1)
@[simp] theorem blocks_nil : blocks [] = [] := rfl
@[simp] theorem blocks_cons (x : Nat × Nat) (l : OB) : blocks (x :: l) = x.1 :: blocks l := rfl
@[simp] theorem blocks_append (a b : OB) : blocks (a ++ b) = blocks a ++ blocks b := by simp [blocks]

theorem Elems.append {α : Type} {R : α → List Value → OB → Prop} : ∀ {xs ys : List α} {v1 v2 : List Value} {b1 b2 : OB}, Elems R xs v1 b1 → Elems R ys v2 b2 → Elems R (xs ++ ys) (v1 ++ v2) (b1 ++ b2)
  | [], _, _, _, _, _, h, k => by obtain ⟨rfl, rfl⟩ := h; exact k
  | x :: xs, ys, _, v2, _, b2, h, k => by
    obtain ⟨u1, u2, c1, c2, rfl, rfl, hr, ht⟩ := h
    exact ⟨u1, u2 ++ v2, c1, c2 ++ b2, by simp, by simp, hr, Elems.append ht k⟩

theorem Elems.imp {α : Type} {R S : α → List Value → OB → Prop} : ∀ {xs : List α} {vs : List Value} {ob : OB}, (∀ x v b, (∀ q ∈ b, q ∈ ob) → R x v b → S x v b) → Elems R xs vs ob → Elems S xs vs ob
  | [], _, _, _, h => h
  | x :: xs, _, _, f, h => by
    obtain ⟨u1, u2, c1, c2, rfl, rfl, hr, ht⟩ := h
    exact ⟨u1, u2, c1, c2, rfl, rfl, f _ _ _ (fun q hq => List.mem_append_left _ hq) hr, Elems.imp (fun x v b hb => f x v b fun q hq => List.mem_append_right _ (hb q hq)) ht⟩

theorem Elems.length {α : Type} {R : α → List Value → OB → Prop} {n : Nat} (hl : ∀ x v b, R x v b → v.length = n) : ∀ {xs : List α} {vs : List Value} {ob : OB}, Elems R xs vs ob → vs.length = xs.length * n
  | [], _, _, h => by obtain ⟨rfl, rfl⟩ := h; simp
  | x :: xs, _, _, h => by
    obtain ⟨u1, u2, c1, c2, rfl, rfl, hr, ht⟩ := h
    rw [List.length_append, hl _ _ _ hr, Elems.length hl ht, List.length_cons, Nat.succ_mul]; omega

/-- the element at i: the cells ahead of it, its own, those behind -/
theorem Elems.split {α : Type} {R : α → List Value → OB → Prop} {n : Nat} (hl : ∀ x v b, R x v b → v.length = n) : ∀ {xs : List α} {vs : List Value} {ob : OB} (i : Nat) (d : α), Elems R xs vs ob → i < xs.length →
    ∃ v1 v2 v3 b1 b2 b3, vs = v1 ++ v2 ++ v3 ∧ ob = b1 ++ b2 ++ b3 ∧ v1.length = i * n ∧ R (xs.getD i d) v2 b2 ∧
      ∀ y u c, R y u c → Elems R (xs.set i y) (v1 ++ u ++ v3) (b1 ++ c ++ b3)
  | [], _, _, i, _, _, hi => by simp at hi
  | x :: xs, _, _, 0, d, h, _ => by
    obtain ⟨u1, u2, c1, c2, rfl, rfl, hr, ht⟩ := h
    exact ⟨[], u1, u2, [], c1, c2, rfl, rfl, by simp, hr, fun y u c hy => ⟨u, u2, c, c2, by simp, by simp, hy, ht⟩⟩
  | x :: xs, _, _, i + 1, d, h, hi => by
    obtain ⟨u1, u2, c1, c2, rfl, rfl, hr, ht⟩ := h
    obtain ⟨v1, v2, v3, b1, b2, b3, rfl, rfl, h1, h2, h3⟩ := Elems.split hl i d ht (by simpa using hi)
    refine ⟨u1 ++ v1, v2, v3, c1 ++ b1, b2, b3, by simp, by simp, ?_, by simpa using h2, ?_⟩
    · rw [List.length_append, h1, hl _ _ _ hr, Nat.succ_mul]; omega
    · intro y u c hy
      exact ⟨u1, v1 ++ u ++ v3, c1, b1 ++ c ++ b3, by simp, by simp, hr, h3 y u c hy⟩

theorem Elems.nil {α : Type} {R : α → List Value → OB → Prop} : Elems R ([] : List α) [] [] := ⟨rfl, rfl⟩
theorem Elems.one {α : Type} {R : α → List Value → OB → Prop} {x : α} {v : List Value} {b : OB} (h : R x v b) : Elems R [x] v b := ⟨v, [], b, [], by simp, by simp, h, rfl, rfl⟩

theorem Later.refl (B : Nat) (w : World) : Later B w w := ⟨Nat.le_refl _, fun _ _ => rfl⟩
theorem Later.trans {B : Nat} {a b c : World} (h : Later B a b) (k : Later B b c) : Later B a c := ⟨Nat.le_trans h.1 k.1, fun i hi => (k.2 i hi).trans (h.2 i hi)⟩

theorem Flat.len (P : Program) : ∀ (T : Ty) {w : World} {G : Nat → Nat → Prop} {B : Nat} {o : Ann} {x : den T} {vs : List Value} {ob : OB}, Flat P T w G B o x vs ob → vs.length = cellsN T
  | .int k, _, _, _, _, _, _, _, h => by unfold Flat at h; rw [h.1]; rfl
  | .bool, _, _, _, _, _, _, _, h => by unfold Flat at h; rw [h.1]; rfl
  | .str, _, _, _, _, _, _, _, h => by unfold Flat at h; rw [h.1]; rfl
  | .unit, _, _, _, _, _, _, _, h => by unfold Flat at h; rw [h.1]; rfl
  | .pair A C, _, _, _, _, _, _, _, h => by
    unfold Flat at h
    obtain ⟨v1, v2, b1, b2, rfl, rfl, h1, h2⟩ := h
    rw [List.length_append, Flat.len P A h1, Flat.len P C h2]; rfl
  | .arr n T, _, _, _, _, _, _, _, h => by
    unfold Flat at h
    rw [Elems.length (fun x v b hx => Flat.len P T hx) h.2, h.1]; rfl
  | .sl T, _, _, _, o, _, _, _, h => by
    cases o <;> unfold Flat at h
    · obtain ⟨_, A, c, rfl, _⟩ := h; rfl
    · exact h.1
    · obtain ⟨v, cells, ob', rfl, _⟩ := h; rfl
    · obtain ⟨_, A, c, rfl, _⟩ := h; rfl
  | .fn A C, _, _, _, _, _, _, _, h => by
    unfold Flat at h
    obtain ⟨_, _, f, caps, rfl, _⟩ := h; rfl

theorem rowX_of {w : World} {B : Nat} {e : TypeId} {size : Nat} {v : Value} {n : Nat} {cells : List Value} (h : w.ownsRow B e size v n cells) : rowX w B e size v n cells := by
  refine ⟨h.1, ?_⟩
  rcases h.2 with h | ⟨g, cap, cur, h1, h2, h3, h4, h5, h6, h7⟩
  · exact .inl h
  · exact .inr ⟨g, cap, cur, e, (0, 0), h1, h2, h3, h4, h5, h6, h7, fun _ => ⟨rfl, rfl⟩, .inl rfl⟩

theorem rowX.owns {w : World} {B : Nat} {e : TypeId} {size : Nat} {v : Value} {n : Nat} {cells : List Value} (h : rowX w B e size v n cells) (he : e ≠ BUF) : w.ownsRow B e size v n cells := by
  refine ⟨h.1, ?_⟩
  rcases h.2 with h | ⟨g, cap, cur, e', fz, h1, h2, h3, h4, h5, h6, h7, h8, _⟩
  · exact .inl h
  · obtain ⟨rfl, rfl⟩ := h8 he
    exact .inr ⟨g, cap, cur, h1, h2, h3, h4, h5, h6, h7⟩

theorem rowX.cells {w : World} {B : Nat} {e : TypeId} {size : Nat} {v : Value} {n : Nat} {xs : List Value} (h : rowX w B e size v n xs) {g : Nat} (hg : v.ownBlock = some g) : ∀ j u, xs[j]? = some u → w.cell? ((⟨g, 0, none⟩ : Addr).add j) = some u := by
  intro j u hu
  rcases h.2 with ⟨rfl, _⟩ | ⟨g', cap, cur, e', fz, rfl, _, hgg, _, _, _, htake, _, _⟩
  · simp [Value.ownBlock] at hg
  · simp [Value.ownBlock] at hg
    subst hg
    have hadd : (⟨g', 0, none⟩ : Addr).add j = ⟨g', j, none⟩ := by unfold Addr.add; split <;> simp_all
    rw [hadd, cell_of_row w g' j cur e' fz hgg]
    rw [← htake, List.getElem?_take] at hu
    split at hu
    · simpa using hu
    · cases hu

theorem rowX_of_heap {w w' : World} {B : Nat} {e : TypeId} {size : Nat} {v : Value} {n : Nat} {cells : List Value} (h : rowX w B e size v n cells) (hb : ∀ g, v.ownBlock = some g → w'.heap[g]? = w.heap[g]?) : rowX w' B e size v n cells := by
  refine ⟨h.1, ?_⟩
  rcases h.2 with h | ⟨g, cap, cur, e', fz, rfl, h1, h2, h3⟩
  · exact .inl h
  · exact .inr ⟨g, cap, cur, e', fz, rfl, h1, by rw [hb g rfl]; exact h2, h3⟩

theorem mem_obOf {v : Value} {lim g : Nat} (h : v.ownBlock = some g) : (g, lim) ∈ obOf v lim := by simp [obOf, h]

theorem Flat.mono (P : Program) : ∀ (T : Ty) {w w' : World} {G G' : Nat → Nat → Prop} {B : Nat} {o : Ann} {x : den T} {vs : List Value} {ob : OB},
    (∀ b i, b < w.heap.size → G b i → G' b i ∧ w'.cell? ⟨b, i, none⟩ = w.cell? ⟨b, i, none⟩) → Later B w w' → (∀ g ∈ blocks ob, w'.heap[g]? = w.heap[g]?) →
    Flat P T w G B o x vs ob → Flat P T w' G' B o x vs ob
  | .int k, _, _, _, _, _, _, _, _, _, _, _, _, h => by unfold Flat at h ⊢; exact h
  | .bool, _, _, _, _, _, _, _, _, _, _, _, _, h => by unfold Flat at h ⊢; exact h
  | .str, _, _, _, _, _, _, _, _, _, _, _, _, h => by unfold Flat at h ⊢; exact h
  | .unit, _, _, _, _, _, _, _, _, _, _, _, _, h => by unfold Flat at h ⊢; exact h
  | .pair A C, _, _, _, _, _, _, _, _, _, hG, hL, hO, h => by
    unfold Flat at h ⊢
    obtain ⟨v1, v2, b1, b2, rfl, rfl, h1, h2⟩ := h
    exact ⟨v1, v2, b1, b2, rfl, rfl, Flat.mono P A hG hL (fun g hg => hO g (by simp [hg])) h1, Flat.mono P C hG hL (fun g hg => hO g (by simp [hg])) h2⟩
  | .arr n T, _, _, _, _, _, _, _, _, ob, hG, hL, hO, h => by
    unfold Flat at h ⊢
    exact ⟨h.1, Elems.imp (fun x v b hb hx => Flat.mono P T hG hL (fun g hg => hO g (by
      obtain ⟨q, hq, rfl⟩ := List.mem_map.1 hg
      exact List.mem_map.2 ⟨q, hb q hq, rfl⟩)) hx) h.2⟩
  | .sl T, w, w', G, G', B, o, xs, vs, ob, hG, hL, hO, h => by
    have imm : ∀ {ob : OB}, (ob = [] ∧ ∃ A c, vs = [.slice A xs.length c] ∧ xs.length ≤ c ∧ c ≤ maxLen ∧
      (xs = [] ∨ ∃ b off cells, A = some ⟨b, off, none⟩ ∧ Elems (Flat P T w G B .no) xs cells [] ∧ ∀ j v, cells[j]? = some v → w.cell? ⟨b, off + j, none⟩ = some v ∧ G b (off + j))) →
      (ob = [] ∧ ∃ A c, vs = [.slice A xs.length c] ∧ xs.length ≤ c ∧ c ≤ maxLen ∧
      (xs = [] ∨ ∃ b off cells, A = some ⟨b, off, none⟩ ∧ Elems (Flat P T w' G' B .no) xs cells [] ∧ ∀ j v, cells[j]? = some v → w'.cell? ⟨b, off + j, none⟩ = some v ∧ G' b (off + j))) := by
      rintro ob ⟨h0, A, c, h1, h2, h3, h4⟩
      refine ⟨h0, A, c, h1, h2, h3, ?_⟩
      rcases h4 with h4 | ⟨b, off, cells, h5, h6, h7⟩
      · exact .inl h4
      · refine .inr ⟨b, off, cells, h5, Elems.imp (fun x v b' hb hx => Flat.mono P T hG hL (fun g hg => ?_) hx) h6, fun j v hj => ?_⟩
        · obtain ⟨q, hq, rfl⟩ := List.mem_map.1 hg
          exact absurd (hb q hq) (by simp)
        · have hc := h7 j v hj
          have hlt : b < w.heap.size := World.block_lt_of_cell? w _ hc.1
          have hg := hG b (off + j) hlt hc.2
          exact ⟨hg.2.trans hc.1, hg.1⟩
    cases o with
    | no => unfold Flat at h ⊢; exact imm h
    | hole => unfold Flat at h ⊢; exact h
    | pair a b => unfold Flat at h ⊢; exact imm h
    | own wr e o =>
      unfold Flat at h ⊢
      obtain ⟨v, cells, ob', h1, h2, h3, rfl⟩ := h
      refine ⟨v, cells, ob', h1, rowX_of_heap h2 (fun g hg => hO g ?_), Elems.imp (fun x v b hb hx => Flat.mono P T hG hL (fun g hg => hO g ?_) hx) h3, rfl⟩
      · rw [blocks_append]; exact List.mem_append_left _ (List.mem_map.2 ⟨_, mem_obOf hg, rfl⟩)
      · obtain ⟨q, hq, rfl⟩ := List.mem_map.1 hg
        rw [blocks_append]; exact List.mem_append_right _ (List.mem_map.2 ⟨q, hb q hq, rfl⟩)
  | .fn A C, w, w', G, G', B, _, _, _, _, hG, hL, hO, h => by
    unfold Flat at h ⊢
    obtain ⟨h0, hs, f, caps, h1, h2⟩ := h
    exact ⟨h0, hs, f, caps, h1, fun w'' G'' x vals hl => h2 w'' G'' x vals (hL.trans hl)⟩

theorem Ann.pure_l {o : Ann} (h : o.pure = true) : o.l.pure = true := by cases o <;> simp_all [Ann.pure, Ann.l]
theorem Ann.pure_r {o : Ann} (h : o.pure = true) : o.r.pure = true := by cases o <;> simp_all [Ann.pure, Ann.r]

/-- where nothing is held: as nobody's own -/
theorem Flat.pure (P : Program) : ∀ (T : Ty) {w : World} {G : Nat → Nat → Prop} {B : Nat} {o o' : Ann} {x : den T} {vs : List Value} {ob : OB}, o.pure = true → o'.pure = true → Flat P T w G B o x vs ob → ob = [] ∧ Flat P T w G B o' x vs []
  | .int k, _, _, _, _, _, _, _, _, _, _, h => by unfold Flat at h ⊢; exact ⟨h.2.2, h.1, h.2.1, rfl⟩
  | .bool, _, _, _, _, _, _, _, _, _, _, h => by unfold Flat at h ⊢; exact ⟨h.2, h.1, rfl⟩
  | .str, _, _, _, _, _, _, _, _, _, _, h => by unfold Flat at h ⊢; exact ⟨h.2.2, h.1, h.2.1, rfl⟩
  | .unit, _, _, _, _, _, _, _, _, _, _, h => by unfold Flat at h ⊢; exact ⟨h.2, h.1, rfl⟩
  | .pair A C, _, _, _, _, _, _, _, _, ho, ho', h => by
    unfold Flat at h ⊢
    obtain ⟨v1, v2, b1, b2, rfl, rfl, h1, h2⟩ := h
    obtain ⟨e1, k1⟩ := Flat.pure P A (Ann.pure_l ho) (Ann.pure_l ho') h1
    obtain ⟨e2, k2⟩ := Flat.pure P C (Ann.pure_r ho) (Ann.pure_r ho') h2
    exact ⟨by rw [e1, e2]; rfl, v1, v2, [], [], rfl, rfl, k1, k2⟩
  | .arr n T, w, G, B, _, _, _, _, _, ho, _, h => by
    unfold Flat at h ⊢
    have key : ∀ {xs : List (den T)} {vs : List Value} {ob : OB}, Elems (Flat P T w G B .no) xs vs ob → ob = [] ∧ Elems (Flat P T w G B .no) xs vs [] := by
      intro xs
      induction xs with
      | nil => rintro vs ob ⟨rfl, rfl⟩; exact ⟨rfl, rfl, rfl⟩
      | cons x xs ih =>
        rintro vs ob ⟨u1, u2, c1, c2, rfl, rfl, hr, ht⟩
        obtain ⟨rfl, hr⟩ := Flat.pure P T (o := .no) (o' := .no) rfl rfl hr
        obtain ⟨rfl, ht⟩ := ih ht
        exact ⟨rfl, u1, u2, [], [], rfl, rfl, hr, ht⟩
    obtain ⟨h1, h2⟩ := h
    obtain ⟨e, h2⟩ := key h2
    exact ⟨e, h1, h2⟩
  | .sl T, _, _, _, o, o', _, _, _, ho, ho', h => by
    cases o <;> cases o' <;> simp only [Ann.pure, Bool.false_eq_true] at ho ho' <;> unfold Flat at h ⊢ <;> exact ⟨h.1, rfl, h.2⟩
  | .fn A C, _, _, _, _, _, _, _, _, _, _, h => by unfold Flat at h ⊢; exact ⟨h.1, rfl, h.2⟩

theorem Elems.pure (P : Program) {T : Ty} {w : World} {G : Nat → Nat → Prop} {B : Nat} {o o' : Ann} (ho : o.pure = true) (ho' : o'.pure = true) : ∀ {xs : List (den T)} {vs : List Value} {ob : OB}, Elems (Flat P T w G B o) xs vs ob → ob = [] ∧ Elems (Flat P T w G B o') xs vs []
  | [], _, _, h => by obtain ⟨rfl, rfl⟩ := h; exact ⟨rfl, rfl, rfl⟩
  | x :: xs, _, _, h => by
    obtain ⟨u1, u2, c1, c2, rfl, rfl, hr, ht⟩ := h
    obtain ⟨e1, k1⟩ := Flat.pure P T ho ho' hr
    obtain ⟨e2, k2⟩ := Elems.pure P ho ho' ht
    exact ⟨by rw [e1, e2]; rfl, u1, u2, [], [], rfl, rfl, k1, k2⟩

/-- every cell is one cell -/
theorem Flat.one (P : Program) : ∀ (T : Ty) {w : World} {G : Nat → Nat → Prop} {B : Nat} {o : Ann} {x : den T} {vs : List Value} {ob : OB}, o.whole = true → Flat P T w G B o x vs ob → ∀ u ∈ vs, u.oneCell' = true
  | .int k, _, _, _, _, _, _, _, _, h => by unfold Flat at h; rw [h.1]; simp [Value.oneCell']
  | .bool, _, _, _, _, _, _, _, _, h => by unfold Flat at h; rw [h.1]; simp [Value.oneCell']
  | .str, _, _, _, _, _, _, _, _, h => by unfold Flat at h; rw [h.1]; simp [Value.oneCell']
  | .unit, _, _, _, _, _, _, _, _, h => by unfold Flat at h; rw [h.1]; simp
  | .pair A C, _, _, _, o, _, _, _, ho, h => by
    unfold Flat at h
    obtain ⟨v1, v2, b1, b2, rfl, rfl, h1, h2⟩ := h
    intro u hu
    rcases List.mem_append.1 hu with hu | hu
    · exact Flat.one P A (by cases o <;> simp_all [Ann.whole, Ann.l]) h1 u hu
    · exact Flat.one P C (by cases o <;> simp_all [Ann.whole, Ann.r]) h2 u hu
  | .arr n T, w, G, B, _, _, _, _, _, h => by
    unfold Flat at h
    have key : ∀ {xs : List (den T)} {vs : List Value} {ob : OB}, Elems (Flat P T w G B .no) xs vs ob → ∀ u ∈ vs, u.oneCell' = true := by
      intro xs
      induction xs with
      | nil => rintro vs ob ⟨rfl, rfl⟩; simp
      | cons x xs ih =>
        rintro vs ob ⟨u1, u2, c1, c2, rfl, rfl, hr, ht⟩ u hu
        rcases List.mem_append.1 hu with hu | hu
        · exact Flat.one P T (o := .no) rfl hr u hu
        · exact ih ht u hu
    exact key h.2
  | .sl T, _, _, _, o, _, _, _, ho, h => by
    cases o with
    | no => unfold Flat at h; obtain ⟨_, A, c, rfl, _⟩ := h; simp [Value.oneCell']
    | hole => simp [Ann.whole] at ho
    | pair => unfold Flat at h; obtain ⟨_, A, c, rfl, _⟩ := h; simp [Value.oneCell']
    | own wr e o =>
      unfold Flat at h
      obtain ⟨v, cells, ob', rfl, h2, _⟩ := h
      rcases h2.2 with h | ⟨g, cap, cur, _, _, rfl, _⟩
      · rw [h.1]; simp [Value.oneCell']
      · simp [Value.oneCell']
  | .fn A C, _, _, _, _, _, _, _, _, h => by
    unfold Flat at h
    obtain ⟨_, _, f, caps, rfl, _⟩ := h; simp [Value.oneCell']

end Go.Fw
