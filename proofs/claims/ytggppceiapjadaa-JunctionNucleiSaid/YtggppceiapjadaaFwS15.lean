/- Soundness, part 15: append, make. -/
import Derived.Test.YtggppceiapjadaaFwS14
set_option linter.unusedVariables false
set_option linter.unusedSimpArgs false
namespace Go.Fw
open Go Go.RowKit

section
variable {P : Program} {B : Nat} {G0 : Nat → Nat → Prop} {W0 : World} {n : Nat} {env : Env} {a : Act} {w w' : World} {ob : Nat → OB}
variable {R : Type} {K : Kont R} {r : R} {next : Act → World → Prop} {Q : Exit → Act → World → Prop} {o : Oper} {i : AI} {cl : Cal}

/-- what append does to a row of the call's own -/
structure Grew (w w' : World) (B : Nat) (e : TypeId) (size : Nat) (v v' : Value) (m1 m2 : Nat) (olds news : List Value) : Prop where
  owns : w'.ownsRow B e size v' (m1 + m2) (olds ++ news)
  below : Below B w w'
  rest : ∀ b, b < w.heap.size → v.ownBlock ≠ some b → w'.heap[b]? = w.heap[b]?
  block : ∀ g, v'.ownBlock = some g → v.ownBlock = some g ∨ (w.heap.size ≤ g ∧ g < w'.heap.size)
  cells : ∀ g j, v.ownBlock = some g → j < m1 * size → w'.cell? ⟨g, j, none⟩ = w.cell? ⟨g, j, none⟩

theorem append_law {t e ty : TypeId} {it : TypeInfo} {z : Value} {size lim : Nat} (hu : P.underlying t = some (.slice e)) (hi : P.info? e = some it) (hz : it.zero = some z) (hs : it.size = size) (hzs : z.cells.size = size)
    (hlim : lim * it.bytes ≤ 140737488355328) (hmax : lim ≤ maxLen) {v : Value} {m1 : Nat} {olds : List Value} (hown : w.ownsRow B e size v m1 olds) (hB : B ≤ w.heap.size) {A : Option Addr} {m2 c : Nat} {news : List Value}
    (hnl : news.length = m2 * size) (hA : m2 = 0 ∨ ∃ b off, A = some ⟨b, off, none⟩ ∧ ∀ j u, news[j]? = some u → w.cell? ⟨b, off + j, none⟩ = some u) (h1 : ∀ u ∈ news, u.oneCell' = true) (hsum : m1 + m2 ≤ lim) :
    ∃ v' w', (Builtin.append_ #[t, t] ty #[v, .slice A m2 c]).run P w = .ok v' w' ∧ Grew w w' B e size v v' m1 m2 olds news := by
  subst hs
  have hbytes : (m1 + m2) * it.bytes ≤ 140737488355328 := Nat.le_trans (Nat.mul_le_mul_right _ hsum) hlim
  have h63 : m1 + m2 ≤ 9223372036854775807 := by unfold maxLen at hmax; omega
  by_cases h0 : m2 = 0
  · -- nothing is appended
    subst h0
    have hn : news = [] := List.eq_nil_of_length_eq_zero (by simpa using hnl)
    subst hn
    refine ⟨v, w, ?_, ⟨by simpa using hown, Below.refl _ _, fun _ _ _ => rfl, fun g hg => .inl hg, fun _ _ _ _ => rfl⟩⟩
    rcases hown.2 with ⟨rfl, rfl⟩ | ⟨g, cap, cur, rfl, _, _, hnc, _⟩
    · cases A <;> simp [Builtin.append_, run_underlying hu, sizeOf, typeInfo, hi, Builtin.lenOf, Builtin.firstCells, loadCells, loadCellsFrom]
    · cases A <;> simp [Builtin.append_, run_underlying hu, sizeOf, typeInfo, hi, Builtin.lenOf, Builtin.firstCells, loadCells, loadCellsFrom, hnc, storeCells]
  · obtain ⟨b, off, rfl, hc⟩ := hA.resolve_left h0
    have hc' : ∀ j u, news[j]? = some u → w.cell? ((⟨b, off, none⟩ : Addr).add j) = some u := fun j u hj => by rw [add_off]; exact hc j u hj
    have hlen : (olds ++ news).length = (m1 + m2) * it.size := by rw [List.length_append, hown.1, hnl, Nat.add_mul]
    have grown : ∀ (old : Nat), old < m1 + m2 →
        Grew w (w.drew.alloc (.cells (olds.toArray ++ news.toArray ++ Builtin.zeroCells z.cells (grownCap w (m1 + m2) old e - (m1 + m2))) e)) B e it.size v (.slice (some ⟨w.heap.size, 0, none⟩) (m1 + m2) (grownCap w (m1 + m2) old e)) m1 m2 olds news := by
      intro old ho
      have hge := grownCap_ge w (m1 + m2) old e
      have hcm : grownCap w (m1 + m2) old e ≤ maxLen := grownCap_le_maxLen w (m1 + m2) old e (by unfold maxLen; omega)
      have hg : Grows w (w.drew.alloc (.cells (olds.toArray ++ news.toArray ++ Builtin.zeroCells z.cells (grownCap w (m1 + m2) old e - (m1 + m2))) e)) := (Grows.drew w).trans (Grows.alloc w.drew _)
      refine ⟨⟨hlen, .inr ⟨w.heap.size, _, _, rfl, hB, heap_alloc_new w.drew _, hge, hcm, ?_, ?_⟩⟩, hg.below hB, fun b hb _ => hg.block b hb, fun g hg' => ?_, fun g j hg' _ => ?_⟩
      · simp only [Array.size_append, List.size_toArray, size_zeroCells, hzs, hown.1, hnl, ← Nat.add_mul]
        congr 1; omega
      · simp only [Array.toList_append, List.append_assoc]
        rw [← List.append_assoc, ← hlen]
        exact List.take_left
      · simp only [Value.ownBlock, Option.some.injEq] at hg'
        subst hg'
        exact .inr ⟨Nat.le_refl _, by simp⟩
      · refine hg.cell ?_
        rcases hown.2 with ⟨rfl, _⟩ | ⟨g2, cap, cur, rfl, _, hh, _⟩
        · simp [Value.ownBlock] at hg'
        · simp only [Value.ownBlock, Option.some.injEq] at hg'; subst hg'
          rcases Nat.lt_or_ge g2 w.heap.size with h | h
          · exact h
          · simp [Array.getElem?_eq_none h] at hh
    rcases hown.2 with ⟨rfl, hm0⟩ | ⟨g, cap, cur, rfl, hBg, hg, hnc, hcm, hcs, htake⟩
    · subst hm0
      have ho : olds = [] := List.eq_nil_of_length_eq_zero (by simpa using hown.1)
      subst ho
      have hr := run_append_nil (P := P) w t ty e it z hu hi hz ⟨b, off, none⟩ m2 c news hnl hc' (by omega) (by omega) (by simp only [Nat.zero_add] at hbytes; omega)
      have hgr := grown 0 (by omega)
      simp only [Nat.zero_add, List.nil_append, Array.empty_append] at hgr ⊢
      refine ⟨_, _, hr, ?_⟩
      simpa using hgr
    · by_cases hroom : m1 + m2 ≤ cap
      · have hfit : m1 * it.size + news.length ≤ cur.size := by rw [hnl, hcs, ← Nat.add_mul]; exact Nat.mul_le_mul_right _ hroom
        have hr := run_append_room (P := P) w t ty e it hu hi g m1 cap cur hg ⟨b, off, none⟩ m2 c news hnl hc' h1 hroom hfit
        have hglt : g < w.heap.size := by
          rcases Nat.lt_or_ge g w.heap.size with h | h
          · exact h
          · simp [Array.getElem?_eq_none h] at hg
        refine ⟨_, _, hr, ⟨⟨hlen, .inr ⟨g, cap, _, rfl, hBg, setRow_heap w g cur _ e _ hg, hroom, hcm, ?_, ?_⟩⟩, ⟨rfl, rfl, rfl, by simp, fun k hk => setRow_other w g k _ (by omega)⟩, fun b hb hne => setRow_other w g b _ (fun e => hne (by simp [Value.ownBlock, e])), fun g' hg' => .inl hg', fun g' j hg' hj => ?_⟩⟩
        · simp only [List.size_toArray, List.length_append, List.length_take, List.length_drop, Array.length_toList]
          omega
        · rw [htake, ← hlen]
          exact List.take_left
        · simp only [Value.ownBlock, Option.some.injEq] at hg'
          subst hg'
          rw [cell_setRow_same w g j cur _ e (0, 0) hg, cell_of_row w g j cur e (0, 0) hg]
          rw [← Array.getElem?_toList, ← Array.getElem?_toList]
          simp only [List.append_assoc]
          rw [List.getElem?_append_left (by rw [List.length_take, Array.length_toList]; omega), List.getElem?_take_of_lt hj]
      · have holds : ∀ j u, olds[j]? = some u → w.cell? ((⟨g, 0, none⟩ : Addr).add j) = some u := hown.cells (g := g) rfl
        have hr := run_append_grow (P := P) w t ty e it z hu hi hz ⟨g, 0, none⟩ m1 cap olds hown.1 holds ⟨b, off, none⟩ m2 c news hnl hc' (by omega) (by omega) (growslice_fits (by omega) hbytes)
        exact ⟨_, _, hr, grown cap (by omega)⟩

theorem look_killR (s : Nat) (env : Env) (k : Nat) : look (killR s env) k = if shows s (look env k) then .dead else look env k := by
  have : killR s env = env.map fun q => (q.1, if shows s q.2 then E.dead else q.2) := by
    unfold killR
    apply List.map_congr_left
    intro q _
    split <;> rfl
  rw [this, look_map (fun e => if shows s e then E.dead else e) (by simp)]

theorem annAt_own_noIx : ∀ (p : Path) (o : Ann) {wr : Bool} {e : TypeId} {o' : Ann}, annAt o p = .own wr e o' → hasIx p = false
  | [], _, _, _, _, _ => rfl
  | .l :: p, o, _, _, _, h => by simp only [annAt] at h; simp only [hasIx]; exact annAt_own_noIx p o.l h
  | .r :: p, o, _, _, _, h => by simp only [annAt] at h; simp only [hasIx]; exact annAt_own_noIx p o.r h
  | .ix _ :: _, _, _, _, _, h => by simp [annAt] at h

theorem setP_self : ∀ (p : Path) (T : Ty) (x : den T) (y : TV), hasIx p = false → getP T p x = some y → setP T p x y = some x
  | [], T, x, y, _, h => by
    simp only [getP, Option.some.injEq] at h; subst h
    have : setP T [] x ⟨T, x⟩ = cast? T ⟨T, x⟩ := by cases T <;> rfl
    rw [this, cast?_self]
  | .l :: p, .pair A C, x, y, hi, h => by
    simp only [getP] at h; simp only [hasIx] at hi
    simp only [setP, setP_self p A x.1 y hi h, Option.bind_some]
  | .r :: p, .pair A C, x, y, hi, h => by
    simp only [getP] at h; simp only [hasIx] at hi
    simp only [setP, setP_self p C x.2 y hi h, Option.bind_some]
  | .ix _ :: _, _, _, _, hi, _ => by simp [hasIx] at hi
  | .l :: _, .int _, _, _, _, h | .l :: _, .bool, _, _, _, h | .l :: _, .str, _, _, _, h | .l :: _, .unit, _, _, _, h | .l :: _, .sl _, _, _, _, h | .l :: _, .arr _ _, _, _, _, h | .l :: _, .fn _ _, _, _, _, h => by simp [getP] at h
  | .r :: _, .int _, _, _, _, h | .r :: _, .bool, _, _, _, h | .r :: _, .str, _, _, _, h | .r :: _, .unit, _, _, _, h | .r :: _, .sl _, _, _, _, h | .r :: _, .arr _ _, _, _, _, h | .r :: _, .fn _ _, _, _, _, h => by simp [getP] at h

/-- a slice is taken away from its place -/
theorem take_place (hC : Conc P B G0 W0 n env a.tmps w ob) {k : Nat} {p : Path} {h : Held} {v : Value} {env2 : Env} (hh : heldAt env k p = some h) (hv : headAt w a.tmps env k p = some v) (ho : h.o.pure = true) (ht : takeAt env k p = some env2) :
    ∃ b1 b2 b3 cells, ob k = b1 ++ b2 ++ b3 ∧ b2 = obOf v (if h.wr = true then 0 else h.xs.length * cellsN h.T) ∧ rowX w B h.e (cellsN h.T) v h.xs.length cells ∧ Elems (Flat P h.T w (Gd B G0 ob) B .no) h.xs cells [] ∧
      (∀ s, s ≠ k → (look env2 s = .dead ∧ (look env s).home = false ∧ ob s = []) ∨ (look env2 s = look env s ∧ leads k (look env s) = false) ∨
        (∃ q T o x o' x', look env s = .ptr k q ∧ look env2 s = .ptr k q ∧ look env k = .loc T o x ∧ look env2 k = .loc T o' x')) ∧
      (∀ (w' : World) (G' : Nat → Nat → Prop) (tm' : Array Value) (env' : Env), (∀ b i, b < w.heap.size → Gd B G0 ob b i → G' b i ∧ w'.cell? ⟨b, i, none⟩ = w.cell? ⟨b, i, none⟩) → Later B w w' →
        (∀ g ∈ blocks (b1 ++ b3), w'.heap[g]? = w.heap[g]?) → ERep P w' G' B tm' env' (look env2 k) (a.tmps.getD k undef) (b1 ++ b3)) := by
  have hr := hC.rep k
  have hh' := hh
  simp only [heldAt] at hh
  simp only [headAt] at hv
  unfold takeAt at ht
  split at hh
  · rename_i wr e T oa xs hk
    rw [hk] at hr hv ht
    split at hh
    · simp only [Option.some.injEq] at hh hv ht
      subst hh; subst hv; subst ht
      have hr' : Flat P (.sl T) w (Gd B G0 ob) B (.own wr e oa) xs [a.tmps.getD k undef] (ob k) := hr
      unfold Flat at hr'
      obtain ⟨v', cells, b2, e1, h2, h3, h4⟩ := hr'
      simp only [List.cons.injEq, and_true] at e1
      subst e1
      obtain ⟨hb2, h5⟩ := Elems.pure P (o' := .no) ho rfl h3
      subst hb2
      refine ⟨[], _, [], cells, by rw [h4]; simp, rfl, h2, h5, fun s hs => ?_, fun w' G' tm' env' _ _ _ => ?_⟩
      · rw [look_cons, if_neg (Ne.symm hs), look_kill]
        by_cases hl : leads k (look env s) = true
        · rw [if_pos hl]
          refine .inl ⟨rfl, ?_, (ERep.leads hl (hC.rep s)).2⟩
          cases hes : look env s <;> rw [hes] at hl <;> simp_all [leads, E.home]
        · rw [if_neg hl]; exact .inr (.inl ⟨rfl, by simpa using hl⟩)
      · rw [look_cons, if_pos rfl]; exact rfl
    · exact absurd hh (by simp)
  · rename_i T oa x hk
    rw [hk] at ht hv
    simp only [Option.some.injEq] at ht
    subst ht
    split at hh
    · rename_i wr e' o' T' xs he hg
      simp only [Option.some.injEq] at hh
      subst hh
      obtain ⟨b, cur, e, v1, v2, v3, b1, b2, b3, k1, k2, k3, k4, k5, k6, k7, k8⟩ := loc_part hC hk hg
      rw [he] at k7
      have hv2 : v2.length = 1 := Flat.len P (.sl T') k7
      obtain ⟨u, rfl⟩ := List.length_eq_one_iff.1 hv2
      have hcell := cells_of_part k2 k4 0 u rfl
      rw [k5, Nat.add_zero] at hcell
      simp only [k1] at hv
      rw [hcell] at hv
      simp only [Option.some.injEq] at hv
      subst hv
      have k7' := k7
      unfold Flat at k7'
      obtain ⟨v', cells, bb, e1, h2, h3, h4⟩ := k7'
      simp only [List.cons.injEq, and_true] at e1
      subst e1
      obtain ⟨hbb, h5⟩ := Elems.pure P (o' := .no) ho rfl h3
      subst hbb
      have hix := annAt_own_noIx p oa he
      have hole : Flat P T w (Gd B G0 ob) B (setAnn oa p .hole) x (v1 ++ [u] ++ v3) (b1 ++ [] ++ b3) :=
        k8 .hole xs [u] [] x (fun hp => by rw [hix] at hp; exact absurd hp (by simp)) (by unfold Flat; exact ⟨rfl, rfl⟩) (setP_self p T x _ hix hg)
      refine ⟨(b, 0) :: b1, b2, b3, cells, by rw [k6]; simp, by rw [h4]; simp, h2, h5, fun s hs => ?_, fun w' G' tm' env' hG hL hO => ?_⟩
      · rw [look_cons, if_neg (Ne.symm hs), look_killR]
        by_cases hl : shows k (look env s) = true
        · rw [if_pos hl]
          have hl2 : leads k (look env s) = true := by
            cases hes : look env s <;> rw [hes] at hl <;> simp only [shows] at hl <;> first | exact hl | (simp at hl; done)
          refine .inl ⟨rfl, ?_, (ERep.leads hl2 (hC.rep s)).2⟩
          cases hes : look env s <;> rw [hes] at hl2 <;> simp_all [leads, E.home]
        · rw [if_neg hl]
          by_cases hl2 : leads k (look env s) = true
          · right; right
            cases hes : look env s with
            | ptr k' q =>
              rw [hes] at hl2
              simp only [leads, beq_iff_eq] at hl2; subst hl2
              exact ⟨q, T, oa, x, _, x, rfl, rfl, hk, by rw [look_cons, if_pos rfl]⟩
            | _ => rw [hes] at hl hl2; exact absurd hl2 (by simpa only [shows] using hl)
          · exact .inr (.inl ⟨rfl, by simpa using hl2⟩)
      · rw [look_cons, if_pos rfl]
        refine ⟨b, cur, e, b1 ++ b3, k1, k3, ?_, ?_, by simp⟩
        · rw [hO b (by simp)]; exact k2
        · rw [k4]
          exact Flat.mono P T hG hL (fun g hg => hO g (by simp only [List.cons_append, blocks_cons, List.mem_cons]; exact .inr (by simpa using hg))) (by simpa using hole)
    · exact absurd hh (by simp)
  · exact absurd hh (by simp)

theorem Grew.grows {B : Nat} {e : TypeId} {size : Nat} {v v' : Value} {m1 m2 : Nat} {olds news : List Value} (h : Grew w w' B e size v v' m1 m2 olds news) (hv : v.ownBlock = none) : Grows w w' :=
  ⟨h.below.os, h.below.tape, h.below.output, h.below.size, fun b hb => h.rest b hb (by rw [hv]; simp)⟩

theorem obOf_blocks (v : Value) (l : Nat) : ∀ b, b ∈ blocks (obOf v l) → v.ownBlock = some b := by
  intro b hb
  unfold obOf at hb
  cases hv : v.ownBlock with
  | none => rw [hv] at hb; simp at hb
  | some g => rw [hv] at hb; simp at hb; rw [hb]

theorem obOf_nodup (v : Value) (l : Nat) : (blocks (obOf v l)).Nodup := by unfold obOf; cases v.ownBlock <;> simp

theorem st_append {t e : TypeId} {T : Ty} {lim : Nat} {x s : Operand} {y sy : Od} {it : TypeInfo} {z : Value} (hC : Conc P B G0 W0 n env a.tmps w ob) (hK : KOk P B G0 W0 n a K r next) (hd : ∀ k, o.dst = some k → k < n) (hdst : i.dst = o.dst)
    (ho : o.op = .call { callee := .builtin .append, args := #[s, x], argTypes := #[t, t] }) (hi : i.op = .append e T lim sy y) (hu : P.underlying t = some (.slice e)) (hT : TyR P e T) (hie : P.info? e = some it) (hz : it.zero = some z) (hzs : z.cells.size = cellsN T)
    (hlim : lim * it.bytes ≤ 140737488355328) (hmax : lim ≤ maxLen) (hnb : e ≠ BUF) (hx : okOd x y = true) (hs : okOd s sy = true) (h : step cl i env K = some r) : o.wp P a w next Q := by
  unfold step at h; rw [hi] at h; simp only [hdst, Option.bind_eq_some_iff] at h
  obtain ⟨⟨env1, zz⟩, hp, ys, hys, h⟩ := h
  obtain ⟨ob1, hf1, hC1, vs, hv, hF⟩ := pub_rep hC hx hp
  have hzz := cast?_some hys
  simp only at hzz; subst hzz
  replace hF : Flat P (.sl T) w (Gd B G0 ob1) B .no ys vs [] := hF
  replace hv : a.eval x = asVal (.sl T) vs := hv
  have hF' := hF
  unfold Flat at hF'
  obtain ⟨_, A, c, rfl, hlc, hcm, hA⟩ := hF'
  rw [asVal_sl] at hv
  have hsz : it.size = cellsN T := by
    obtain ⟨i2, h2, h3⟩ := hT.size
    rw [hie] at h2; cases h2; exact h3
  -- the cells that are appended
  obtain ⟨news, hnE, hnA⟩ : ∃ news, Elems (Flat P T w (Gd B G0 ob1) B .no) ys news [] ∧ (ys.length = 0 ∨ ∃ b off, A = some ⟨b, off, none⟩ ∧ ∀ j u, news[j]? = some u → w.cell? ⟨b, off + j, none⟩ = some u) := by
    rcases hA with rfl | ⟨b, off, cells, rfl, hE, hcell⟩
    · exact ⟨[], ⟨rfl, rfl⟩, .inl rfl⟩
    · exact ⟨cells, hE, .inr ⟨b, off, rfl, fun j u hj => (hcell j u hj).1⟩⟩
  have hnl : news.length = ys.length * cellsN T := Elems.length (fun x v b hx => Flat.len P T hx) hnE
  have hn1 : ∀ u ∈ news, u.oneCell' = true := by
    have : ∀ {xs : List (den T)} {vs : List Value} {ob : OB}, Elems (Flat P T w (Gd B G0 ob1) B .no) xs vs ob → ∀ u ∈ vs, u.oneCell' = true := by
      intro xs
      induction xs with
      | nil => rintro vs ob ⟨rfl, rfl⟩; simp
      | cons x xs ih =>
        rintro vs ob ⟨u1, u2, c1, c2, rfl, rfl, hr, ht⟩ u hu
        rcases List.mem_append.1 hu with hu | hu
        · exact Flat.one P T (o := .no) rfl hr u hu
        · exact ih ht u hu
    exact this hnE
  have run : ∀ {v v' : Value} {w' : World}, a.eval s = v → (Builtin.append_ #[t, t] o.type #[v, .slice A ys.length c]).run P w = .ok v' w' → (execOp a.eval o).run P w = .ok (.value v') w' := by
    intro v v' w' hev hrun
    simp [execOp, ho, resolve, invoke, builtin, hev, hv, hrun]
  split at h
  · -- onto nil
    rename_i e' T'
    split at h
    case isFalse => simp at h
    rename_i hee
    split at h
    case isFalse => simp at h
    rename_i hle
    have hev : a.eval s = .slice none 0 0 := by
      unfold okOd at hs
      split at hs <;> first | (rename_i hh; cases hh; exact eq1_eq hs) | (rename_i hh; cases hh; done) | (exact absurd hs (by simp))
    obtain ⟨v', w', hrun, hgrew⟩ := append_law (ty := o.type) hu hie hz hsz hzs hlim hmax (World.ownsRow_nil w B e (cellsN T)) hC1.base hnl hnA hn1 (by omega)
    have hg := hgrew.grows rfl
    refine wp_value (run hev hrun) ?_
    cases hod : o.dst with
    | none =>
      rw [hod] at h
      exact fin0 (e := .dead) hC1 hK (d := none) (by simp) hg (v := v') rfl h
    | some d =>
      rw [hod] at h
      have hfresh : ∀ b, b ∈ blocks (obOf v' 0) → w.heap.size ≤ b ∧ b < w'.heap.size := fun b hb => by
        rcases hgrew.block b (obOf_blocks v' 0 b hb) with q | q
        · simp [Value.ownBlock] at q
        · exact q
      have h2 := Conc.putG (e := .own true e T .no ys) (v := v') (bk := obOf v' 0) hC1 (hd d hod) hg ?_ hfresh (obOf_nodup _ _)
      · exact hK _ _ _ _ h2 h
      · rw [if_neg (by simp [leads])]
        show Flat P (.sl T) w' _ B (.own true e .no) ys [v'] _
        unfold Flat
        refine ⟨v', news, [], rfl, rowX_of (by simpa using hgrew.owns), Elems.imp (fun x u b hb hx => ?_) hnE, by simp⟩
        have : b = [] := by cases b with | nil => rfl | cons q r => exact absurd (hb q (by simp)) (by simp)
        subst this
        exact Flat.mono P T (fun b i hb h => ⟨Gd_upd (fun lim hl => by have := (hfresh b (mem_blocks.2 ⟨_, hl⟩)).1; omega) h, hg.cell hb⟩) ⟨hg.size, fun b hb => hg.block b (Nat.lt_of_lt_of_le hb hC1.base)⟩ (by simp) hx
  · -- onto a slice that is held
    rename_i k0
    simp only [Option.bind_eq_some_iff] at h
    obtain ⟨⟨k, p⟩, hpl, hh, hhe, xs, hxs, env2, htk, h⟩ := h
    split at h
    case h_2 => simp at h
    rename_i hcond
    split at h
    case isFalse => simp at h
    rename_i hle
    simp only [Bool.and_eq_true] at hcond
    obtain ⟨⟨hap, hpure⟩, hee⟩ := hcond
    have hee' : hh.e = e := by simpa using hee
    have hTT := cast?_some hxs
    -- the header
    have hr1 := hC1.rep k0
    have hev : a.eval s = a.tmps.getD k0 undef := okOd_t hs a
    have hhead : headAt w a.tmps env1 k p = some (a.eval s) := by
      unfold placeOf at hpl
      split at hpl
      · rename_i he
        simp only [Option.some.injEq, Prod.mk.injEq] at hpl
        obtain ⟨rfl, rfl⟩ := hpl
        simp [headAt, he, hev]
      · rename_i k' p' he
        simp only [Option.some.injEq, Prod.mk.injEq] at hpl
        obtain ⟨rfl, rfl⟩ := hpl
        rw [he] at hr1
        rw [hev]; exact hr1.2.1
      · exact absurd hpl (by simp)
    obtain ⟨wr, eh, Th, oh, xh⟩ := hh
    simp only at hee' hpure hTT hle h
    have hTh : Th = T := by
      have := congrArg Sigma.fst hTT
      simpa using this
    subst hTh
    have hxh : xh = xs := by simpa using hTT
    subst hxh
    subst hee'
    obtain ⟨b1, b2, b3, cells, e1, e2, e3, e4, e5, e6⟩ := take_place hC1 hhe hhead hpure htk
    simp only at e2 e3 e4
    obtain ⟨v', w', hrun, hgrew⟩ := append_law (ty := o.type) hu hie hz hsz hzs hlim hmax (e3.owns hnb) hC1.base hnl hnA hn1 hle
    refine wp_value (run rfl hrun) ?_
    cases hod : o.dst with
    | none => rw [hod] at hap; simp [apart] at hap
    | some d =>
      rw [hod] at hap h
      have hdk : d ≠ k := by simpa [apart] using hap
      have hlook : ∀ j, look (putO env2 (some d) (.own wr eh Th .no (xh ++ ys))) j = if d = j then .own wr eh Th .no (xh ++ ys) else if (look env2 d).home = true ∧ leads d (look env2 j) = true then .dead else look env2 j := by
        intro j
        simp only [Fw.putO]
        rw [look_put]
        simp only [leads, Bool.false_eq_true, if_false]
      have hlim' : ∀ lim', (∀ g, (a.eval s).ownBlock = some g → (g, lim') ∈ ob1 k → True) := fun _ _ _ _ => trivial
      have hC2 := Conc.partW (k := k) (d := d) (w' := w') (v := v') (bd := obOf v' (if wr = true then 0 else (xh ++ ys).length * cellsN Th)) (ek := look env2 k) (ed := .own wr eh Th .no (xh ++ ys))
        (env' := putO env2 (some d) (.own wr eh Th .no (xh ++ ys))) hC1 hdk (hd d hod) e1 rfl hgrew.below (fun b hb hnb => hgrew.rest b hb (fun q => hnb (by rw [e2]; exact mem_blocks.2 ⟨_, mem_obOf q⟩)))
        (fun b hb => by
          rcases hgrew.block b (obOf_blocks v' _ b hb) with q | q
          · exact .inl (by rw [e2]; exact mem_blocks.2 ⟨_, mem_obOf q⟩)
          · exact .inr q) (obOf_nodup _ _) (fun b i hb hb2 hg => ?_) ?_ ?_ (fun j hjk hjd => ?_) (fun j hjk hjd hdead => ?_) (fun hG => ?_) (fun hG => ?_)
      · exact hK _ _ _ _ hC2 h
      · -- cells of the row that could be read
        have hbo : (a.eval s).ownBlock = some b := by rw [e2] at hb2; exact obOf_blocks _ _ _ hb2
        have hrec : (b, if wr = true then 0 else xh.length * cellsN Th) ∈ ob1 k := by
          rw [e1, e2]; simp [mem_obOf hbo]
        have hBb := (hC1.low k b (mem_blocks.2 ⟨_, hrec⟩)).1
        have hi : i < if wr = true then 0 else xh.length * cellsN Th := by
          rcases hg with ⟨q, _⟩ | ⟨_, q⟩
          · omega
          · exact q k _ hrec
        cases wr with
        | true => simp at hi
        | false =>
          simp only [Bool.false_eq_true, if_false] at hi ⊢
          refine ⟨fun lim' hl => ?_, hgrew.cells b i hbo hi⟩
          have : lim' = (xh ++ ys).length * cellsN Th := by
            unfold obOf at hl
            cases hvb : v'.ownBlock with
            | none => rw [hvb] at hl; simp at hl
            | some g => rw [hvb] at hl; simp at hl; rw [hl.2]; simp
          rw [this, List.length_append, Nat.add_mul]; omega
      · rw [hlook, if_neg hdk]
        have : leads d (look env2 k) = false := by
          unfold takeAt at htk
          split at htk
          · simp only [Option.some.injEq] at htk; subst htk; rw [look_cons, if_pos rfl]; rfl
          · simp only [Option.some.injEq] at htk; subst htk; rw [look_cons, if_pos rfl]; rfl
          · exact absurd htk (by simp)
        simp [this]
      · rw [hlook, if_pos rfl]
      · rw [hlook, if_neg (Ne.symm hjd)]
        have hdhome : look env2 d = look env1 d ∨ (look env2 d).home = false := by
          rcases e5 d hdk with ⟨q, _⟩ | ⟨q, _⟩ | ⟨_, _, _, _, _, _, q1, q2, _⟩
          · right; rw [q]; rfl
          · left; exact q
          · right; rw [q2]; rfl
        rcases e5 j hjk with ⟨q1, q2, q3⟩ | ⟨q1, q2⟩ | ⟨q, Tq, oq, xq, oq', xq', q1, q2, q3, q4⟩
        · left; rw [q1]; simp [leads]
        · by_cases hkill : (look env2 d).home = true ∧ leads d (look env2 j) = true
          · left; rw [if_pos hkill]
          · right; left
            rw [if_neg hkill]
            refine ⟨q1, q2, fun hk2 => hkill ?_⟩
            rcases hdhome with hd1 | hd1
            · rw [hd1, q1]; exact hk2
            · exfalso
              rcases e5 d hdk with ⟨z1, z2, _⟩ | ⟨z1, _⟩ | ⟨_, _, _, _, _, _, z1, _⟩
              · rw [z2] at hk2; exact absurd hk2.1 (by simp)
              · rw [z1] at hd1; rw [hd1] at hk2; exact absurd hk2.1 (by simp)
              · rw [z1] at hk2; simp [E.home] at hk2
        · right; right
          have : leads d (look env2 j) = false := by rw [q2]; simp [leads, Ne.symm hdk]
          rw [this]
          simp only [Bool.false_eq_true, and_false, if_false]
          exact ⟨q, Tq, oq, xq, oq', xq', q1, q2, q3, q4⟩
      · rw [hlook, if_neg (Ne.symm hjd)] at hdead
        rcases e5 j hjk with ⟨q1, q2, q3⟩ | ⟨q1, q2⟩ | ⟨q, Tq, oq, xq, oq', xq', q1, q2, q3, q4⟩
        · exact ⟨q3, q2⟩
        · by_cases hkill : (look env2 d).home = true ∧ leads d (look env2 j) = true
          · have hl := hkill.2
            rw [q1] at hl
            refine ⟨(ERep.leads hl (hC1.rep j)).2, ?_⟩
            cases hes : look env1 j <;> rw [hes] at hl <;> simp_all [leads, E.home]
          · rw [if_neg hkill, q1] at hdead
            have := hC1.rep j
            rw [hdead] at this ⊢
            exact ⟨this, rfl⟩
        · rw [q2] at hdead
          have : leads d (E.ptr k q) = false := by simp [leads, Ne.symm hdk]
          rw [this] at hdead; simp at hdead
      · refine e6 w' _ _ _ hG ⟨hgrew.below.size, hgrew.below.block⟩ (fun g hg => hgrew.rest g ?_ ?_)
        · obtain ⟨l, hl⟩ := mem_blocks.1 hg
          refine (hC1.low k g (mem_blocks.2 ⟨l, ?_⟩)).2
          rw [e1]; rcases List.mem_append.1 hl with q | q <;> simp [q]
        · intro q
          have hnd := hC1.nodup k
          rw [e1] at hnd
          simp only [blocks_append] at hnd hg
          rw [List.append_assoc, List.nodup_append] at hnd
          obtain ⟨n1, n2, n3⟩ := hnd
          rw [List.nodup_append] at n2
          have hg2 : g ∈ blocks b2 := by rw [e2]; exact mem_blocks.2 ⟨_, mem_obOf q⟩
          rcases List.mem_append.1 hg with q' | q'
          · exact n3 g q' g (List.mem_append_left _ hg2) rfl
          · exact n2.2.2 g hg2 g q' rfl
      · show Flat P (.sl Th) w' _ B (.own wr eh .no) (xh ++ ys) [v'] _
        unfold Flat
        refine ⟨v', cells ++ news, [], rfl, rowX_of (by simpa [List.length_append] using hgrew.owns), ?_, by simp⟩
        have hm : ∀ {xs : List (den Th)} {vs : List Value}, Elems (Flat P Th w (Gd B G0 ob1) B .no) xs vs [] → Elems (Flat P Th w' (Gd B G0 _) B .no) xs vs [] := fun hE => Elems.imp (fun x u b hb hx => by
          have : b = [] := by cases b with | nil => rfl | cons q r => exact absurd (hb q (by simp)) (by simp)
          subst this
          exact Flat.mono P Th hG ⟨hgrew.below.size, hgrew.below.block⟩ (by simp) hx) hE
        simpa using Elems.append (hm e4) (hm hnE)
  · exact absurd h (by simp)

end
end Go.Fw
