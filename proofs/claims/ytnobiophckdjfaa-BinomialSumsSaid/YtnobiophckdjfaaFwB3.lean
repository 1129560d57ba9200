/- The abstract value machine and its soundness, part 3: a call of the machine that answers is a call of the program that answers so; no conditions. -/
import Derived.Test.YtnobiophckdjfaaFwB2
set_option linter.unusedVariables false
set_option linter.unusedSimpArgs false
/- Soundness, part 15: append, make. -/
namespace Go.Fw
open Go Go.RowKit
section
variable {P : Program} {B : Nat} {G0 : Nat → Nat → Prop} {W0 : World} {n : Nat} {env : Env} {a : Act} {w w' : World} {ob : Nat → OB}
variable {R : Type} {K : Kont R} {r : R} {next : Act → World → Prop} {Q : Exit → Act → World → Prop} {o : Oper} {i : AI} {cl : Cal}
structure Grew (w w' : World) (B : Nat) (e : TypeId) (size : Nat) (v v' : Value) (m1 m2 : Nat) (olds news : List Value) : Prop where
 owns : w'.ownsRow B e size v' (m1 + m2) (olds ++ news)
 below : Below B w w'
 rest : ∀ b, b < w.heap.size → v.ownBlock ≠ some b → w'.heap[b]? = w.heap[b]?
 block : ∀ g, v'.ownBlock = some g → v.ownBlock = some g ∨ (w.heap.size ≤ g ∧ g < w'.heap.size)
 cells : ∀ g j, v.ownBlock = some g → j < m1 * size → w'.cell? ⟨g, j, none⟩ = w.cell? ⟨g, j, none⟩
theorem append_law {t e ty : TypeId} {it : TypeInfo} {z : Value} {size lim : Nat} (hu : P.underlying t = some (.slice e)) (hi : P.info? e = some it) (hz : it.zero = some z) (hs : it.size = size) (hzs : z.cells.size = size)
  (hlim : lim * it.bytes ≤ 140737488355328) (hmax : lim ≤ maxLen) {v : Value} {m1 : Nat} {olds : List Value} (hown : w.ownsRow B e size v m1 olds) (hB : B ≤ w.heap.size) {A : Option Addr} {m2 c : Nat} {news : List Value}
  (hnl : news.length = m2 * size) (hA : m2 = 0 ∨ ∃ b off, A = some ⟨b, off, none⟩ ∧ ∀ j u, news[j]? = some u → w.cell? ⟨b, off + j, none⟩ = some u) (h1 : ∀ u ∈ news, u.oneCell' = true) (hsum : m1 + m2 ≤ lim) :
  ∃ v' w', (Builtin.append_ #[t, t] ty #[v, .slice A m2 c]).run P w = .ok v' w' ∧ Grew w w' B e size v v' m1 m2 olds news := by
 subst hs
 have hbytes : (m1 + m2) * it.bytes ≤ 140737488355328 := Nat.le_trans (Nat.mul_le_mul_right _ hsum) hlim
 have h63 : m1 + m2 ≤ 9223372036854775807 := by unfold maxLen at hmax; omega
 by_cases h0 : m2 = 0
 ·-- nothing is appended
  subst h0
  have hn : news = [] := List.eq_nil_of_length_eq_zero (by simpa using hnl)
  subst hn
  refine ⟨v, w, ?_, ⟨by simpa using hown, Below.refl _ _, fun _ _ _ => rfl, fun g hg => .inl hg, fun _ _ _ _ => rfl⟩⟩
  rcases hown.2 with ⟨rfl, rfl⟩ | ⟨g, cap, cur, rfl, _, _, hnc, _⟩
  ·cases A <;> simp [Builtin.append_, run_underlying hu, sizeOf, typeInfo, hi, Builtin.lenOf, Builtin.firstCells, loadCells, loadCellsFrom]
  ·cases A <;> simp [Builtin.append_, run_underlying hu, sizeOf, typeInfo, hi, Builtin.lenOf, Builtin.firstCells, loadCells, loadCellsFrom, hnc, storeCells]
 ·obtain ⟨b, off, rfl, hc⟩ := hA.resolve_left h0
  have hc' : ∀ j u, news[j]? = some u → w.cell? ((⟨b, off, none⟩ : Addr).add j) = some u := fun j u hj => by rw [add_off]; exact hc j u hj
  have hlen : (olds ++ news).length = (m1 + m2) * it.size := by rw [List.length_append, hown.1, hnl, Nat.add_mul]
  have grown : ∀ (old : Nat), old < m1 + m2 →
    Grew w (w.drew.alloc (.cells (olds.toArray ++ news.toArray ++ Builtin.zeroCells z.cells (grownCap w (m1 + m2) old e - (m1 + m2))) e)) B e it.size v (.slice (some ⟨w.heap.size, 0, none⟩) (m1 + m2) (grownCap w (m1 + m2) old e)) m1 m2 olds news := by
   intro old ho
   have hge := grownCap_ge w (m1 + m2) old e
   have hcm : grownCap w (m1 + m2) old e ≤ maxLen := grownCap_le_maxLen w (m1 + m2) old e (by unfold maxLen; omega)
   have hg : Grows w (w.drew.alloc (.cells (olds.toArray ++ news.toArray ++ Builtin.zeroCells z.cells (grownCap w (m1 + m2) old e - (m1 + m2))) e)) := (Grows.drew w).trans (Grows.alloc w.drew _)
   refine ⟨⟨hlen, .inr ⟨w.heap.size, _, _, rfl, hB, heap_alloc_new w.drew _, hge, hcm, ?_, ?_⟩⟩, hg.below hB, fun b hb _ => hg.block b hb, fun g hg' => ?_, fun g j hg' _ => ?_⟩
   ·simp only [Array.size_append, List.size_toArray, size_zeroCells, hzs, hown.1, hnl, ← Nat.add_mul]
    congr 1; omega
   ·simp only [Array.toList_append, List.append_assoc]
    rw [← List.append_assoc, ← hlen]
    exact List.take_left
   ·simp only [Value.ownBlock, Option.some.injEq] at hg'
    subst hg'
    exact .inr ⟨Nat.le_refl _, by simp⟩
   ·refine hg.cell ?_
    rcases hown.2 with ⟨rfl, _⟩ | ⟨g2, cap, cur, rfl, _, hh, _⟩
    ·simp [Value.ownBlock] at hg'
    ·simp only [Value.ownBlock, Option.some.injEq] at hg'; subst hg'
     rcases Nat.lt_or_ge g2 w.heap.size with h | h
     ·exact h
     ·simp [Array.getElem?_eq_none h] at hh
  rcases hown.2 with ⟨rfl, hm0⟩ | ⟨g, cap, cur, rfl, hBg, hg, hnc, hcm, hcs, htake⟩
  ·subst hm0
   have ho : olds = [] := List.eq_nil_of_length_eq_zero (by simpa using hown.1)
   subst ho
   have hr := run_append_nil (P := P) w t ty e it z hu hi hz ⟨b, off, none⟩ m2 c news hnl hc' (by omega) (by omega) (by simp only [Nat.zero_add] at hbytes; omega)
   have hgr := grown 0 (by omega)
   simp only [Nat.zero_add, List.nil_append, Array.empty_append] at hgr ⊢
   refine ⟨_, _, hr, ?_⟩
   simpa using hgr
  ·by_cases hroom : m1 + m2 ≤ cap
   ·have hfit : m1 * it.size + news.length ≤ cur.size := by rw [hnl, hcs, ← Nat.add_mul]; exact Nat.mul_le_mul_right _ hroom
    have hr := run_append_room (P := P) w t ty e it hu hi g m1 cap cur hg ⟨b, off, none⟩ m2 c news hnl hc' h1 hroom hfit
    have hglt : g < w.heap.size := by
     rcases Nat.lt_or_ge g w.heap.size with h | h
     ·exact h
     ·simp [Array.getElem?_eq_none h] at hg
    refine ⟨_, _, hr, ⟨⟨hlen, .inr ⟨g, cap, _, rfl, hBg, setRow_heap w g cur _ e _ hg, hroom, hcm, ?_, ?_⟩⟩, ⟨rfl, rfl, rfl, by simp, fun k hk => setRow_other w g k _ (by omega)⟩, fun b hb hne => setRow_other w g b _ (fun e => hne (by simp [Value.ownBlock, e])), fun g' hg' => .inl hg', fun g' j hg' hj => ?_⟩⟩
    ·simp only [List.size_toArray, List.length_append, List.length_take, List.length_drop, Array.length_toList]
     omega
    ·rw [htake, ← hlen]
     exact List.take_left
    ·simp only [Value.ownBlock, Option.some.injEq] at hg'
     subst hg'
     rw [cell_setRow_same w g j cur _ e (0, 0) hg, cell_of_row w g j cur e (0, 0) hg]
     rw [← Array.getElem?_toList, ← Array.getElem?_toList]
     simp only [List.append_assoc]
     rw [List.getElem?_append_left (by rw [List.length_take, Array.length_toList]; omega), List.getElem?_take_of_lt hj]
   ·have holds : ∀ j u, olds[j]? = some u → w.cell? ((⟨g, 0, none⟩ : Addr).add j) = some u := hown.cells (g := g) rfl
    have hr := run_append_grow (P := P) w t ty e it z hu hi hz ⟨g, 0, none⟩ m1 cap olds hown.1 holds ⟨b, off, none⟩ m2 c news hnl hc' (by omega) (by omega) (growslice_fits (by omega) hbytes)
    exact ⟨_, _, hr, grown cap (by omega)⟩
theorem look_killR (s : Nat) (env : Env) (k : Nat) : look (killR s env) k = if shows s (look env k) then .dead else look env k := by
 have : killR s env = env.map fun q => (q.1, if shows s q.2 then E.dead else q.2) := by
  unfold killR
  apply List.map_congr_left
  intro q _
  split <;> rfl
 rw [this, look_map (fun e => if shows s e then E.dead else e) (by simp)]
theorem annAt_own_noIx : ∀ (p : Path) (o : Ann) {wr : Bool} {e : TypeId} {o' : Ann}, annAt o p = .own wr e o' → hasIx p = false
 | [], _, _, _, _, _ => rfl
 | .l :: p, o, _, _, _, h => by simp only [annAt] at h; simp only [hasIx]; exact annAt_own_noIx p o.l h
 | .r :: p, o, _, _, _, h => by simp only [annAt] at h; simp only [hasIx]; exact annAt_own_noIx p o.r h
 | .ix _ :: _, _, _, _, _, h => by simp [annAt] at h
theorem setP_self : ∀ (p : Path) (T : Ty) (x : den T) (y : TV), hasIx p = false → getP T p x = some y → setP T p x y = some x
 | [], T, x, y, _, h => by
   simp only [getP, Option.some.injEq] at h; subst h
   have : setP T [] x ⟨T, x⟩ = cast? T ⟨T, x⟩ := by cases T <;> rfl
   rw [this, cast?_self]
 | .l :: p, .pair A C, x, y, hi, h => by
   simp only [getP] at h; simp only [hasIx] at hi
   simp only [setP, setP_self p A x.1 y hi h, Option.bind_some]
 | .r :: p, .pair A C, x, y, hi, h => by
   simp only [getP] at h; simp only [hasIx] at hi
   simp only [setP, setP_self p C x.2 y hi h, Option.bind_some]
 | .ix _ :: _, _, _, _, hi, _ => by simp [hasIx] at hi
 | .l :: _, .int _, _, _, _, h | .l :: _, .bool, _, _, _, h | .l :: _, .str, _, _, _, h | .l :: _, .unit, _, _, _, h | .l :: _, .sl _, _, _, _, h | .l :: _, .arr _ _, _, _, _, h | .l :: _, .fn _ _, _, _, _, h => by simp [getP] at h
 | .r :: _, .int _, _, _, _, h | .r :: _, .bool, _, _, _, h | .r :: _, .str, _, _, _, h | .r :: _, .unit, _, _, _, h | .r :: _, .sl _, _, _, _, h | .r :: _, .arr _ _, _, _, _, h | .r :: _, .fn _ _, _, _, _, h => by simp [getP] at h
theorem take_place (hC : Conc P B G0 W0 n env a.tmps w ob) {k : Nat} {p : Path} {h : Held} {v : Value} {env2 : Env} (hh : heldAt env k p = some h) (hv : headAt w a.tmps env k p = some v) (ho : h.o.pure = true) (ht : takeAt env k p = some env2) :
  ∃ b1 b2 b3 cells, ob k = b1 ++ b2 ++ b3 ∧ b2 = obOf v (if h.wr = true then 0 else h.xs.length * cellsN h.T) ∧ rowX w B h.e (cellsN h.T) v h.xs.length cells ∧ Elems (Flat P h.T w (Gd B G0 ob) B .no) h.xs cells [] ∧
    (∀ s, s ≠ k → (look env2 s = .dead ∧ (look env s).home = false ∧ ob s = []) ∨ (look env2 s = look env s ∧ leads k (look env s) = false) ∨
     (∃ q T o x o' x', look env s = .ptr k q ∧ look env2 s = .ptr k q ∧ look env k = .loc T o x ∧ look env2 k = .loc T o' x')) ∧
    (∀ (w' : World) (G' : Nat → Nat → Prop) (tm' : Array Value) (env' : Env), (∀ b i, b < w.heap.size → Gd B G0 ob b i → G' b i ∧ w'.cell? ⟨b, i, none⟩ = w.cell? ⟨b, i, none⟩) → Later B w w' →
     (∀ g ∈ blocks (b1 ++ b3), w'.heap[g]? = w.heap[g]?) → ERep P w' G' B tm' env' (look env2 k) (a.tmps.getD k undef) (b1 ++ b3)) := by
 have hr := hC.rep k
 have hh' := hh
 simp only [heldAt] at hh
 simp only [headAt] at hv
 unfold takeAt at ht
 split at hh
 ·rename_i wr e T oa xs hk
  rw [hk] at hr hv ht
  split at hh
  ·simp only [Option.some.injEq] at hh hv ht
   subst hh; subst hv; subst ht
   have hr' : Flat P (.sl T) w (Gd B G0 ob) B (.own wr e oa) xs [a.tmps.getD k undef] (ob k) := hr
   unfold Flat at hr'
   obtain ⟨v', cells, b2, e1, h2, h3, h4⟩ := hr'
   simp only [List.cons.injEq, and_true] at e1
   subst e1
   obtain ⟨hb2, h5⟩ := Elems.pure P (o' := .no) ho rfl h3
   subst hb2
   refine ⟨[], _, [], cells, by rw [h4]; simp, rfl, h2, h5, fun s hs => ?_, fun w' G' tm' env' _ _ _ => ?_⟩
   ·rw [look_cons, if_neg (Ne.symm hs), look_kill]
    by_cases hl : leads k (look env s) = true
    ·rw [if_pos hl]
     refine .inl ⟨rfl, ?_, (ERep.leads hl (hC.rep s)).2⟩
     cases hes : look env s <;> rw [hes] at hl <;> simp_all [leads, E.home]
    ·rw [if_neg hl]; exact .inr (.inl ⟨rfl, by simpa using hl⟩)
   ·rw [look_cons, if_pos rfl]; exact rfl
  ·exact absurd hh (by simp)
 ·rename_i T oa x hk
  rw [hk] at ht hv
  simp only [Option.some.injEq] at ht
  subst ht
  split at hh
  ·rename_i wr e' o' T' xs he hg
   simp only [Option.some.injEq] at hh
   subst hh
   obtain ⟨b, cur, e, v1, v2, v3, b1, b2, b3, k1, k2, k3, k4, k5, k6, k7, k8⟩ := loc_part hC hk hg
   rw [he] at k7
   have hv2 : v2.length = 1 := Flat.len P (.sl T') k7
   obtain ⟨u, rfl⟩ := List.length_eq_one_iff.1 hv2
   have hcell := cells_of_part k2 k4 0 u rfl
   rw [k5, Nat.add_zero] at hcell
   simp only [k1] at hv
   rw [hcell] at hv
   simp only [Option.some.injEq] at hv
   subst hv
   have k7' := k7
   unfold Flat at k7'
   obtain ⟨v', cells, bb, e1, h2, h3, h4⟩ := k7'
   simp only [List.cons.injEq, and_true] at e1
   subst e1
   obtain ⟨hbb, h5⟩ := Elems.pure P (o' := .no) ho rfl h3
   subst hbb
   have hix := annAt_own_noIx p oa he
   have hole : Flat P T w (Gd B G0 ob) B (setAnn oa p .hole) x (v1 ++ [u] ++ v3) (b1 ++ [] ++ b3) :=
    k8 .hole xs [u] [] x (fun hp => by rw [hix] at hp; exact absurd hp (by simp)) (by unfold Flat; exact ⟨rfl, rfl⟩) (setP_self p T x _ hix hg)
   refine ⟨(b, 0) :: b1, b2, b3, cells, by rw [k6]; simp, by rw [h4]; simp, h2, h5, fun s hs => ?_, fun w' G' tm' env' hG hL hO => ?_⟩
   ·rw [look_cons, if_neg (Ne.symm hs), look_killR]
    by_cases hl : shows k (look env s) = true
    ·rw [if_pos hl]
     have hl2 : leads k (look env s) = true := by
      cases hes : look env s <;> rw [hes] at hl <;> simp only [shows] at hl <;> first | exact hl | (simp at hl; done)
     refine .inl ⟨rfl, ?_, (ERep.leads hl2 (hC.rep s)).2⟩
     cases hes : look env s <;> rw [hes] at hl2 <;> simp_all [leads, E.home]
    ·rw [if_neg hl]
     by_cases hl2 : leads k (look env s) = true
     ·right; right
      cases hes : look env s with
      | ptr k' q =>
        rw [hes] at hl2
        simp only [leads, beq_iff_eq] at hl2; subst hl2
        exact ⟨q, T, oa, x, _, x, rfl, rfl, hk, by rw [look_cons, if_pos rfl]⟩
      | _ => rw [hes] at hl hl2; exact absurd hl2 (by simpa only [shows] using hl)
     ·exact .inr (.inl ⟨rfl, by simpa using hl2⟩)
   ·rw [look_cons, if_pos rfl]
    refine ⟨b, cur, e, b1 ++ b3, k1, k3, ?_, ?_, by simp⟩
    ·rw [hO b (by simp)]; exact k2
    ·rw [k4]
     exact Flat.mono P T hG hL (fun g hg => hO g (by simp only [List.cons_append, blocks_cons, List.mem_cons]; exact .inr (by simpa using hg))) (by simpa using hole)
  ·exact absurd hh (by simp)
 ·exact absurd hh (by simp)
theorem Grew.grows {B : Nat} {e : TypeId} {size : Nat} {v v' : Value} {m1 m2 : Nat} {olds news : List Value} (h : Grew w w' B e size v v' m1 m2 olds news) (hv : v.ownBlock = none) : Grows w w' :=
 ⟨h.below.os, h.below.tape, h.below.output, h.below.size, fun b hb => h.rest b hb (by rw [hv]; simp)⟩
theorem obOf_blocks (v : Value) (l : Nat) : ∀ b, b ∈ blocks (obOf v l) → v.ownBlock = some b := by
 intro b hb
 unfold obOf at hb
 cases hv : v.ownBlock with
 | none => rw [hv] at hb; simp at hb
 | some g => rw [hv] at hb; simp at hb; rw [hb]
theorem obOf_nodup (v : Value) (l : Nat) : (blocks (obOf v l)).Nodup := by unfold obOf; cases v.ownBlock <;> simp
theorem st_append {t e : TypeId} {T : Ty} {lim : Nat} {x s : Operand} {y sy : Od} {it : TypeInfo} {z : Value} (hC : Conc P B G0 W0 n env a.tmps w ob) (hK : KOk P B G0 W0 n a K r next) (hd : ∀ k, o.dst = some k → k < n) (hdst : i.dst = o.dst)
  (ho : o.op = .call { callee := .builtin .append, args := #[s, x], argTypes := #[t, t] }) (hi : i.op = .append e T lim sy y) (hu : P.underlying t = some (.slice e)) (hT : TyR P e T) (hie : P.info? e = some it) (hz : it.zero = some z) (hzs : z.cells.size = cellsN T)
  (hlim : lim * it.bytes ≤ 140737488355328) (hmax : lim ≤ maxLen) (hnb : e ≠ BUF) (hx : okOd x y = true) (hs : okOd s sy = true) (h : step cl i env K = some r) : o.wp P a w next Q := by
 unfold step at h; rw [hi] at h; simp only [hdst, Option.bind_eq_some_iff] at h
 obtain ⟨⟨env1, zz⟩, hp, ys, hys, h⟩ := h
 obtain ⟨ob1, hf1, hC1, vs, hv, hF⟩ := pub_rep hC hx hp
 have hzz := cast?_some hys
 simp only at hzz; subst hzz
 replace hF : Flat P (.sl T) w (Gd B G0 ob1) B .no ys vs [] := hF
 replace hv : a.eval x = asVal (.sl T) vs := hv
 have hF' := hF
 unfold Flat at hF'
 obtain ⟨_, A, c, rfl, hlc, hcm, hA⟩ := hF'
 rw [asVal_sl] at hv
 have hsz : it.size = cellsN T := by
  obtain ⟨i2, h2, h3⟩ := hT.size
  rw [hie] at h2; cases h2; exact h3
 -- the cells that are appended
 obtain ⟨news, hnE, hnA⟩ : ∃ news, Elems (Flat P T w (Gd B G0 ob1) B .no) ys news [] ∧ (ys.length = 0 ∨ ∃ b off, A = some ⟨b, off, none⟩ ∧ ∀ j u, news[j]? = some u → w.cell? ⟨b, off + j, none⟩ = some u) := by
  rcases hA with rfl | ⟨b, off, cells, rfl, hE, hcell⟩
  ·exact ⟨[], ⟨rfl, rfl⟩, .inl rfl⟩
  ·exact ⟨cells, hE, .inr ⟨b, off, rfl, fun j u hj => (hcell j u hj).1⟩⟩
 have hnl : news.length = ys.length * cellsN T := Elems.length (fun x v b hx => Flat.len P T hx) hnE
 have hn1 : ∀ u ∈ news, u.oneCell' = true := by
  have : ∀ {xs : List (den T)} {vs : List Value} {ob : OB}, Elems (Flat P T w (Gd B G0 ob1) B .no) xs vs ob → ∀ u ∈ vs, u.oneCell' = true := by
   intro xs
   induction xs with
   | nil => rintro vs ob ⟨rfl, rfl⟩; simp
   | cons x xs ih =>
     rintro vs ob ⟨u1, u2, c1, c2, rfl, rfl, hr, ht⟩ u hu
     rcases List.mem_append.1 hu with hu | hu
     ·exact Flat.one P T (o := .no) rfl hr u hu
     ·exact ih ht u hu
  exact this hnE
 have run : ∀ {v v' : Value} {w' : World}, a.eval s = v → (Builtin.append_ #[t, t] o.type #[v, .slice A ys.length c]).run P w = .ok v' w' → (execOp a.eval o).run P w = .ok (.value v') w' := by
  intro v v' w' hev hrun
  simp [execOp, ho, resolve, invoke, builtin, hev, hv, hrun]
 split at h
 ·-- onto nil
  rename_i e' T'
  split at h
  case isFalse => simp at h
  rename_i hee
  split at h
  case isFalse => simp at h
  rename_i hle
  have hev : a.eval s = .slice none 0 0 := by
   unfold okOd at hs
   split at hs <;> first | (rename_i hh; cases hh; exact eq1_eq hs) | (rename_i hh; cases hh; done) | (exact absurd hs (by simp))
  obtain ⟨v', w', hrun, hgrew⟩ := append_law (ty := o.type) hu hie hz hsz hzs hlim hmax (World.ownsRow_nil w B e (cellsN T)) hC1.base hnl hnA hn1 (by omega)
  have hg := hgrew.grows rfl
  refine wp_value (run hev hrun) ?_
  cases hod : o.dst with
  | none =>
    rw [hod] at h
    exact fin0 (e := .dead) hC1 hK (d := none) (by simp) hg (v := v') rfl h
  | some d =>
    rw [hod] at h
    have hfresh : ∀ b, b ∈ blocks (obOf v' 0) → w.heap.size ≤ b ∧ b < w'.heap.size := fun b hb => by
     rcases hgrew.block b (obOf_blocks v' 0 b hb) with q | q
     ·simp [Value.ownBlock] at q
     ·exact q
    have h2 := Conc.putG (e := .own true e T .no ys) (v := v') (bk := obOf v' 0) hC1 (hd d hod) hg ?_ hfresh (obOf_nodup _ _)
    ·exact hK _ _ _ _ h2 h
    ·rw [if_neg (by simp [leads])]
     show Flat P (.sl T) w' _ B (.own true e .no) ys [v'] _
     unfold Flat
     refine ⟨v', news, [], rfl, rowX_of (by simpa using hgrew.owns), Elems.imp (fun x u b hb hx => ?_) hnE, by simp⟩
     have : b = [] := by cases b with | nil => rfl | cons q r => exact absurd (hb q (by simp)) (by simp)
     subst this
     exact Flat.mono P T (fun b i hb h => ⟨Gd_upd (fun lim hl => by have := (hfresh b (mem_blocks.2 ⟨_, hl⟩)).1; omega) h, hg.cell hb⟩) ⟨hg.size, fun b hb => hg.block b (Nat.lt_of_lt_of_le hb hC1.base)⟩ (by simp) hx
 ·-- onto a slice that is held
  rename_i k0
  simp only [Option.bind_eq_some_iff] at h
  obtain ⟨⟨k, p⟩, hpl, hh, hhe, xs, hxs, env2, htk, h⟩ := h
  split at h
  case h_2 => simp at h
  rename_i hcond
  split at h
  case isFalse => simp at h
  rename_i hle
  simp only [Bool.and_eq_true] at hcond
  obtain ⟨⟨hap, hpure⟩, hee⟩ := hcond
  have hee' : hh.e = e := by simpa using hee
  have hTT := cast?_some hxs
  -- the header
  have hr1 := hC1.rep k0
  have hev : a.eval s = a.tmps.getD k0 undef := okOd_t hs a
  have hhead : headAt w a.tmps env1 k p = some (a.eval s) := by
   unfold placeOf at hpl
   split at hpl
   ·rename_i he
    simp only [Option.some.injEq, Prod.mk.injEq] at hpl
    obtain ⟨rfl, rfl⟩ := hpl
    simp [headAt, he, hev]
   ·rename_i k' p' he
    simp only [Option.some.injEq, Prod.mk.injEq] at hpl
    obtain ⟨rfl, rfl⟩ := hpl
    rw [he] at hr1
    rw [hev]; exact hr1.2.1
   ·exact absurd hpl (by simp)
  obtain ⟨wr, eh, Th, oh, xh⟩ := hh
  simp only at hee' hpure hTT hle h
  have hTh : Th = T := by
   have := congrArg Sigma.fst hTT
   simpa using this
  subst hTh
  have hxh : xh = xs := by simpa using hTT
  subst hxh
  subst hee'
  obtain ⟨b1, b2, b3, cells, e1, e2, e3, e4, e5, e6⟩ := take_place hC1 hhe hhead hpure htk
  simp only at e2 e3 e4
  obtain ⟨v', w', hrun, hgrew⟩ := append_law (ty := o.type) hu hie hz hsz hzs hlim hmax (e3.owns hnb) hC1.base hnl hnA hn1 hle
  refine wp_value (run rfl hrun) ?_
  cases hod : o.dst with
  | none => rw [hod] at hap; simp [apart] at hap
  | some d =>
    rw [hod] at hap h
    have hdk : d ≠ k := by simpa [apart] using hap
    have hlook : ∀ j, look (putO env2 (some d) (.own wr eh Th .no (xh ++ ys))) j = if d = j then .own wr eh Th .no (xh ++ ys) else if (look env2 d).home = true ∧ leads d (look env2 j) = true then .dead else look env2 j := by
     intro j
     simp only [Fw.putO]
     rw [look_put]
     simp only [leads, Bool.false_eq_true, if_false]
    have hlim' : ∀ lim', (∀ g, (a.eval s).ownBlock = some g → (g, lim') ∈ ob1 k → True) := fun _ _ _ _ => trivial
    have hC2 := Conc.partW (k := k) (d := d) (w' := w') (v := v') (bd := obOf v' (if wr = true then 0 else (xh ++ ys).length * cellsN Th)) (ek := look env2 k) (ed := .own wr eh Th .no (xh ++ ys))
     (env' := putO env2 (some d) (.own wr eh Th .no (xh ++ ys))) hC1 hdk (hd d hod) e1 rfl hgrew.below (fun b hb hnb => hgrew.rest b hb (fun q => hnb (by rw [e2]; exact mem_blocks.2 ⟨_, mem_obOf q⟩)))
     (fun b hb => by
      rcases hgrew.block b (obOf_blocks v' _ b hb) with q | q
      ·exact .inl (by rw [e2]; exact mem_blocks.2 ⟨_, mem_obOf q⟩)
      ·exact .inr q) (obOf_nodup _ _) (fun b i hb hb2 hg => ?_) ?_ ?_ (fun j hjk hjd => ?_) (fun j hjk hjd hdead => ?_) (fun hG => ?_) (fun hG => ?_)
    ·exact hK _ _ _ _ hC2 h
    ·-- cells of the row that could be read
     have hbo : (a.eval s).ownBlock = some b := by rw [e2] at hb2; exact obOf_blocks _ _ _ hb2
     have hrec : (b, if wr = true then 0 else xh.length * cellsN Th) ∈ ob1 k := by
      rw [e1, e2]; simp [mem_obOf hbo]
     have hBb := (hC1.low k b (mem_blocks.2 ⟨_, hrec⟩)).1
     have hi : i < if wr = true then 0 else xh.length * cellsN Th := by
      rcases hg with ⟨q, _⟩ | ⟨_, q⟩
      ·omega
      ·exact q k _ hrec
     cases wr with
     | true => simp at hi
     | false =>
       simp only [Bool.false_eq_true, if_false] at hi ⊢
       refine ⟨fun lim' hl => ?_, hgrew.cells b i hbo hi⟩
       have : lim' = (xh ++ ys).length * cellsN Th := by
        unfold obOf at hl
        cases hvb : v'.ownBlock with
        | none => rw [hvb] at hl; simp at hl
        | some g => rw [hvb] at hl; simp at hl; rw [hl.2]; simp
       rw [this, List.length_append, Nat.add_mul]; omega
    ·rw [hlook, if_neg hdk]
     have : leads d (look env2 k) = false := by
      unfold takeAt at htk
      split at htk
      ·simp only [Option.some.injEq] at htk; subst htk; rw [look_cons, if_pos rfl]; rfl
      ·simp only [Option.some.injEq] at htk; subst htk; rw [look_cons, if_pos rfl]; rfl
      ·exact absurd htk (by simp)
     simp [this]
    ·rw [hlook, if_pos rfl]
    ·rw [hlook, if_neg (Ne.symm hjd)]
     have hdhome : look env2 d = look env1 d ∨ (look env2 d).home = false := by
      rcases e5 d hdk with ⟨q, _⟩ | ⟨q, _⟩ | ⟨_, _, _, _, _, _, q1, q2, _⟩
      ·right; rw [q]; rfl
      ·left; exact q
      ·right; rw [q2]; rfl
     rcases e5 j hjk with ⟨q1, q2, q3⟩ | ⟨q1, q2⟩ | ⟨q, Tq, oq, xq, oq', xq', q1, q2, q3, q4⟩
     ·left; rw [q1]; simp [leads]
     ·by_cases hkill : (look env2 d).home = true ∧ leads d (look env2 j) = true
      ·left; rw [if_pos hkill]
      ·right; left
       rw [if_neg hkill]
       refine ⟨q1, q2, fun hk2 => hkill ?_⟩
       rcases hdhome with hd1 | hd1
       ·rw [hd1, q1]; exact hk2
       ·exfalso
        rcases e5 d hdk with ⟨z1, z2, _⟩ | ⟨z1, _⟩ | ⟨_, _, _, _, _, _, z1, _⟩
        ·rw [z2] at hk2; exact absurd hk2.1 (by simp)
        ·rw [z1] at hd1; rw [hd1] at hk2; exact absurd hk2.1 (by simp)
        ·rw [z1] at hk2; simp [E.home] at hk2
     ·right; right
      have : leads d (look env2 j) = false := by rw [q2]; simp [leads, Ne.symm hdk]
      rw [this]
      simp only [Bool.false_eq_true, and_false, if_false]
      exact ⟨q, Tq, oq, xq, oq', xq', q1, q2, q3, q4⟩
    ·rw [hlook, if_neg (Ne.symm hjd)] at hdead
     rcases e5 j hjk with ⟨q1, q2, q3⟩ | ⟨q1, q2⟩ | ⟨q, Tq, oq, xq, oq', xq', q1, q2, q3, q4⟩
     ·exact ⟨q3, q2⟩
     ·by_cases hkill : (look env2 d).home = true ∧ leads d (look env2 j) = true
      ·have hl := hkill.2
       rw [q1] at hl
       refine ⟨(ERep.leads hl (hC1.rep j)).2, ?_⟩
       cases hes : look env1 j <;> rw [hes] at hl <;> simp_all [leads, E.home]
      ·rw [if_neg hkill, q1] at hdead
       have := hC1.rep j
       rw [hdead] at this ⊢
       exact ⟨this, rfl⟩
     ·rw [q2] at hdead
      have : leads d (E.ptr k q) = false := by simp [leads, Ne.symm hdk]
      rw [this] at hdead; simp at hdead
    ·refine e6 w' _ _ _ hG ⟨hgrew.below.size, hgrew.below.block⟩ (fun g hg => hgrew.rest g ?_ ?_)
     ·obtain ⟨l, hl⟩ := mem_blocks.1 hg
      refine (hC1.low k g (mem_blocks.2 ⟨l, ?_⟩)).2
      rw [e1]; rcases List.mem_append.1 hl with q | q <;> simp [q]
     ·intro q
      have hnd := hC1.nodup k
      rw [e1] at hnd
      simp only [blocks_append] at hnd hg
      rw [List.append_assoc, List.nodup_append] at hnd
      obtain ⟨n1, n2, n3⟩ := hnd
      rw [List.nodup_append] at n2
      have hg2 : g ∈ blocks b2 := by rw [e2]; exact mem_blocks.2 ⟨_, mem_obOf q⟩
      rcases List.mem_append.1 hg with q' | q'
      ·exact n3 g q' g (List.mem_append_left _ hg2) rfl
      ·exact n2.2.2 g hg2 g q' rfl
    ·show Flat P (.sl Th) w' _ B (.own wr eh .no) (xh ++ ys) [v'] _
     unfold Flat
     refine ⟨v', cells ++ news, [], rfl, rowX_of (by simpa [List.length_append] using hgrew.owns), ?_, by simp⟩
     have hm : ∀ {xs : List (den Th)} {vs : List Value}, Elems (Flat P Th w (Gd B G0 ob1) B .no) xs vs [] → Elems (Flat P Th w' (Gd B G0 _) B .no) xs vs [] := fun hE => Elems.imp (fun x u b hb hx => by
      have : b = [] := by cases b with | nil => rfl | cons q r => exact absurd (hb q (by simp)) (by simp)
      subst this
      exact Flat.mono P Th hG ⟨hgrew.below.size, hgrew.below.block⟩ (by simp) hx) hE
     simpa using Elems.append (hm e4) (hm hnE)
 ·exact absurd h (by simp)
end
end Go.Fw
/- Soundness, part 16: arguments of a call; what a callee answers. -/
namespace Go.Fw
open Go Go.RowKit
theorem Flat.scal (P : Program) : ∀ (T : Ty) {w : World} {G : Nat → Nat → Prop} {B : Nat} {o : Ann} {x : den T} {vs : List Value} {ob : OB}, scalarT T = true → Flat P T w G B o x vs ob →
  ob = [] ∧ ∀ (w' : World) (G' : Nat → Nat → Prop) (B' : Nat) (o' : Ann), Flat P T w' G' B' o' x vs []
 | .int k, _, _, _, _, _, _, _, _, h => by unfold Flat at h; exact ⟨h.2.2, fun _ _ _ _ => by unfold Flat; exact ⟨h.1, h.2.1, rfl⟩⟩
 | .bool, _, _, _, _, _, _, _, _, h => by unfold Flat at h; exact ⟨h.2, fun _ _ _ _ => by unfold Flat; exact ⟨h.1, rfl⟩⟩
 | .str, _, _, _, _, _, _, _, _, h => by unfold Flat at h; exact ⟨h.2.2, fun _ _ _ _ => by unfold Flat; exact ⟨h.1, h.2.1, rfl⟩⟩
 | .unit, _, _, _, _, _, _, _, _, h => by unfold Flat at h; exact ⟨h.2, fun _ _ _ _ => by unfold Flat; exact ⟨h.1, rfl⟩⟩
 | .pair A C, _, _, _, _, _, _, _, hs, h => by
   simp only [scalarT, Bool.and_eq_true] at hs
   unfold Flat at h
   obtain ⟨v1, v2, b1, b2, rfl, rfl, h1, h2⟩ := h
   obtain ⟨e1, k1⟩ := Flat.scal P A hs.1 h1
   obtain ⟨e2, k2⟩ := Flat.scal P C hs.2 h2
   exact ⟨by rw [e1, e2]; rfl, fun w' G' B' o' => by unfold Flat; exact ⟨v1, v2, [], [], rfl, rfl, k1 _ _ _ _, k2 _ _ _ _⟩⟩
 | .arr n T, w, G, B, _, _, _, _, hs, h => by
   simp only [scalarT] at hs
   unfold Flat at h
   have key : ∀ {xs : List (den T)} {vs : List Value} {ob : OB}, Elems (Flat P T w G B .no) xs vs ob → ob = [] ∧ ∀ (w' : World) (G' : Nat → Nat → Prop) (B' : Nat), Elems (Flat P T w' G' B' .no) xs vs [] := by
    intro xs
    induction xs with
    | nil => rintro vs ob ⟨rfl, rfl⟩; exact ⟨rfl, fun _ _ _ => ⟨rfl, rfl⟩⟩
    | cons x xs ih =>
      rintro vs ob ⟨u1, u2, c1, c2, rfl, rfl, hr, ht⟩
      obtain ⟨e1, k1⟩ := Flat.scal P T hs hr
      obtain ⟨e2, k2⟩ := ih ht
      exact ⟨by rw [e1, e2]; rfl, fun w' G' B' => ⟨u1, u2, [], [], rfl, rfl, k1 _ _ _ _, k2 _ _ _⟩⟩
   obtain ⟨e, k⟩ := key h.2
   exact ⟨e, fun w' G' B' o' => by unfold Flat; exact ⟨h.1, k _ _ _⟩⟩
 | .sl T, _, _, _, _, _, _, _, hs, _ => by simp [scalarT] at hs
 | .fn A C, _, _, _, _, _, _, _, hs, _ => by simp [scalarT] at hs
theorem Flat.up (P : Program) : ∀ (T : Ty) {w : World} {G : Nat → Nat → Prop} {B B' : Nat} {x : den T} {vs : List Value} {ob : OB}, B ≤ B' → Flat P T w G B .no x vs ob → Flat P T w G B' .no x vs ob
 | .int k, _, _, _, _, _, _, _, _, h => by unfold Flat at h ⊢; exact h
 | .bool, _, _, _, _, _, _, _, _, h => by unfold Flat at h ⊢; exact h
 | .str, _, _, _, _, _, _, _, _, h => by unfold Flat at h ⊢; exact h
 | .unit, _, _, _, _, _, _, _, _, h => by unfold Flat at h ⊢; exact h
 | .pair A C, _, _, _, _, _, _, _, hB, h => by
   unfold Flat at h ⊢
   obtain ⟨v1, v2, b1, b2, rfl, rfl, h1, h2⟩ := h
   exact ⟨v1, v2, b1, b2, rfl, rfl, Flat.up P A hB h1, Flat.up P C hB h2⟩
 | .arr n T, _, _, _, _, _, _, _, hB, h => by
   unfold Flat at h ⊢
   exact ⟨h.1, Elems.imp (fun x v b _ hx => Flat.up P T hB hx) h.2⟩
 | .sl T, _, _, _, _, _, _, _, hB, h => by
   unfold Flat at h ⊢
   obtain ⟨h0, A, c, h1, h2, h3, h4⟩ := h
   refine ⟨h0, A, c, h1, h2, h3, ?_⟩
   rcases h4 with h4 | ⟨b, off, cells, h5, h6, h7⟩
   ·exact .inl h4
   ·exact .inr ⟨b, off, cells, h5, Elems.imp (fun x v b _ hx => Flat.up P T hB hx) h6, h7⟩
 | .fn A C, _, _, _, _, _, _, _, hB, h => by
   unfold Flat at h ⊢
   obtain ⟨h0, hs, f, caps, h1, h2⟩ := h
   refine ⟨h0, hs, f, caps, h1, fun w' G' x vals hl hx r hr => ?_⟩
   have h3 := h2 w' G' x vals ⟨hl.1, fun b hb => hl.2 b (Nat.lt_of_lt_of_le hb hB)⟩ hx r hr
   refine ⟨h3.1, Calls.mono h3.2 ?_⟩
   rintro e w'' ⟨rs, k1, k2⟩
   exact ⟨rs, (Flat.scal P C hs k1).2 _ _ _ _, k2⟩
theorem Flat.down (P : Program) : ∀ (T : Ty) {w : World} {G : Nat → Nat → Prop} {B B' : Nat} {o : Ann} {x : den T} {vs : List Value} {ob : OB}, noFnT T = true → B' ≤ B → Flat P T w G B o x vs ob → Flat P T w G B' o x vs ob
 | .int k, _, _, _, _, _, _, _, _, _, _, h => by unfold Flat at h ⊢; exact h
 | .bool, _, _, _, _, _, _, _, _, _, _, h => by unfold Flat at h ⊢; exact h
 | .str, _, _, _, _, _, _, _, _, _, _, h => by unfold Flat at h ⊢; exact h
 | .unit, _, _, _, _, _, _, _, _, _, _, h => by unfold Flat at h ⊢; exact h
 | .pair A C, _, _, _, _, _, _, _, _, hn, hB, h => by
   simp only [noFnT, Bool.and_eq_true] at hn
   unfold Flat at h ⊢
   obtain ⟨v1, v2, b1, b2, rfl, rfl, h1, h2⟩ := h
   exact ⟨v1, v2, b1, b2, rfl, rfl, Flat.down P A hn.1 hB h1, Flat.down P C hn.2 hB h2⟩
 | .arr n T, _, _, _, _, _, _, _, _, hn, hB, h => by
   simp only [noFnT] at hn
   unfold Flat at h ⊢
   exact ⟨h.1, Elems.imp (fun x v b _ hx => Flat.down P T hn hB hx) h.2⟩
 | .sl T, w, G, B, B', o, xs, vs, ob, hn, hB, h => by
   simp only [noFnT] at hn
   have imm : (ob = [] ∧ ∃ A c, vs = [.slice A xs.length c] ∧ xs.length ≤ c ∧ c ≤ maxLen ∧
    (xs = [] ∨ ∃ b off cells, A = some ⟨b, off, none⟩ ∧ Elems (Flat P T w G B .no) xs cells [] ∧ ∀ j v, cells[j]? = some v → w.cell? ⟨b, off + j, none⟩ = some v ∧ G b (off + j))) →
    (ob = [] ∧ ∃ A c, vs = [.slice A xs.length c] ∧ xs.length ≤ c ∧ c ≤ maxLen ∧
    (xs = [] ∨ ∃ b off cells, A = some ⟨b, off, none⟩ ∧ Elems (Flat P T w G B' .no) xs cells [] ∧ ∀ j v, cells[j]? = some v → w.cell? ⟨b, off + j, none⟩ = some v ∧ G b (off + j))) := by
    rintro ⟨h0, A, c, h1, h2, h3, h4⟩
    refine ⟨h0, A, c, h1, h2, h3, ?_⟩
    rcases h4 with h4 | ⟨b, off, cells, h5, h6, h7⟩
    ·exact .inl h4
    ·exact .inr ⟨b, off, cells, h5, Elems.imp (fun x v b _ hx => Flat.down P T hn hB hx) h6, h7⟩
   cases o with
   | no => unfold Flat at h ⊢; exact imm h
   | hole => unfold Flat at h ⊢; exact h
   | pair a b => unfold Flat at h ⊢; exact imm h
   | own wr e o =>
     unfold Flat at h ⊢
     obtain ⟨v, cells, ob', h1, h2, h3, h4⟩ := h
     refine ⟨v, cells, ob', h1, ⟨h2.1, ?_⟩, Elems.imp (fun x v b _ hx => Flat.down P T hn hB hx) h3, h4⟩
     rcases h2.2 with k | ⟨g, cap, cur, e1, fz, k1, k2, k3⟩
     ·exact .inl k
     ·exact .inr ⟨g, cap, cur, e1, fz, k1, Nat.le_trans hB k2, k3⟩
 | .fn A C, _, _, _, _, _, _, _, _, hn, _, _ => by simp [noFnT] at hn
def ARep (P : Program) (w : World) (G : Nat → Nat → Prop) : E → Value → Prop
 | .v T x, v => ∃ vs, Flat P T w G w.heap.size .no x vs [] ∧ v = asVal T vs
 | .at T x, v => ∃ b off vs, v = .pointer (some ⟨b, off, none⟩) ∧ Flat P T w G w.heap.size .no x vs [] ∧ ∀ j u, vs[j]? = some u → w.cell? ⟨b, off + j, none⟩ = some u
 | .dead, v => v = .slice none 0 0
 | _, _ => False
inductive ArgsRep (P : Program) (w : World) (G : Nat → Nat → Prop) : List E → List Value → Prop
 | nil : ArgsRep P w G [] []
 | cons {e : E} {v : Value} {es : List E} {vs : List Value} : ARep P w G e v → ArgsRep P w G es vs → ArgsRep P w G (e :: es) (v :: vs)
theorem ArgsRep.append {P : Program} {w : World} {G : Nat → Nat → Prop} {es fs : List E} {vs us : List Value} (h : ArgsRep P w G es vs) (k : ArgsRep P w G fs us) : ArgsRep P w G (es ++ fs) (vs ++ us) := by
 induction h with
 | nil => exact k
 | cons h _ ih => exact .cons h ih
theorem ARep.later {P : Program} {w w' : World} {G G' : Nat → Nat → Prop} {e : E} {v : Value} (hL : Later w.heap.size w w') (hG : ∀ b i, b < w.heap.size → G b i → G' b i) (h : ARep P w G e v) : ARep P w' G' e v := by
 have cell : ∀ b i, b < w.heap.size → w'.cell? ⟨b, i, none⟩ = w.cell? ⟨b, i, none⟩ := fun b i hb => cell?_below hL hb
 cases e <;> first | exact (h : False).elim | skip
 ·exact h
 ·obtain ⟨vs, h1, h2⟩ := h
  exact ⟨vs, Flat.up P _ hL.1 (Flat.mono P _ (fun b i hb hg => ⟨hG b i hb hg, cell b i hb⟩) hL (by simp) h1), h2⟩
 ·obtain ⟨b, off, vs, h1, h2, h3⟩ := h
  refine ⟨b, off, vs, h1, Flat.up P _ hL.1 (Flat.mono P _ (fun b i hb hg => ⟨hG b i hb hg, cell b i hb⟩) hL (by simp) h2), fun j u hj => ?_⟩
  rw [cell b _ (World.block_lt_of_cell? w _ (h3 j u hj))]
  exact h3 j u hj
theorem ArgsRep.later {P : Program} {w w' : World} {G G' : Nat → Nat → Prop} {es : List E} {vs : List Value} (hL : Later w.heap.size w w') (hG : ∀ b i, b < w.heap.size → G b i → G' b i) (h : ArgsRep P w G es vs) : ArgsRep P w' G' es vs := by
 induction h with
 | nil => exact .nil
 | cons h _ ih => exact .cons (ARep.later hL hG h) ih
def Gr (B : Nat) (G : Nat → Nat → Prop) (rob : OB) (b i : Nat) : Prop := (b < B ∧ G b i) ∨ (B ≤ b ∧ ∀ lim, (b, lim) ∈ rob → i < lim)
structure ResRep (P : Program) (w w' : World) (G : Nat → Nat → Prop) (res : List E) (v : Value) (rob : OB) : Prop where
 rep : ERep P w' (Gr w.heap.size G rob) w.heap.size #[] [] (resE res) v rob
 back : res.all E.back = true
 nodup : (blocks rob).Nodup
 new : ∀ b ∈ blocks rob, w.heap.size ≤ b ∧ b < w'.heap.size
def Rewr (w w' : World) (v : Value) (k : Nat) (cells : List Value) : Prop :=
 (v.ownBlock = none ∧ Grows w w' ∧ k = 0) ∨ ∃ g cur e fz cs w1, v.ownBlock = some g ∧ w.heap[g]? = some (.cells cur e fz) ∧ Grows w w1 ∧ w' = w1.setRow g cs ∧ cs.size = cur.size ∧ cs.toList.take k = cells
structure Good (P : Program) (cl : Cal) : Prop where
 call : ∀ f as res, cl f as = some res → ∀ (w : World) (G : Nat → Nat → Prop) (vals : List Value), ArgsRep P w G as vals →
  Callable P f ∧ Calls P f vals.toArray w fun e w' => ∃ v rob, e = .returned v ∧ Below w.heap.size w w' ∧ ResRep P w w' G res v rob
 wr : ∀ f e T (xs : List (den T)) res, cl f [.und, .own true e T .no xs] = some res → scalarT T = true → ∃ ys : List (den T), res = [.own true e T .no ys] ∧ ys.length = xs.length ∧ Callable P f ∧
  ∀ (w : World) (B : Nat) (G : Nat → Nat → Prop) (v : Value) (cells : List Value), e ≠ BUF → rowX w B e (cellsN T) v xs.length cells → Elems (Flat P T w G B .no) xs cells [] →
    Calls P f #[v] w fun en w' => en = .returned (.tuple #[]) ∧ ∃ cells', cells'.length = cells.length ∧ Elems (Flat P T w G B .no) ys cells' [] ∧ Rewr w w' v (xs.length * cellsN T) cells'
theorem ResRep.scal {P : Program} {w w' : World} {G : Nat → Nat → Prop} {C : Ty} {r : den C} {v : Value} {rob : OB} (hs : scalarT C = true) (h : ResRep P w w' G [.v C r] v rob) :
  ∃ rs, v = asVal C rs ∧ ∀ (w' : World) (G' : Nat → Nat → Prop) (B' : Nat), Flat P C w' G' B' .no r rs [] := by
 obtain ⟨_, vs, h1, h2⟩ := h.rep
 exact ⟨vs, h2, fun w' G' B' => (Flat.scal P C hs h1).2 _ _ _ _⟩
theorem unE_some {C : Ty} {es : List E} {r : den C} (h : unE C es = some r) : es = [.v C r] := by
 unfold unE at h
 split at h
 ·have := cast?_some h; cases this; rfl
 ·exact absurd h (by simp)
theorem FArgs.args {P : Program} {w : World} {G : Nat → Nat → Prop} : ∀ (A : Ty) {x : den A} {vals : List Value}, FArgs P A w G x vals → ArgsRep P w G (unpack A x) vals
 | .pair A C, x, vals, h => by
   unfold FArgs at h
   obtain ⟨v1, rest, h1, rfl, h2⟩ := h
   exact .cons ⟨v1, h1, rfl⟩ (FArgs.args C h2)
 | .unit, _, _, h => by unfold FArgs at h; subst h; exact .nil
 | .int _, _, _, h | .bool, _, _, h | .str, _, _, h | .sl _, _, _, h | .arr _ _, _, _, h | .fn _ _, _, _, h => by unfold FArgs at h; exact h.elim
theorem tuple_args {P : Program} {w : World} {G : Nat → Nat → Prop} : ∀ (A : Ty) {as : List E} {x : den A} {vals : List Value}, tuple A as = some x → ArgsRep P w G as vals → FArgs P A w G x vals
 | .unit, [], x, vals, _, h => by cases h; unfold FArgs; rfl
 | .unit, _ :: _, _, _, h, _ => by simp [tuple] at h
 | .pair A C, e :: es, x, vals, ht, h => by
   cases h with
   | cons h1 h2 =>
     cases e with
     | v T y =>
       simp only [tuple, Option.bind_eq_some_iff, Option.some.injEq] at ht
       obtain ⟨y', hy, z, hz, rfl⟩ := ht
       have := cast?_some hy; cases this
       obtain ⟨v1, k1, rfl⟩ := h1
       unfold FArgs
       exact ⟨v1, _, k1, rfl, tuple_args C hz h2⟩
     | _ => simp [tuple] at ht
 | .pair A C, [], _, _, h, _ => by simp [tuple] at h
 | .int _, _, _, _, h, _ | .bool, _, _, _, h, _ | .str, _, _, _, h, _ | .sl _, _, _, _, h, _ | .arr _ _, _, _, _, h, _ | .fn _ _, _, _, _, h, _ => by simp [tuple] at h
end Go.Fw
/- Soundness, part 17: the arguments of a call, from a state of the machine. -/
namespace Go.Fw
open Go Go.RowKit
theorem frz_frz (o : Ann) : o.frz.frz = o.frz := by
 induction o with
 | no => rfl
 | hole => rfl
 | own wr e o ih => simp [Ann.frz, ih]
 | pair a b iha ihb => simp [Ann.frz, iha, ihb]
section
variable {P : Program} {B : Nat} {G0 : Nat → Nat → Prop} {W0 : World} {n : Nat} {env env' : Env} {a : Act} {w : World} {ob : Nat → OB} {cl : Cal}
def FzE (e e' : E) : Prop := e' = e ∨ (∃ wr ed T o xs, e = .own wr ed T o xs ∧ e' = .own false ed T o.frz xs) ∨ (∃ T o x, e = .loc T o x ∧ e' = .loc T o.frz x)
def Fz (env env' : Env) : Prop := ∀ k, FzE (look env k) (look env' k)
theorem FzE.trans {e1 e2 e3 : E} (h : FzE e1 e2) (k : FzE e2 e3) : FzE e1 e3 := by
 rcases h with rfl | ⟨wr, ed, T, o, xs, rfl, rfl⟩ | ⟨T, o, x, rfl, rfl⟩
 ·exact k
 ·rcases k with rfl | ⟨wr', ed', T', o', xs', h1, rfl⟩ | ⟨T', o', x', h1, _⟩
  ·exact .inr (.inl ⟨_, _, _, _, _, rfl, rfl⟩)
  ·cases h1; exact .inr (.inl ⟨_, _, _, _, _, rfl, by rw [frz_frz]⟩)
  ·cases h1
 ·rcases k with rfl | ⟨wr', ed', T', o', xs', h1, _⟩ | ⟨T', o', x', h1, rfl⟩
  ·exact .inr (.inr ⟨_, _, _, rfl, rfl⟩)
  ·cases h1
  ·cases h1; exact .inr (.inr ⟨_, _, _, rfl, by rw [frz_frz]⟩)
theorem Fz.freeze (env : Env) (s : Nat) : Fz env (freeze env s) := by
 intro k
 by_cases hk : k = s
 ·subst hk
  rcases look_freeze_same env k with h | ⟨wr, e, T, o, xs, h1, h2⟩ | ⟨T, o, x, h1, h2⟩
  ·exact .inl h
  ·exact .inr (.inl ⟨_, _, _, _, _, h1, h2⟩)
  ·exact .inr (.inr ⟨_, _, _, h1, h2⟩)
 ·left
  unfold Fw.freeze
  split <;> first | rfl | (rw [look_cons, if_neg (Ne.symm hk)])
theorem Fz.refl (env : Env) : Fz env env := fun _ => .inl rfl
theorem Fz.trans {e1 e2 e3 : Env} (h : Fz e1 e2) (k : Fz e2 e3) : Fz e1 e3 := fun j => (h j).trans (k j)
theorem Fz.held (h : Fz env env') {s : Nat} {p : Path} {hh : Held} (hl : heldAt env s p = some hh) : ∃ wr o, heldAt env' s p = some ⟨wr, hh.e, hh.T, o, hh.xs⟩ ∧ o.pure = hh.o.pure := by
 rcases h s with h | ⟨wr, ed, T, o, xs, h1, h2⟩ | ⟨T, o, x, h1, h2⟩
 ·exact ⟨hh.wr, hh.o, by rw [heldAt_of_look h]; exact hl, rfl⟩
 ·simp only [heldAt, h1] at hl
  simp only [heldAt, h2]
  cases p with
  | nil => simp only [Option.some.injEq] at hl; subst hl; exact ⟨_, _, rfl, frz_pure⟩
  | cons => exact absurd hl (by simp)
 ·have := heldAt_loc_frz h1 p hl
  have h3 : heldAt env' s p = heldAt ((s, .loc T o.frz x) :: env) s p := heldAt_of_look (by rw [look_cons, if_pos rfl, h2]) p
  exact ⟨false, hh.o.frz, by rw [h3, this], frz_pure⟩
theorem Fz.argS (h : Fz env env') {e e' : E} {x : E} (he : FzE e e') (ha : argS env e = some x) : argS env' e' = some x := by
 rcases he with rfl | ⟨wr, ed, T, o, xs, rfl, rfl⟩ | ⟨T, o, x, rfl, rfl⟩
 ·cases e' with
  | v T x => exact ha
  | own => exact ha
  | «at» => exact ha
  | ref s p =>
    simp only [Fw.argS, Option.bind_eq_some_iff] at ha ⊢
    obtain ⟨hh, h1, h2⟩ := ha
    obtain ⟨wr, o, h3, h4⟩ := h.held h1
    exact ⟨_, h3, by simp only [h4]; exact h2⟩
  | ptr s p =>
    simp only [Fw.argS] at ha ⊢
    rcases h s with h1 | ⟨wr, ed, T, o, xs, h1, h2⟩ | ⟨T, o, x, h1, h2⟩
    ·rw [h1]; exact ha
    ·rw [h1] at ha; simp at ha
    ·rw [h1] at ha; rw [h2]
     simp only [annAt_frz, frz_whole] at ha ⊢
     exact ha
  | ptre s p i q =>
    simp only [Fw.argS, Option.bind_eq_some_iff] at ha ⊢
    obtain ⟨hh, h1, h2⟩ := ha
    obtain ⟨wr, o, h3, h4⟩ := h.held h1
    exact ⟨_, h3, by simp only [h4]; exact h2⟩
  | _ => simp [Fw.argS] at ha
 ·simp only [Fw.argS, frz_pure] at ha ⊢; exact ha
 ·simp [Fw.argS] at ha
theorem Fz.argsS (h : Fz env env') : ∀ {es xs : List E}, argsS env es = some xs → argsS env' es = some xs
 | [], _, ha => ha
 | e :: es, xs, ha => by
   simp only [Fw.argsS, Option.bind_eq_some_iff, Option.some.injEq] at ha ⊢
   obtain ⟨x, h1, y, h2, rfl⟩ := ha
   exact ⟨x, h.argS (.inl rfl) h1, y, h.argsS h2, rfl⟩
theorem FzE.ent (h : Fz env env') (y : Od) : FzE (ent env y) (ent env' y) := by
 cases y <;> first | exact h _ | exact .inl rfl
theorem Fz.argList (h : Fz env env') : ∀ {ys : List Od} {xs : List E}, argList cl env ys = some xs → argList cl env' ys = some xs
 | [], _, ha => ha
 | y :: ys, xs, ha => by
   simp only [Fw.argList, Option.bind_eq_some_iff, Option.some.injEq] at ha ⊢
   obtain ⟨x, h1, z, h2, rfl⟩ := ha
   refine ⟨x, ?_, z, h.argList h2, rfl⟩
   have he := FzE.ent h y
   split at h1
   ·rename_i T o x' he1
    rw [he1] at he
    rcases he with he | ⟨wr, ed, T', o', xs', h3, _⟩ | ⟨T', o', x', h3, he⟩
    ·rw [he]; exact h1
    ·cases h3
    ·cases h3; rw [he]; simp only [frz_whole]; exact h1
   ·rename_i f A C caps he1
    rw [he1] at he
    rcases he with he | ⟨wr, ed, T', o', xs', h3, _⟩ | ⟨T', o', x', h3, _⟩
    ·rw [he]
     simp only [cloV] at h1 ⊢
     split at h1
     ·rename_i hs
      rw [if_pos hs]
      simp only [Option.bind_eq_some_iff] at h1 ⊢
      obtain ⟨cs, h4, h5⟩ := h1
      exact ⟨cs, h.argsS h4, h5⟩
     ·simp at h1
    ·cases h3
    ·cases h3
   ·rename_i n1 n2
    have h2 := h.argS he h1
    split
    ·rename_i T o x' he2
     rw [he2] at h2; simp [Fw.argS] at h2
    ·rename_i f A C caps he2
     rw [he2] at h2; simp [Fw.argS] at h2
    ·exact h2
def Fzn (env : Env) (s : Nat) : Prop := (∀ wr ed T o xs, look env s = .own wr ed T o xs → wr = false) ∧ (∀ T o x, look env s = .loc T o x → o.frz = o)
theorem Fzn.freeze (env : Env) (s : Nat) : Fzn (freeze env s) s := by
 unfold Fw.freeze
 cases hs : look env s with
 | own wr e T o xs =>
   refine ⟨fun wr' ed T' o' xs' h => ?_, fun T' o' x' h => ?_⟩ <;> rw [look_cons, if_pos rfl] at h <;> cases h
   rfl
 | loc T o x =>
   refine ⟨fun wr' ed T' o' xs' h => ?_, fun T' o' x' h => ?_⟩ <;> rw [look_cons, if_pos rfl] at h <;> cases h
   exact frz_frz o
 | _ =>
   refine ⟨fun wr' ed T' o' xs' h => ?_, fun T' o' x' h => ?_⟩ <;> (have h2 := hs.symm.trans h; cases h2)
theorem Fzn.fz (h : Fz env env') {s : Nat} (k : Fzn env s) : Fzn env' s := by
 rcases h s with h1 | ⟨wr, ed, T, o, xs, h1, h2⟩ | ⟨T, o, x, h1, h2⟩
 ·exact ⟨fun wr ed T o xs hh => k.1 wr ed T o xs (by rw [← h1]; exact hh), fun T o x hh => k.2 T o x (by rw [← h1]; exact hh)⟩
 ·refine ⟨fun wr' ed T' o' xs' hh => ?_, fun T' o' x' hh => ?_⟩ <;> rw [h2] at hh <;> cases hh
  rfl
 ·refine ⟨fun wr' ed T' o' xs' hh => ?_, fun T' o' x' hh => ?_⟩ <;> rw [h2] at hh <;> cases hh
  exact frz_frz o
theorem homeOf_fz {y : Od} {e e' : E} (h : FzE e e') : homeOf y e' = homeOf y e := by
 rcases h with rfl | ⟨wr, ed, T, o, xs, rfl, rfl⟩ | ⟨T, o, x, rfl, rfl⟩ <;> rfl
theorem freezeAll_fz : ∀ (ys : List Od) (env : Env), Fz env (freezeAll env ys) ∧ ∀ y ∈ ys, ∀ s, homeOf y (ent env y) = some s → Fzn (freezeAll env ys) s
 | [], env => ⟨Fz.refl _, by simp⟩
 | y :: ys, env => by
   simp only [freezeAll]
   have h1 : Fz env (match homeOf y (ent env y) with | some s => Fw.freeze env s | none => env) := by
    split
    ·exact Fz.freeze _ _
    ·exact Fz.refl _
   obtain ⟨h2, h3⟩ := freezeAll_fz ys (match homeOf y (ent env y) with | some s => Fw.freeze env s | none => env)
   refine ⟨h1.trans h2, fun z hz s hs => ?_⟩
   rcases List.mem_cons.1 hz with rfl | hz
   ·simp only [hs] at h2 ⊢
    exact Fzn.fz h2 (Fzn.freeze _ _)
   ·exact h3 z hz s (by rw [homeOf_fz (FzE.ent h1 z)]; exact hs)
theorem freezeAll_conc : ∀ (ys : List Od) {env : Env} {ob : Nat → OB}, Conc P B G0 W0 n env a.tmps w ob → ∃ ob', Frz ob ob' ∧ Conc P B G0 W0 n (freezeAll env ys) a.tmps w ob'
 | [], _, ob, hC => ⟨ob, Frz.refl _, hC⟩
 | y :: ys, env, ob, hC => by
   simp only [freezeAll]
   split
   ·rename_i s _
    obtain ⟨o1, h1, h2⟩ := freeze_any hC s
    obtain ⟨o2, h3, h4⟩ := freezeAll_conc ys h2
    exact ⟨o2, h1.trans h3, h4⟩
   ·exact freezeAll_conc ys hC
theorem Fzn.held {s : Nat} (h : Fzn env s) {p : Path} {hh : Held} (hl : heldAt env s p = some hh) : hh.wr = false := by
 unfold heldAt at hl
 split at hl
 ·rename_i wr e T o xs hs
  split at hl
  ·simp only [Option.some.injEq] at hl; subst hl; exact h.1 _ _ _ _ _ hs
  ·exact absurd hl (by simp)
 ·rename_i T o x hs
  have := h.2 _ _ _ hs
  split at hl
  ·rename_i wr e o' T' xs ha hg
   simp only [Option.some.injEq] at hl; subst hl
   rw [← this, annAt_frz] at ha
   cases hq : annAt o p with
   | own => rw [hq] at ha; simp only [Ann.frz, Ann.own.injEq] at ha; exact ha.1.symm
   | _ => rw [hq] at ha; simp [Ann.frz] at ha
  ·exact absurd hl (by simp)
 ·exact absurd hl (by simp)
structure OkG (P : Program) (B : Nat) (G0 : Nat → Nat → Prop) (env : Env) (ob : Nat → OB) (w : World) (G' : Nat → Nat → Prop) (S : Nat → Prop) : Prop where
 sub : ∀ b i, b < w.heap.size → Gd B G0 ob b i → G' b i
 froz : (∀ b i, G' b i) ∨ ∀ s, S s → Fzn env s
variable {G' : Nat → Nat → Prop} {S : Nat → Prop}
theorem loc_share (hC : Conc P B G0 W0 n env a.tmps w ob) (hG : OkG P B G0 env ob w G' S) {s : Nat} (hS : S s) {T0 T : Ty} {o : Ann} {x : den T0} (hs : look env s = .loc T0 o x) {p : Path} {y : den T} (hw : (annAt o p).whole = true) (hg : getP T0 p x = some ⟨T, y⟩) :
  ∃ b vs, a.tmps.getD s undef = .pointer (some ⟨b, 0, none⟩) ∧ Flat P T w G' w.heap.size .no y vs [] ∧ ∀ j u, vs[j]? = some u → w.cell? ⟨b, offT T0 p + j, none⟩ = some u := by
 obtain ⟨b, cur, e, v1, v2, v3, b1, b2, b3, k1, k2, k3, k4, k5, k6, k7, _⟩ := loc_part hC hs hg
 have hcell := cells_of_part k2 k4
 rw [k5] at hcell
 refine ⟨b, v2, k1, Flat.up P T hC.base ?_, hcell⟩
 rcases hG.froz with ht | hf
 ·obtain ⟨b2', k8, _⟩ := Flat.frz P T k7
  exact Flat.shared P T hw (fun _ _ _ _ _ _ => ht _ _) (fun _ _ _ _ => ht _ _) k8
 ·have he := (hf s hS).2 _ _ _ hs
  have k8 := k7
  rw [← he, annAt_frz] at k8
  refine Flat.shared P T hw (fun b lim i hb hi hB => ?_) hG.sub k8
  have hm : (b, lim) ∈ ob s := by rw [k6]; simp [hb]
  exact hG.sub b i (hC.low s b (mem_blocks.2 ⟨_, hm⟩)).2 (Gd_of_rec hC hm hi hB)
theorem argS_rep (hC : Conc P B G0 W0 n env a.tmps w ob) {e x : E} {v : Value} {obe : OB} (hr : ERep1 P w (Gd B G0 ob) B a.tmps env e v obe) (ha : argS env e = some x)
  (hno : (∀ b i, G' b i) ∨ ∀ wr ed T o xs, e ≠ .own wr ed T o xs) (hG : OkG P B G0 env ob w G' S) (hS : ∀ s, homeOf (.nil 0 .bool) e = some s → S s) : ARep P w G' x v := by
 cases e with
 | v T y =>
   simp only [argS, Option.some.injEq] at ha; subst ha
   obtain ⟨_, vs, h1, h2⟩ := hr
   exact ⟨vs, Flat.up P T hC.base (Flat.mono P T (fun b i hb h => ⟨hG.sub b i hb h, rfl⟩) (Later.refl _ _) (by simp) h1), h2⟩
 | own wr ed T o xs =>
   rcases hno with ht | hno
   ·simp only [argS] at ha
    split at ha
    ·rename_i ho
     simp only [Option.some.injEq] at ha; subst ha
     exact ⟨[v], Flat.up P _ hC.base (own_imm hr ho hG.sub (fun _ _ _ _ _ => ht _ _)), rfl⟩
    ·exact absurd ha (by simp)
   ·exact absurd rfl (hno _ _ _ _ _)
 | ref s p =>
   simp only [argS, Option.bind_eq_some_iff] at ha
   obtain ⟨hh, h1, h2⟩ := ha
   split at h2
   ·rename_i ho
    simp only [Option.some.injEq] at h2; subst h2
    obtain ⟨_, h3, _⟩ := hr
    refine ⟨[v], Flat.up P _ hC.base (held_imm hC h1 h3 ho hG.sub ?_), rfl⟩
    rcases hG.froz with ht | hf
    ·exact .inr ht
    ·exact .inl (Fzn.held (hf s (hS s rfl)) h1)
   ·exact absurd h2 (by simp)
 | it s pos => simp [argS] at ha
 | nw => simp [argS] at ha
 | ptr s p =>
   simp only [argS] at ha
   split at ha
   ·rename_i T0 o y0 hs
    split at ha
    ·rename_i hw
     simp only [Option.bind_eq_some_iff, Option.some.injEq] at ha
     obtain ⟨z, hz, rfl⟩ := ha
     obtain ⟨_, T1, o1, x1, b, h1, h2, _, h3⟩ := hr
     obtain ⟨b', vs, k1, k2, k3⟩ := loc_share hC hG (hS s rfl) hs hw hz
     rw [hs] at h1; cases h1
     rw [h2] at k1; cases k1
     exact ⟨b, _, vs, h3, k2, k3⟩
    ·exact absurd ha (by simp)
   ·exact absurd ha (by simp)
 | ptre s p i q =>
   simp only [argS, Option.bind_eq_some_iff] at ha
   obtain ⟨hh, h1, h2⟩ := ha
   split at h2
   ·rename_i hoi
    simp only [Bool.and_eq_true, decide_eq_true_eq] at hoi
    simp only [Option.bind_eq_some_iff, Option.some.injEq] at h2
    obtain ⟨z, hz, rfl⟩ := h2
    obtain ⟨_, h', g, m, c, k1, k2, k3, k4, k5⟩ := hr
    rw [h1] at k1; cases k1
    obtain ⟨cells, b2, hrow, hel, hob⟩ := held_row hC h1 k2
    obtain ⟨_, hel⟩ := Elems.pure P (o' := .no) hoi.1 rfl hel
    obtain ⟨v1, v2, v3, c1, c2, c3, e1, e2, e3, e4, _⟩ := Elems.split (fun x v b hx => Flat.len P _ hx) i (zero hh.T) hel hoi.2
    have hnil : c2 = [] := by
     have : c1 ++ c2 ++ c3 = [] := e2.symm
     simp at this; exact this.2.1
    subst hnil
    obtain ⟨u1, u2, u3, d1, d2, d3, f1, f2, f3, f4, _⟩ := Flat.lens P q hh.T e4 (y := z.2) (by rw [hz])
    have hnil : d2 = [] := by
     have : d1 ++ d2 ++ d3 = [] := f2.symm
     simp at this; exact this.2.1
    subst hnil
    rw [annAt_no] at f4
    refine ⟨g, _, u2, k5, Flat.up P _ hC.base (Flat.mono P _ (fun b i hb h => ⟨hG.sub b i hb h, rfl⟩) (Later.refl _ _) (by simp) f4), fun j u hj => ?_⟩
    have hcell := hrow.cells (g := g) rfl (i * cellsN hh.T + offT hh.T q + j) u ?_
    ·rw [add_off] at hcell; simpa [Nat.add_assoc] using hcell
    ·rw [e1, f1]
     have hj' := (List.getElem?_eq_some_iff.1 hj).1
     rw [List.append_assoc, List.getElem?_append_right (by omega), List.getElem?_append_left (by simp; omega), List.append_assoc, List.getElem?_append_right (by omega), List.getElem?_append_left (by omega)]
     rw [← hj]; congr 1; omega
   ·exact absurd h2 (by simp)
 | «at» T y =>
   simp only [argS, Option.some.injEq] at ha; subst ha
   obtain ⟨_, b, off, vs, h1, h2, h3⟩ := hr
   exact ⟨b, off, vs, h1, Flat.up P T hC.base (Flat.mono P T (fun b i hb h => ⟨hG.sub b i hb h, rfl⟩) (Later.refl _ _) (by simp) h2), fun j u hj => (h3 j u hj).1⟩
 | dead => simp [argS] at ha
 | und => simp [argS] at ha
 | loc => simp [argS] at ha
 | tup => simp [argS] at ha
 | clo => simp [argS] at ha
theorem argsS_rep (hC : Conc P B G0 W0 n env a.tmps w ob) (hG : OkG P B G0 env ob w G' (fun _ => True)) : ∀ {es xs : List E} {vs : List Value}, TupRep (ERep1 P w (Gd B G0 ob) B a.tmps env) es vs [] → argsS env es = some xs →
  (∀ b i, G' b i) → ArgsRep P w G' xs vs
 | [], xs, vs, hr, ha, _ => by
   obtain ⟨rfl, _⟩ := hr
   simp only [argsS, Option.some.injEq] at ha; subst ha
   exact .nil
 | e :: es, xs, vs, hr, ha, hno => by
   obtain ⟨v, r, b1, b2, rfl, _, h1, h2⟩ := hr
   simp only [argsS, Option.bind_eq_some_iff, Option.some.injEq] at ha
   obtain ⟨x, h3, y, h4, rfl⟩ := ha
   have hb2 : b2 = [] := by
    have : b1 ++ b2 = [] := by rename_i hh; exact hh.symm
    simp at this; exact this.2
   subst hb2
   exact .cons (argS_rep hC h1 h3 (.inl hno) hG (fun _ _ => trivial)) (argsS_rep hC hG h2 h4 hno)
end
end Go.Fw
/- Soundness, part 18: calls. -/
namespace Go.Fw
open Go Go.RowKit
section
variable {P : Program} {B : Nat} {G0 : Nat → Nat → Prop} {W0 : World} {n : Nat} {env env' : Env} {a : Act} {w : World} {ob : Nat → OB} {cl : Cal}
variable {G' : Nat → Nat → Prop} {S : Nat → Prop}
variable {R : Type} {K : Kont R} {r : R} {next : Act → World → Prop} {Q : Exit → Act → World → Prop} {o : Oper} {i : AI}
theorem clo_rep (hgood : Good P cl) (hC : Conc P B G0 W0 n env a.tmps w ob) {f : FuncId} {A C : Ty} {caps : List E} {v : Value} {x : E} {obe : OB} (hr : ERep P w (Gd B G0 ob) B a.tmps env (.clo f A C caps) v obe) (h : cloV cl env f A C caps = some x) : ARep P w G' x v := by
 unfold cloV at h
 split at h
 ·rename_i hs
  simp only [Option.bind_eq_some_iff, Option.some.injEq] at h
  obtain ⟨cs, hcs, rfl⟩ := h
  obtain ⟨_, cv, rfl, hcap⟩ := hr
  refine ⟨[.func (.func f) #[] cv], ?_, rfl⟩
  unfold Flat
  refine ⟨rfl, hs, f, cv, rfl, fun w' G2 y vals hL hargs r hr => ?_⟩
  simp only [Option.bind_eq_some_iff] at hr
  obtain ⟨res, h1, h2⟩ := hr
  have := unE_some h2
  subst this
  have hT : OkG P B G0 env ob w (fun _ _ => True) (fun _ => True) := ⟨fun _ _ _ _ => trivial, .inl fun _ _ => trivial⟩
  have hA := (ArgsRep.later (Later.refl _ _) (fun _ _ _ _ => trivial) (FArgs.args A hargs)).append (ArgsRep.later (G' := fun _ _ => True) hL (fun _ _ _ _ => trivial) (argsS_rep hC hT hcap hcs (fun _ _ => trivial)))
  have hcall := hgood.call f _ _ h1 w' (fun _ _ => True) _ hA
  refine ⟨hcall.1, ?_⟩
  have e : (vals ++ cv.toList).toArray = vals.toArray ++ cv := by apply Array.toList_inj.1; simp
  rw [← e]
  refine Calls.mono hcall.2 ?_
  rintro e w'' ⟨v, rob, rfl, hb, hres⟩
  obtain ⟨rs, rfl, h3⟩ := hres.scal hs
  exact ⟨rs, h3 _ _ _, rfl, hb⟩
 ·simp at h
theorem argList_rep (hgood : Good P cl) (hC : Conc P B G0 W0 n env a.tmps w ob) : ∀ {us : List Operand} {ys : List Od} {as : List E}, okOds us ys = true → argList cl env ys = some as →
  OkG P B G0 env ob w G' (fun s => ∃ y ∈ ys, homeOf y (ent env y) = some s) → ArgsRep P w G' as (us.map a.eval)
 | [], [], as, _, h, _ => by simp only [argList, Option.some.injEq] at h; subst h; exact .nil
 | [], _ :: _, _, h, _, _ => by simp [okOds] at h
 | _ :: _, [], _, h, _, _ => by simp [okOds] at h
 | u :: us, y :: ys, as, ho, h, hG => by
   simp only [okOds, Bool.and_eq_true] at ho
   simp only [argList, Option.bind_eq_some_iff, Option.some.injEq] at h
   obtain ⟨x, h1, z, h2, rfl⟩ := h
   have hG2 : OkG P B G0 env ob w G' (fun s => ∃ y ∈ ys, homeOf y (ent env y) = some s) := ⟨hG.sub, hG.froz.imp id fun hf s hs => hf s (by obtain ⟨y', hy, hh⟩ := hs; exact ⟨y', List.mem_cons_of_mem _ hy, hh⟩)⟩
   refine .cons ?_ (argList_rep hgood hC ho.2 h2 hG2)
   have hr := ent_rep hC ho.1
   split at h1
   ·rename_i T oa x' he
    split at h1
    ·rename_i hw
     simp only [Option.some.injEq] at h1; subst h1
     cases y with
     | t k =>
       simp only [ent] at he
       obtain ⟨b, vs, k1, k2, k3⟩ := loc_share (p := []) hC hG (s := k) ⟨.t k, by simp, by simp [ent, he, homeOf]⟩ he hw (y := x') (by cases T <;> rfl)
       have e0 : offT T [] = 0 := by cases T <;> rfl
       rw [e0] at k3
       exact ⟨b, 0, vs, by rw [okOd_t ho.1 a]; exact k1, k2, k3⟩
     | c T x => simp [ent] at he
     | nil e T => simp [ent] at he
     | fn f A C => simp [ent] at he
    ·simp at h1
   ·rename_i f A C caps he
    rw [he] at hr
    exact clo_rep hgood hC hr h1
   ·rename_i hn1 hn2
    by_cases hown : ∃ wr ed T oa xs, ent env y = .own wr ed T oa xs
    ·obtain ⟨wr, ed, T, oa, xs, he⟩ := hown
     rw [he] at hr h1
     simp only [argS] at h1
     split at h1
     ·rename_i hp
      simp only [Option.some.injEq] at h1; subst h1
      refine ⟨[a.eval u], Flat.up P _ hC.base (own_imm hr hp hG.sub ?_), rfl⟩
      intro g j hg hB hj
      rcases hG.froz with ht | hf
      ·exact ht _ _
      ·cases y with
       | t k =>
         simp only [ent] at he
         have hwr := (hf k ⟨.t k, by simp, by simp [ent, he, homeOf]⟩).1 _ _ _ _ _ he
         subst hwr
         have hr' := hr
         change Flat P (.sl T) w (Gd B G0 ob) B (.own false ed oa) xs [a.eval u] (ob k) at hr'
         unfold Flat at hr'
         obtain ⟨v', cells, ob', e1, _, _, e2⟩ := hr'
         simp only [List.cons.injEq, and_true] at e1
         subst e1
         have hm : (g, xs.length * cellsN T) ∈ ob k := by rw [e2]; exact List.mem_append_left _ (by simp [obOf, hg])
         exact hG.sub g j (hC.low k g (mem_blocks.2 ⟨_, hm⟩)).2 (Gd_of_rec hC hm hj hB)
       | c T x => simp [ent] at he
       | nil e T => simp only [ent] at he; cases he; simp at hj
       | fn f A C => simp [ent] at he
     ·simp at h1
    ·have hr1 : ERep1 P w (Gd B G0 ob) B a.tmps env (ent env y) (a.eval u) (obOd ob y) := ERep.one (fun es he => by rw [he] at h1; simp [argS] at h1) (fun f A C c he => hn2 f A C c he) hr
     refine argS_rep hC hr1 h1 (.inr fun wr ed T oa xs he => hown ⟨wr, ed, T, oa, xs, he⟩) hG (fun s hs => ⟨y, by simp, ?_⟩)
     rw [← hs]
     cases he : ent env y <;> first | rfl | exact absurd he (hn1 _ _ _) | exact (hown ⟨_, _, _, _, _, he⟩).elim
theorem back_rep1 {w' : World} {G1 G2 : Nat → Nat → Prop} {B1 B2 : Nat} {tm1 tm2 : Array Value} {env1 env2 : Env} {e : E} {v : Value} {b : OB} (hB : B2 ≤ B1) (hb : e.back = true)
  (hG : (∀ b i, b < w'.heap.size → G1 b i → G2 b i) ∨ e.plain = true) (h : ERep1 P w' G1 B1 tm1 env1 e v b) : ERep1 P w' G2 B2 tm2 env2 e v b := by
 cases e with
 | v T x =>
   obtain ⟨h0, vs, h1, h2⟩ := h
   refine ⟨h0, vs, ?_, h2⟩
   rcases hG with hG | hG
   ·exact Flat.mono P T (fun b i hb h => ⟨hG b i hb h, rfl⟩) (Later.refl _ _) (by simp) (Flat.down P T hb hB h1)
   ·exact (Flat.scal P T hG h1).2 _ _ _ _
 | own wr ed T o xs =>
   simp only [E.back, Bool.and_eq_true] at hb
   have h1 : Flat P (.sl T) w' G1 B2 (.own wr ed o) xs [v] b := Flat.down P (.sl T) (by simpa only [noFnT] using hb.1) hB h
   change Flat P (.sl T) w' G2 B2 (.own wr ed o) xs [v] b
   rcases hG with hG | hG
   ·exact Flat.mono P (.sl T) (fun b i hb h => ⟨hG b i hb h, rfl⟩) (Later.refl _ _) (fun _ _ => rfl) h1
   ·unfold Flat at h1 ⊢
    obtain ⟨v', cells, ob', k1, k2, k3, k4⟩ := h1
    refine ⟨v', cells, ob', k1, k2, Elems.imp (fun x u c _ hx => ?_) k3, k4⟩
    obtain ⟨e1, hx2⟩ := Flat.scal P T hG hx
    subst e1
    exact hx2 _ _ _ _
 | _ => simp [E.back] at hb
theorem back_rep {w' : World} {G1 G2 : Nat → Nat → Prop} {B1 B2 : Nat} {tm1 tm2 : Array Value} {env1 env2 : Env} {es : List E} {v : Value} {b : OB} (hB : B2 ≤ B1) (hb : es.all E.back = true)
  (hG : (∀ b i, b < w'.heap.size → G1 b i → G2 b i) ∨ es.all E.plain = true) (h : ERep P w' G1 B1 tm1 env1 (resE es) v b) : ERep P w' G2 B2 tm2 env2 (resE es) v b := by
 have key : ∀ {es : List E} {vs : List Value} {b : OB}, es.all E.back = true → ((∀ b i, b < w'.heap.size → G1 b i → G2 b i) ∨ es.all E.plain = true) → TupRep (ERep1 P w' G1 B1 tm1 env1) es vs b → TupRep (ERep1 P w' G2 B2 tm2 env2) es vs b := by
  intro es
  induction es with
  | nil => intro vs b _ _ h; exact h
  | cons e es ih =>
    rintro vs b hb hG ⟨v, rr, b1, b2, rfl, rfl, h1, h2⟩
    simp only [List.all_cons, Bool.and_eq_true] at hb hG
    exact ⟨v, rr, b1, b2, rfl, rfl, back_rep1 hB hb.1 (hG.imp id And.left) h1, ih hb.2 (hG.imp id And.right) h2⟩
 match es, hb, hG, h with
 | [e], hb, hG, h =>
   simp only [List.all_cons, List.all_nil, Bool.and_true] at hb hG
   cases e with
   | v T x => exact back_rep1 (tm1 := tm1) (tm2 := tm2) (env1 := env1) (env2 := env2) (e := .v T x) hB hb hG h
   | own wr ed T o xs => exact back_rep1 (tm1 := tm1) (tm2 := tm2) (env1 := env1) (env2 := env2) (e := .own wr ed T o xs) hB hb hG h
   | _ => simp [E.back] at hb
 | [], hb, hG, h => obtain ⟨h0, vs, h1, h2⟩ := h; exact ⟨h0, vs, h1, key hb hG h2⟩
 | e1 :: e2 :: es, hb, hG, h => obtain ⟨h0, vs, h1, h2⟩ := h; exact ⟨h0, vs, h1, key hb hG h2⟩
theorem back_leads {es : List E} (hb : es.all E.back = true) (k : Nat) : leads k (resE es) = false := by
 match es, hb with
 | [e], hb =>
   simp only [List.all_cons, List.all_nil, Bool.and_true] at hb
   cases e <;> simp_all [E.back, resE, leads]
 | [], _ => rfl
 | _ :: _ :: _, _ => rfl
theorem Below.grows {w' : World} (h : Below w.heap.size w w') : Grows w w' := ⟨h.os, h.tape, h.output, h.size, fun k hk => h.block k hk⟩
theorem fin_res {w' : World} {res : List E} {v : Value} {rob : OB} {d : Option Nat} {G : Nat → Nat → Prop} (hC : Conc P B G0 W0 n env a.tmps w ob) (hK : KOk P B G0 W0 n a K r next) (hd : ∀ k, d = some k → k < n)
  (hb : Below w.heap.size w w') (hres : ResRep P w w' G res v rob) (hG : (∀ b i, G b i → Gd B G0 ob b i) ∨ res.all E.plain = true) (hk : K (putO env d (resE res)) = some r) : next (a.put d v) w' := by
 cases d with
 | none => exact fin0 (e := .dead) hC hK (by simp) (Below.grows hb) rfl hk
 | some k =>
   have h := Conc.putG (e := resE res) (v := v) (bk := rob) hC (hd k rfl) (Below.grows hb) ?_ hres.new hres.nodup
   ·have := hK _ _ _ _ h hk
    exact this
   ·rw [if_neg (by rw [back_leads hres.back k]; simp)]
    refine back_rep hC.base hres.back ?_ hres.rep
    refine hG.imp (fun hG b i hb' hg => ?_) id
    rcases hg with ⟨h1, h2⟩ | ⟨h1, h2⟩
    ·exact Gd_upd (fun lim hl => by have := (hres.new b (mem_blocks.2 ⟨_, hl⟩)).1; omega) (hG b i h2)
    ·refine .inr ⟨Nat.le_trans hC.base h1, fun j lim hj => ?_⟩
     by_cases hjk : j = k
     ·subst hjk; rw [updO_same] at hj; exact h2 lim hj
     ·rw [updO_other _ _ hjk] at hj
      have := (hC.low j b (mem_blocks.2 ⟨_, hj⟩)).2
      omega
theorem run_callFunc {f : FuncId} (h : Callable P f) (args : Array Value) (w : World) : (callFunc f args).run P w = .ok (.enter f args) w := by
 obtain ⟨fn, h1, h2, h3⟩ := h
 have h2' : ¬ fn.name = "runtime.NumGoroutine" := by simpa using h2
 have h3' : ¬ fn.body = none := by intro e; rw [e] at h3; simp at h3
 simp [callFunc, h1, h2', h3']
theorem wp_enter {f : FuncId} {args : Array Value} (hrun : (execOp a.eval o).run P w = .ok (.enter f args) w) (h : Calls P f args w fun e w' => ∃ v, e = .returned v ∧ next (a.put o.dst v) w') : o.wp P a w next Q := by
 unfold Oper.wp; rw [hrun]; exact Calls.mono h (by rintro e w' ⟨v, rfl, h⟩; exact h)
theorem st_call {f : FuncId} {us : Array Operand} {ats : Array TypeId} {ys : List Od} (hgood : Good P cl) (hC : Conc P B G0 W0 n env a.tmps w ob) (hK : KOk P B G0 W0 n a K r next) (hd : ∀ k, o.dst = some k → k < n) (hdst : i.dst = o.dst)
  (ho : o.op = .call { callee := .value (.func f), args := us, argTypes := ats }) (hi : i.op = .call f ys) (hx : okOds us.toList ys = true) (h : step cl i env K = some r) : o.wp P a w next Q := by
 unfold step at h; rw [hi] at h; simp only [hdst, Cal.eqn, Option.bind_eq_some_iff] at h
 obtain ⟨as, h1, res, h2, h3⟩ := h
 have hrun : Callable P f → (execOp a.eval o).run P w = .ok (.enter f (us.map a.eval)) w := by
  intro hc
  have := run_callFunc hc (us.map a.eval) w
  simp [execOp, ho, resolve, Deferred.ofValue, invoke, Act.eval, this]
 have e : (us.toList.map a.eval).toArray = us.map a.eval := by apply Array.toList_inj.1; simp
 by_cases hp : res.all E.plain = true
 ·rw [if_pos hp] at h3
  have hA := argList_rep (G' := fun _ _ => True) hgood hC hx h1 ⟨fun _ _ _ _ => trivial, .inl fun _ _ => trivial⟩
  have hcall := hgood.call f _ _ h2 w _ _ hA
  rw [e] at hcall
  refine wp_enter (hrun hcall.1) (Calls.mono hcall.2 ?_)
  rintro e w' ⟨v, rob, rfl, hb, hres⟩
  exact ⟨v, rfl, fin_res hC hK hd hb hres (.inr hp) h3⟩
 ·rw [if_neg hp] at h3
  obtain ⟨ob', hf, hC'⟩ := freezeAll_conc (a := a) ys hC
  have hz := freezeAll_fz ys env
  have hA := argList_rep (G' := Gd B G0 ob') hgood hC' hx (Fz.argList hz.1 h1) ⟨fun _ _ _ h => h, .inr fun s ⟨y, hy, hs⟩ => hz.2 y hy s (by rw [← homeOf_fz (FzE.ent hz.1 y)]; exact hs)⟩
  have hcall := hgood.call f _ _ h2 w _ _ hA
  rw [e] at hcall
  refine wp_enter (hrun hcall.1) (Calls.mono hcall.2 ?_)
  rintro e w' ⟨v, rob, rfl, hb, hres⟩
  exact ⟨v, rfl, fin_res hC' hK hd hb hres (.inl fun _ _ h => h) h3⟩
theorem st_callN {f : FuncId} {us : Array Operand} {ats : Array TypeId} {u : Operand} {us' : List Operand} {ys : List Od} (hgood : Good P cl) (hC : Conc P B G0 W0 n env a.tmps w ob) (hK : KOk P B G0 W0 n a K r next) (hd : ∀ k, o.dst = some k → k < n) (hdst : i.dst = o.dst)
  (ho : o.op = .call { callee := .value (.func f), args := us, argTypes := ats }) (hi : i.op = .callN f ys) (hus : us.toList = u :: us') (hu : a.eval u = .slice none 0 0) (hx : okOds us' ys = true) (h : step cl i env K = some r) : o.wp P a w next Q := by
 unfold step at h; rw [hi] at h; simp only [hdst, Cal.eqn, Option.bind_eq_some_iff] at h
 obtain ⟨as, h1, res, h2, h3⟩ := h
 have hrun : Callable P f → (execOp a.eval o).run P w = .ok (.enter f (us.map a.eval)) w := by
  intro hc
  have := run_callFunc hc (us.map a.eval) w
  simp [execOp, ho, resolve, Deferred.ofValue, invoke, Act.eval, this]
 have e : (a.eval u :: us'.map a.eval).toArray = us.map a.eval := by
  apply Array.toList_inj.1
  simp [hus]
 by_cases hp : res.all E.plain = true
 ·rw [if_pos hp] at h3
  have hA := argList_rep (G' := fun _ _ => True) hgood hC hx h1 ⟨fun _ _ _ _ => trivial, .inl fun _ _ => trivial⟩
  have hcall := hgood.call f _ _ h2 w _ _ (.cons (e := .dead) hu hA)
  rw [e] at hcall
  refine wp_enter (hrun hcall.1) (Calls.mono hcall.2 ?_)
  rintro e w' ⟨v, rob, rfl, hb, hres⟩
  exact ⟨v, rfl, fin_res hC hK hd hb hres (.inr hp) h3⟩
 ·rw [if_neg hp] at h3
  obtain ⟨ob', hf, hC'⟩ := freezeAll_conc (a := a) ys hC
  have hz := freezeAll_fz ys env
  have hA := argList_rep (G' := Gd B G0 ob') hgood hC' hx (Fz.argList hz.1 h1) ⟨fun _ _ _ h => h, .inr fun s ⟨y, hy, hs⟩ => hz.2 y hy s (by rw [← homeOf_fz (FzE.ent hz.1 y)]; exact hs)⟩
  have hcall := hgood.call f _ _ h2 w _ _ (.cons (e := .dead) hu hA)
  rw [e] at hcall
  refine wp_enter (hrun hcall.1) (Calls.mono hcall.2 ?_)
  rintro e w' ⟨v, rob, rfl, hb, hres⟩
  exact ⟨v, rfl, fin_res hC' hK hd hb hres (.inl fun _ _ h => h) h3⟩
theorem TupRep.fz {G : Nat → Nat → Prop} : ∀ {es : List E} {vs : List Value} {b : OB}, TupRep (ERep1 P w G B a.tmps env) es vs b → ∃ b2, TupRep (ERep1 P w G B a.tmps env) (es.map fz1) vs b2 ∧ Less b2 b
 | [], _, b, h => ⟨b, h, Less.refl _⟩
 | e :: es, _, _, h => by
   obtain ⟨v, r, b1, b2, rfl, rfl, h1, h2⟩ := h
   obtain ⟨c2, k1, k2⟩ := TupRep.fz h2
   have key : ∃ c1, ERep1 P w G B a.tmps env (fz1 e) v c1 ∧ Less c1 b1 := by
    cases e with
    | own wr e T o xs => exact Flat.frz P (.sl T) (o := .own wr e o) h1
    | _ => exact ⟨b1, h1, Less.refl _⟩
   obtain ⟨c1, k3, k4⟩ := key
   exact ⟨c1 ++ c2, ⟨v, r, c1, c2, rfl, rfl, k3, k1⟩, Less.append k4 k2⟩
theorem leads_fz1 (s : Nat) (e : E) : leads s (fz1 e) = leads s e := by cases e <;> rfl
theorem freeze_tup (hC : Conc P B G0 W0 n env a.tmps w ob) {s : Nat} {es : List E} (hs : look env s = .tup es) : ∃ ob', Conc P B G0 W0 n ((s, .tup (es.map fz1)) :: env) a.tmps w ob' := by
 have hr := hC.rep s
 rw [hs] at hr
 obtain ⟨h0, vs, hv, ht⟩ := hr
 obtain ⟨bs, h1, h2⟩ := TupRep.fz ht
 have hl : ∀ e ∈ es.map fz1, ∀ s', leads s' e = false := by
  intro e he s'
  obtain ⟨e', he', rfl⟩ := List.mem_map.1 he
  rw [leads_fz1]; exact h0 e' he' s'
 refine ⟨_, Conc.relabel hC h2.1 h2.2 ?_ ⟨hl, vs, hv, TupRep.imp (fun e he v b hb hr => ERep1.keep (fun b i _ h => ⟨?_, rfl⟩) (Later.refl _ _) (fun _ _ => rfl) (fun s' hs' => ?_) hr) h1⟩⟩
 ·refine ⟨fun p v _ hv => ?_, fun p h hh => ?_, fun T' o' x' hx => ?_⟩
  ·simp [headAt, hs] at hv
  ·simp [heldAt, hs] at hh
  ·rw [hs] at hx; exact absurd hx (by simp)
 ·refine Gd_sub (fun j b lim hj => ?_) h
  by_cases hjs : j = s
  ·subst hjs; rw [updO_same] at hj; obtain ⟨l, h3, h4⟩ := h2.2 b lim hj; exact ⟨j, l, h3, h4⟩
  ·rw [updO_other _ _ hjs] at hj; exact ⟨j, lim, hj, Nat.le_refl _⟩
 ·rw [hl e he s'] at hs'; exact absurd hs' (by simp)
theorem fzD_conc (hC : Conc P B G0 W0 n env a.tmps w ob) (d : Option Nat) : ∃ ob', Conc P B G0 W0 n (fzD d env) a.tmps w ob' := by
 unfold fzD
 split
 ·rename_i k e r
  have hl : look ((k, e) :: r) k = e := by rw [look_cons, if_pos rfl]
  have ext : ∀ {e' : E} {ob' : Nat → OB}, Conc P B G0 W0 n ((k, e') :: (k, e) :: r) a.tmps w ob' → ∃ ob', Conc P B G0 W0 n ((k, e') :: r) a.tmps w ob' := fun h => Conc.forget h (fun j => .inl <| by
   simp only [look_cons]
   by_cases h : k = j
   ·rw [if_pos h, if_pos h]
   ·rw [if_neg h, if_neg h, if_neg h])
  cases e with
  | tup es => obtain ⟨ob', h⟩ := freeze_tup hC hl; exact ext h
  | own wr e T o xs => obtain ⟨bs, _, h⟩ := freeze_own hC hl; exact ext h
  | _ => exact ⟨ob, hC⟩
 ·exact ⟨ob, hC⟩
theorem st_callF {f : FuncId} {us : Array Operand} {ats : Array TypeId} {ys : List Od} (hgood : Good P cl) (hC : Conc P B G0 W0 n env a.tmps w ob) (hK : KOk P B G0 W0 n a K r next) (hd : ∀ k, o.dst = some k → k < n) (hdst : i.dst = o.dst)
  (ho : o.op = .call { callee := .value (.func f), args := us, argTypes := ats }) (hi : i.op = .callF f ys) (hx : okOds us.toList ys = true) (h : step cl i env K = some r) : o.wp P a w next Q := by
 refine st_call (r := r) (i := { i with op := .call f ys }) (K := fun env => K (fzD i.dst env)) hgood hC (fun env' tm' w' ob' hC' hk => ?_) hd hdst ho rfl hx ?_
 ·obtain ⟨ob2, h2⟩ := fzD_conc (a := { a with tmps := tm' }) hC' i.dst
  exact hK _ _ _ _ h2 hk
 ·unfold step at h ⊢; rw [hi] at h; exact h
theorem st_callv {x : Operand} {y : Od} {us : Array Operand} {ats : Array TypeId} {ys : List Od} (hgood : Good P cl) (hC : Conc P B G0 W0 n env a.tmps w ob) (hK : KOk P B G0 W0 n a K r next) (hd : ∀ k, o.dst = some k → k < n) (hdst : i.dst = o.dst)
  (ho : o.op = .call { callee := .value x, args := us, argTypes := ats }) (hi : i.op = .callv y ys) (hxy : okOd x y = true) (hx : okOds us.toList ys = true) (h : step cl i env K = some r) : o.wp P a w next Q := by
 unfold step at h; rw [hi] at h; simp only [hdst] at h
 have hr := ent_rep hC hxy
 have hrun : ∀ {f : FuncId} {cv : Array Value}, Callable P f → a.eval x = .func (.func f) #[] cv → (execOp a.eval o).run P w = .ok (.enter f (us.map a.eval ++ cv)) w := by
  intro f cv hc hv
  have := run_callFunc hc (us.map a.eval ++ cv) w
  simp [execOp, ho, resolve, Deferred.ofValue, invoke, hv, this]
 have e : (us.toList.map a.eval).toArray = us.map a.eval := by apply Array.toList_inj.1; simp
 split at h
 ·rename_i A C g he
  simp only [Option.bind_eq_some_iff] at h
  obtain ⟨as, h1, x', h2, z, h3, h4⟩ := h
  split at h4
  ·rename_i hs
   have hA := argList_rep (G' := fun _ _ => True) hgood hC hx h1 ⟨fun _ _ _ _ => trivial, .inl fun _ _ => trivial⟩
   have hF := tuple_args A h2 hA
   rw [he] at hr
   obtain ⟨_, vs, hr1, hr2⟩ := hr
   unfold Flat at hr1
   obtain ⟨_, _, f, cv, rfl, hfn⟩ := hr1
   have hcall := hfn w _ _ _ (Later.refl _ _) hF z h3
   refine wp_enter (hrun hcall.1 hr2) ?_
   rw [e] at hcall
   refine Calls.mono hcall.2 ?_
   rintro e w' ⟨rs, k1, rfl, k2⟩
   refine ⟨_, rfl, fin0 (e := .v C z) hC hK hd (Below.grows k2) ?_ h4⟩
   exact ⟨rfl, rs, (Flat.scal P C hs k1).2 _ _ _ _, rfl⟩
  ·simp at h4
 ·rename_i f A C caps he
  simp only [Cal.eqn, Option.bind_eq_some_iff] at h
  obtain ⟨as, h1, cs, h2, res, h3, h4⟩ := h
  split at h4
  ·rename_i hp
   rw [he] at hr
   obtain ⟨_, cv, hv, hcap⟩ := hr
   have hT : OkG P B G0 env ob w (fun _ _ => True) (fun _ => True) := ⟨fun _ _ _ _ => trivial, .inl fun _ _ => trivial⟩
   have hA := (argList_rep (G' := fun _ _ => True) hgood hC hx h1 ⟨fun _ _ _ _ => trivial, .inl fun _ _ => trivial⟩).append (argsS_rep hC hT hcap h2 (fun _ _ => trivial))
   have hcall := hgood.call f _ _ h3 w _ _ hA
   have e2 : (us.toList.map a.eval ++ cv.toList).toArray = us.map a.eval ++ cv := by apply Array.toList_inj.1; simp
   rw [e2] at hcall
   refine wp_enter (hrun hcall.1 hv) (Calls.mono hcall.2 ?_)
   rintro e w' ⟨v, rob, rfl, hb, hres⟩
   exact ⟨v, rfl, fin_res hC hK hd hb hres (.inr hp) h4⟩
  ·simp at h4
 ·exact absurd h (by simp)
end
end Go.Fw
/- Soundness, part 19: writing. -/
namespace Go.Fw
open Go Go.RowKit
theorem getP_scal : ∀ (p : Path) (T : Ty) {x : den T} {y : TV}, scalarT T = true → getP T p x = some y → scalarT y.1 = true
 | [], T, x, y, hs, h => by simp only [getP, Option.some.injEq] at h; subst h; exact hs
 | .l :: p, .pair A C, x, y, hs, h => by simp only [scalarT, Bool.and_eq_true] at hs; simp only [getP] at h; exact getP_scal p A hs.1 h
 | .r :: p, .pair A C, x, y, hs, h => by simp only [scalarT, Bool.and_eq_true] at hs; simp only [getP] at h; exact getP_scal p C hs.2 h
 | .ix i :: p, .arr n T, x, y, hs, h => by
   simp only [scalarT] at hs; simp only [getP] at h
   split at h
   ·exact getP_scal p T hs h
   ·simp at h
 | .l :: _, .int _, _, _, _, h | .l :: _, .bool, _, _, _, h | .l :: _, .str, _, _, _, h | .l :: _, .unit, _, _, _, h | .l :: _, .sl _, _, _, _, h | .l :: _, .arr _ _, _, _, _, h | .l :: _, .fn _ _, _, _, _, h => by simp [getP] at h
 | .r :: _, .int _, _, _, _, h | .r :: _, .bool, _, _, _, h | .r :: _, .str, _, _, _, h | .r :: _, .unit, _, _, _, h | .r :: _, .sl _, _, _, _, h | .r :: _, .arr _ _, _, _, _, h | .r :: _, .fn _ _, _, _, _, h => by simp [getP] at h
 | .ix _ :: _, .int _, _, _, _, h | .ix _ :: _, .bool, _, _, _, h | .ix _ :: _, .str, _, _, _, h | .ix _ :: _, .unit, _, _, _, h | .ix _ :: _, .sl _, _, _, _, h | .ix _ :: _, .pair _ _, _, _, _, h | .ix _ :: _, .fn _ _, _, _, _, h => by simp [getP] at h
theorem setP_getP : ∀ (p : Path) (T : Ty) {x x1 : den T} {T' : Ty} {z : den T'}, setP T p x ⟨T', z⟩ = some x1 → ∃ y : den T', getP T p x = some ⟨T', y⟩
 | [], T, x, x1, T', z, h => by
   simp only [setP] at h
   have := cast?_some h; cases this
   exact ⟨x, by cases T <;> rfl⟩
 | .l :: p, .pair A C, x, x1, T', z, h => by
   simp only [setP, Option.bind_eq_some_iff] at h; obtain ⟨u, h, _⟩ := h
   simp only [getP]; exact setP_getP p A h
 | .r :: p, .pair A C, x, x1, T', z, h => by
   simp only [setP, Option.bind_eq_some_iff] at h; obtain ⟨u, h, _⟩ := h
   simp only [getP]; exact setP_getP p C h
 | .ix i :: p, .arr n T, x, x1, T', z, h => by
   simp only [setP] at h
   split at h
   ·rename_i hi
    simp only [Option.bind_eq_some_iff] at h; obtain ⟨u, h, _⟩ := h
    simp only [getP]; rw [if_pos hi]; exact setP_getP p T h
   ·simp at h
 | .l :: _, .int _, _, _, _, _, h | .l :: _, .bool, _, _, _, _, h | .l :: _, .str, _, _, _, _, h | .l :: _, .unit, _, _, _, _, h | .l :: _, .sl _, _, _, _, _, h | .l :: _, .arr _ _, _, _, _, _, h | .l :: _, .fn _ _, _, _, _, _, h => by simp [setP] at h
 | .r :: _, .int _, _, _, _, _, h | .r :: _, .bool, _, _, _, _, h | .r :: _, .str, _, _, _, _, h | .r :: _, .unit, _, _, _, _, h | .r :: _, .sl _, _, _, _, _, h | .r :: _, .arr _ _, _, _, _, _, h | .r :: _, .fn _ _, _, _, _, _, h => by simp [setP] at h
 | .ix _ :: _, .int _, _, _, _, _, h | .ix _ :: _, .bool, _, _, _, _, h | .ix _ :: _, .str, _, _, _, _, h | .ix _ :: _, .unit, _, _, _, _, h | .ix _ :: _, .sl _, _, _, _, _, h | .ix _ :: _, .pair _ _, _, _, _, _, h | .ix _ :: _, .fn _ _, _, _, _, _, h => by simp [setP] at h
theorem off_le {P : Program} {w : World} {G : Nat → Nat → Prop} {B : Nat} {o : Ann} {T : Ty} {x : den T} {vs : List Value} {ob : OB} {p : Path} {T' : Ty} {y : den T'} (hF : Flat P T w G B o x vs ob) (h : getP T p x = some ⟨T', y⟩) : offT T p + cellsN T' ≤ cellsN T := by
 obtain ⟨v1, v2, v3, b1, b2, b3, e1, _, e3, e4, _⟩ := Flat.lens P p T hF h
 have h1 := Flat.len P T hF
 have h2 := Flat.len P T' e4
 rw [e1] at h1; simp only [List.length_append] at h1; omega
theorem setP_keep {P : Program} {w : World} {G : Nat → Nat → Prop} {B : Nat} : ∀ (q p : Path) (T0 : Ty) {o : Ann} {x x1 : den T0} {vs : List Value} {ob : OB} {T T' : Ty} {z : den T} {xs : List (den T')}, Flat P T0 w G B o x vs ob → scalarT T = true →
  setP T0 p x ⟨T, z⟩ = some x1 → hasIx q = false → getP T0 q x = some ⟨.sl T', xs⟩ → getP T0 q x1 = some ⟨.sl T', xs⟩ ∧ (offT T0 q < offT T0 p ∨ offT T0 p + cellsN T ≤ offT T0 q)
 | [], p, T0, o, x, x1, vs, ob, T, T', z, xs, hF, hs, hset, _, hg => by
   exfalso
   have : T0 = .sl T' := by
    simp only [getP, Option.some.injEq] at hg
    exact (Sigma.mk.inj hg).1
   subst this
   obtain ⟨y, hy⟩ := setP_getP p _ hset
   cases p with
   | nil =>
     simp only [getP, Option.some.injEq] at hy
     have := (Sigma.mk.inj hy).1
     subst this; simp [scalarT] at hs
   | cons st p => cases st <;> simp [getP] at hy
 | .l :: q, p, .pair A C, o, x, x1, vs, ob, T, T', z, xs, hF, hs, hset, hq, hg => by
   have hF' := hF
   unfold Flat at hF; obtain ⟨u1, u2, c1, c2, rfl, rfl, h1, h2⟩ := hF
   simp only [getP] at hg
   simp only [hasIx] at hq
   obtain ⟨y, hy⟩ := setP_getP p _ hset
   match p, hset, hy with
   | [], hset, hy =>
     exfalso
     simp only [getP, Option.some.injEq] at hy
     have := (Sigma.mk.inj hy).1
     subst this
     simp only [scalarT, Bool.and_eq_true] at hs
     have := getP_scal q A hs.1 hg
     simp [scalarT] at this
   | .l :: p, hset, hy =>
     simp only [setP, Option.bind_eq_some_iff, Option.some.injEq] at hset
     obtain ⟨u, hu, rfl⟩ := hset
     simp only [getP, offT]
     exact setP_keep q p A h1 hs hu hq hg
   | .r :: p, hset, hy =>
     simp only [setP, Option.bind_eq_some_iff, Option.some.injEq] at hset
     obtain ⟨u, hu, rfl⟩ := hset
     simp only [getP, offT]
     refine ⟨hg, .inl ?_⟩
     have := off_le h1 hg
     simp only [cellsN] at this
     omega
   | .ix i :: p, hset, hy => simp [setP] at hset
 | .r :: q, p, .pair A C, o, x, x1, vs, ob, T, T', z, xs, hF, hs, hset, hq, hg => by
   have hF' := hF
   unfold Flat at hF; obtain ⟨u1, u2, c1, c2, rfl, rfl, h1, h2⟩ := hF
   simp only [getP] at hg
   simp only [hasIx] at hq
   obtain ⟨y, hy⟩ := setP_getP p _ hset
   match p, hset, hy with
   | [], hset, hy =>
     exfalso
     simp only [getP, Option.some.injEq] at hy
     have := (Sigma.mk.inj hy).1
     subst this
     simp only [scalarT, Bool.and_eq_true] at hs
     have := getP_scal q C hs.2 hg
     simp [scalarT] at this
   | .r :: p, hset, hy =>
     simp only [setP, Option.bind_eq_some_iff, Option.some.injEq] at hset
     obtain ⟨u, hu, rfl⟩ := hset
     simp only [getP, offT]
     have := setP_keep q p C h2 hs hu hq hg
     exact ⟨this.1, by omega⟩
   | .l :: p, hset, hy =>
     simp only [setP, Option.bind_eq_some_iff, Option.some.injEq] at hset
     obtain ⟨u, hu, rfl⟩ := hset
     simp only [getP, offT] at hy ⊢
     refine ⟨hg, .inr ?_⟩
     have := off_le h1 hy
     omega
   | .ix i :: p, hset, hy => simp [setP] at hset
 | .ix i :: q, p, T0, _, _, _, _, _, _, _, _, _, _, _, _, hq, _ => by simp [hasIx] at hq
 | .l :: _, _, .int _, _, _, _, _, _, _, _, _, _, _, _, _, _, h | .l :: _, _, .bool, _, _, _, _, _, _, _, _, _, _, _, _, _, h | .l :: _, _, .str, _, _, _, _, _, _, _, _, _, _, _, _, _, h | .l :: _, _, .unit, _, _, _, _, _, _, _, _, _, _, _, _, _, h | .l :: _, _, .sl _, _, _, _, _, _, _, _, _, _, _, _, _, _, h | .l :: _, _, .arr _ _, _, _, _, _, _, _, _, _, _, _, _, _, _, h | .l :: _, _, .fn _ _, _, _, _, _, _, _, _, _, _, _, _, _, _, h => by simp [getP] at h
 | .r :: _, _, .int _, _, _, _, _, _, _, _, _, _, _, _, _, _, h | .r :: _, _, .bool, _, _, _, _, _, _, _, _, _, _, _, _, _, h | .r :: _, _, .str, _, _, _, _, _, _, _, _, _, _, _, _, _, h | .r :: _, _, .unit, _, _, _, _, _, _, _, _, _, _, _, _, _, h | .r :: _, _, .sl _, _, _, _, _, _, _, _, _, _, _, _, _, _, h | .r :: _, _, .arr _ _, _, _, _, _, _, _, _, _, _, _, _, _, _, h | .r :: _, _, .fn _ _, _, _, _, _, _, _, _, _, _, _, _, _, _, h => by simp [getP] at h
theorem annAt_pure : ∀ (q : Path) (o : Ann), o.pure = true → (annAt o q).pure = true
 | [], _, h => h
 | .l :: q, o, h => annAt_pure q o.l (Ann.pure_l h)
 | .r :: q, o, h => annAt_pure q o.r (Ann.pure_r h)
 | .ix _ :: _, _, _ => rfl
theorem setP_keepP {P : Program} {w : World} {G : Nat → Nat → Prop} {B : Nat} : ∀ (q p : Path) (T0 : Ty) {o : Ann} {x x1 : den T0} {vs : List Value} {ob : OB} {T T' : Ty} {z : den T} {xs : List (den T')} {wr : Bool} {e : TypeId} {o' : Ann}, Flat P T0 w G B o x vs ob → (annAt o p).pure = true →
  setP T0 p x ⟨T, z⟩ = some x1 → annAt o q = .own wr e o' → getP T0 q x = some ⟨.sl T', xs⟩ → getP T0 q x1 = some ⟨.sl T', xs⟩ ∧ (offT T0 q < offT T0 p ∨ offT T0 p + cellsN T ≤ offT T0 q)
 | [], p, T0, o, x, x1, vs, ob, T, T', z, xs, _, _, _, hF, hs, hset, hq, hg => by
   exfalso
   have : T0 = .sl T' := by
    simp only [getP, Option.some.injEq] at hg
    exact (Sigma.mk.inj hg).1
   subst this
   obtain ⟨y, hy⟩ := setP_getP p _ hset
   cases p with
   | nil =>
     simp only [annAt] at hs hq
     rw [hq] at hs; simp [Ann.pure] at hs
   | cons st p => cases st <;> simp [getP] at hy
 | .l :: q, p, .pair A C, o, x, x1, vs, ob, T, T', z, xs, _, _, _, hF, hs, hset, hq, hg => by
   have hF' := hF
   unfold Flat at hF; obtain ⟨u1, u2, c1, c2, rfl, rfl, h1, h2⟩ := hF
   simp only [getP] at hg
   obtain ⟨y, hy⟩ := setP_getP p _ hset
   match p, hset, hy with
   | [], hset, hy =>
     exfalso
     have := annAt_pure (.l :: q) o hs
     rw [hq] at this; simp [Ann.pure] at this
   | .l :: p, hset, hy =>
     simp only [setP, Option.bind_eq_some_iff, Option.some.injEq] at hset
     obtain ⟨u, hu, rfl⟩ := hset
     simp only [getP, offT]
     exact setP_keepP q p A h1 hs hu hq hg
   | .r :: p, hset, hy =>
     simp only [setP, Option.bind_eq_some_iff, Option.some.injEq] at hset
     obtain ⟨u, hu, rfl⟩ := hset
     simp only [getP, offT]
     refine ⟨hg, .inl ?_⟩
     have := off_le h1 hg
     simp only [cellsN] at this
     omega
   | .ix i :: p, hset, hy => simp [setP] at hset
 | .r :: q, p, .pair A C, o, x, x1, vs, ob, T, T', z, xs, _, _, _, hF, hs, hset, hq, hg => by
   have hF' := hF
   unfold Flat at hF; obtain ⟨u1, u2, c1, c2, rfl, rfl, h1, h2⟩ := hF
   simp only [getP] at hg
   obtain ⟨y, hy⟩ := setP_getP p _ hset
   match p, hset, hy with
   | [], hset, hy =>
     exfalso
     have := annAt_pure (.r :: q) o hs
     rw [hq] at this; simp [Ann.pure] at this
   | .r :: p, hset, hy =>
     simp only [setP, Option.bind_eq_some_iff, Option.some.injEq] at hset
     obtain ⟨u, hu, rfl⟩ := hset
     simp only [getP, offT]
     have := setP_keepP q p C h2 hs hu hq hg
     exact ⟨this.1, by omega⟩
   | .l :: p, hset, hy =>
     simp only [setP, Option.bind_eq_some_iff, Option.some.injEq] at hset
     obtain ⟨u, hu, rfl⟩ := hset
     simp only [getP, offT] at hy ⊢
     refine ⟨hg, .inr ?_⟩
     have := off_le h1 hy
     omega
   | .ix i :: p, hset, hy => simp [setP] at hset
 | .ix i :: q, p, T0, _, _, _, _, _, _, _, _, _, _, _, _, _, _, _, hq, _ => by simp [annAt] at hq
 | .l :: _, _, .int _, _, _, _, _, _, _, _, _, _, _, _, _, _, _, _, _, h | .l :: _, _, .bool, _, _, _, _, _, _, _, _, _, _, _, _, _, _, _, _, h | .l :: _, _, .str, _, _, _, _, _, _, _, _, _, _, _, _, _, _, _, _, h | .l :: _, _, .unit, _, _, _, _, _, _, _, _, _, _, _, _, _, _, _, _, h | .l :: _, _, .sl _, _, _, _, _, _, _, _, _, _, _, _, _, _, _, _, _, h | .l :: _, _, .arr _ _, _, _, _, _, _, _, _, _, _, _, _, _, _, _, _, _, h | .l :: _, _, .fn _ _, _, _, _, _, _, _, _, _, _, _, _, _, _, _, _, _, h => by simp [getP] at h
 | .r :: _, _, .int _, _, _, _, _, _, _, _, _, _, _, _, _, _, _, _, _, h | .r :: _, _, .bool, _, _, _, _, _, _, _, _, _, _, _, _, _, _, _, _, h | .r :: _, _, .str, _, _, _, _, _, _, _, _, _, _, _, _, _, _, _, _, h | .r :: _, _, .unit, _, _, _, _, _, _, _, _, _, _, _, _, _, _, _, _, h | .r :: _, _, .sl _, _, _, _, _, _, _, _, _, _, _, _, _, _, _, _, _, h | .r :: _, _, .arr _ _, _, _, _, _, _, _, _, _, _, _, _, _, _, _, _, _, h | .r :: _, _, .fn _ _, _, _, _, _, _, _, _, _, _, _, _, _, _, _, _, _, h => by simp [getP] at h
theorem annAt_ix : ∀ (p : Path) (o : Ann), hasIx p = true → (annAt o p).pure = true
 | [], _, h => by simp [hasIx] at h
 | .l :: p, o, h => by simp only [hasIx] at h; exact annAt_ix p o.l h
 | .r :: p, o, h => by simp only [hasIx] at h; exact annAt_ix p o.r h
 | .ix _ :: _, _, _ => rfl
theorem Flat.setAnn_self {P : Program} {w : World} {G : Nat → Nat → Prop} {B : Nat} : ∀ (p : Path) (T : Ty) {o : Ann} {x y : den T} {vs : List Value} {ob : OB} {z : TV}, getP T p y = some z → Flat P T w G B (setAnn o p (annAt o p)) x vs ob → Flat P T w G B o x vs ob
 | [], _, _, _, _, _, _, _, _, h => h
 | .ix _ :: _, _, _, _, _, _, _, _, _, h => h
 | .l :: p, .pair A C, o, x, y, vs, ob, z, hg, h => by
   simp only [getP] at hg
   unfold Flat at h ⊢
   obtain ⟨v1, v2, b1, b2, e1, e2, h1, h2⟩ := h
   exact ⟨v1, v2, b1, b2, e1, e2, Flat.setAnn_self p A hg h1, h2⟩
 | .r :: p, .pair A C, o, x, y, vs, ob, z, hg, h => by
   simp only [getP] at hg
   unfold Flat at h ⊢
   obtain ⟨v1, v2, b1, b2, e1, e2, h1, h2⟩ := h
   exact ⟨v1, v2, b1, b2, e1, e2, h1, Flat.setAnn_self p C hg h2⟩
 | .l :: _, .int _, _, _, _, _, _, _, h, _ | .l :: _, .bool, _, _, _, _, _, _, h, _ | .l :: _, .str, _, _, _, _, _, _, h, _ | .l :: _, .unit, _, _, _, _, _, _, h, _ | .l :: _, .sl _, _, _, _, _, _, _, h, _ | .l :: _, .arr _ _, _, _, _, _, _, _, h, _ | .l :: _, .fn _ _, _, _, _, _, _, _, h, _ => by simp [getP] at h
 | .r :: _, .int _, _, _, _, _, _, _, h, _ | .r :: _, .bool, _, _, _, _, _, _, h, _ | .r :: _, .str, _, _, _, _, _, _, h, _ | .r :: _, .unit, _, _, _, _, _, _, h, _ | .r :: _, .sl _, _, _, _, _, _, _, h, _ | .r :: _, .arr _ _, _, _, _, _, _, _, h, _ | .r :: _, .fn _ _, _, _, _, _, _, _, h, _ => by simp [getP] at h
section
variable {P : Program} {B : Nat} {G0 : Nat → Nat → Prop} {W0 : World} {n : Nat} {env : Env} {tm : Array Value} {a : Act} {w : World} {ob : Nat → OB} {cl : Cal}
variable {R : Type} {K : Kont R} {r : R} {next : Act → World → Prop} {Q : Exit → Act → World → Prop} {o : Oper} {i : AI}
theorem Below.setRow {b : Nat} (hb : B ≤ b) (cs : Array Value) : Below B w (w.setRow b cs) :=
 ⟨rfl, rfl, rfl, by simp, fun k hk => setRow_other w b k cs (by omega)⟩
theorem Conc.touch (hC : Conc P B G0 W0 n env tm w ob) {s b : Nat} (hb : (b, 0) ∈ ob s) (cs : Array Value) {e : E} (hhome : HomeEq w tm env (w.setRow b cs) tm ((s, e) :: env) s)
  (hnew : ERep P (w.setRow b cs) (Gd B G0 ob) B tm ((s, e) :: env) e (tm.getD s undef) (ob s)) : Conc P B G0 W0 n ((s, e) :: env) tm (w.setRow b cs) ob := by
 have hlow := hC.low s b (mem_blocks.2 ⟨_, hb⟩)
 refine Conc.step hC (Below.setRow hlow.1 cs) (fun b' i _ h => ⟨h, ?_⟩) (fun j => ?_) hC.dist hC.nodup (fun k b' hb' => by rw [setRow_size]; exact hC.low k b' hb') hC.size
 ·refine cell_setRow_other w b cs _ ?_
  rintro rfl
  rcases h with ⟨h, _⟩ | ⟨_, h⟩
  ·exact absurd h (by have := hlow.1; simp at this ⊢; omega)
  ·exact absurd (h s 0 hb) (by simp)
 ·by_cases hj : j = s
  ·subst hj; right; rw [look_cons, if_pos rfl]; exact hnew
  ·left
   rw [look_cons, if_neg (Ne.symm hj)]
   refine ⟨rfl, rfl, rfl, fun g hg => setRow_other w b g cs ?_, fun t ht => ?_⟩
   ·rintro rfl; exact hj (hC.dist j s _ hg (mem_blocks.2 ⟨_, hb⟩))
   ·by_cases hts : t = s
    ·subst hts; exact hhome
    ·refine HomeEq.same (P := P) (by rw [look_cons, if_neg (Ne.symm hts)]) rfl (hC.rep t) (fun g hg => setRow_other w b g cs ?_)
     rintro rfl; exact hts (hC.dist t s _ hg (mem_blocks.2 ⟨_, hb⟩))
theorem take_drop_mid {v1 v2 v3 u : List Value} (h : u.length = v2.length) : (v1 ++ v2 ++ v3).take v1.length ++ u ++ (v1 ++ v2 ++ v3).drop (v1.length + u.length) = v1 ++ u ++ v3 := by
 rw [h]; simp [List.drop_append]
theorem store_scal (hC : Conc P B G0 W0 n env tm w ob) {s : Nat} {T0 T : Ty} {oa : Ann} {x0 x1 : den T0} {p : Path} {z : den T} {vs : List Value} (hs : look env s = .loc T0 oa x0) (hsc : scalarT T = true) (hset : setP T0 p x0 ⟨T, z⟩ = some x1)
  (hz : Flat P T w (fun _ _ => True) B .no z vs []) : ∃ b cur e, tm.getD s undef = .pointer (some ⟨b, 0, none⟩) ∧ w.heap[b]? = some (.cells cur e (0, 0)) ∧ offT T0 p + vs.length ≤ cur.size ∧
   Conc P B G0 W0 n ((s, .loc T0 oa x1) :: env) tm (w.setRow b (cur.toList.take (offT T0 p) ++ vs ++ cur.toList.drop (offT T0 p + vs.length)).toArray) ob := by
 obtain ⟨y, hy⟩ := setP_getP p T0 hset
 obtain ⟨b, cur, e, v1, v2, v3, b1, b2, b3, k1, k2, k3, k4, k5, k6, k7, k8⟩ := loc_part (a := ⟨tm, []⟩) hC hs hy
 have hlv : vs.length = v2.length := by rw [Flat.len P T hz, Flat.len P T k7]
 obtain ⟨hb2, _⟩ := Flat.scal P T hsc k7
 subst hb2
 have hz' : Flat P T w (Gd B G0 ob) B (annAt oa p) z vs [] := (Flat.scal P T hsc hz).2 _ _ _ _
 have hnew := k8 _ z vs [] x1 (fun h => annAt_ix p oa h) hz' hset
 have hnew := Flat.setAnn_self p T0 hy hnew
 have hcs : (cur.toList.take (offT T0 p) ++ vs ++ cur.toList.drop (offT T0 p + vs.length)) = v1 ++ vs ++ v3 := by
  rw [k4, ← k5]; exact take_drop_mid hlv
 have hb0 : (b, 0) ∈ ob s := by rw [k6]; simp
 refine ⟨b, cur, e, k1, k2, ?_, ?_⟩
 ·have : cur.size = cur.toList.length := by simp
  rw [this, k4, ← k5, hlv]; simp
 ·rw [hcs]
  have hr := hC.rep s
  rw [hs] at hr
  obtain ⟨b', cur', e', ob', l1, l2, l3, l4, l5⟩ := hr
  rw [show tm.getD s undef = _ from k1] at l1; cases l1
  rw [k2] at l3; cases l3
  refine Conc.touch hC hb0 _ ⟨fun q v hq hv => ?_, fun q h hq => ?_, fun T o x hx => ?_⟩ ?_
  ·simp only [headAt, hs, k1] at hv
   simp only [headAt]; rw [look_cons, if_pos rfl]; simp only [k1]
   simp only [heldAt, hs] at hq
   split at hq
   ·rename_i wr ed o' T' xs ha hg
    have hk := setP_keep q p T0 l4 hsc hset (annAt_own_noIx q oa ha) hg
    have hle := off_le l4 hg
    rw [cell_setRow_same w b _ cur _ e (0, 0) k2, ← hv, cell_of_row w b _ cur e (0, 0) k2]
    have hcur : ∀ j, cur[j]? = (v1 ++ v2 ++ v3)[j]? := fun j => by rw [← Array.getElem?_toList, k4]
    rw [hcur]
    simp only [List.getElem?_toArray]
    rcases hk.2 with hlt | hge
    ·rw [← k5] at hlt
     rw [List.append_assoc, List.getElem?_append_left hlt, List.append_assoc, List.getElem?_append_left hlt]
    ·rw [← k5] at hge
     have hl2 := Flat.len P T hz
     rw [List.append_assoc, List.getElem?_append_right (by omega), List.getElem?_append_right (by omega), List.append_assoc, List.getElem?_append_right (by omega), List.getElem?_append_right (by omega), hlv]
   ·simp at hq
  ·simp only [heldAt, hs] at hq
   simp only [heldAt]; rw [look_cons, if_pos rfl]
   simp only
   split at hq
   ·rename_i wr ed o' T' xs ha hg
    simp only [Option.some.injEq] at hq; subst hq
    have hk := setP_keep q p T0 l4 hsc hset (annAt_own_noIx q oa ha) hg
    exact ⟨_, by rw [ha, hk.1], rfl, rfl⟩
   ·simp at hq
  ·rw [hs] at hx; cases hx
   exact ⟨_, _, by rw [look_cons, if_pos rfl], rfl⟩
  ·refine ⟨b, _, e, b1 ++ [] ++ b3, k1, k3, setRow_heap w b cur _ e (0, 0) k2, ?_, k6⟩
   have hnd := hC.nodup s
   rw [k6] at hnd
   simp only [blocks_cons, List.nodup_cons] at hnd
   refine Flat.mono P T0 (fun b' i hb' h => ⟨h, ?_⟩) ⟨by simp, fun k hk => setRow_other w b k _ (by omega)⟩ (fun g hg => setRow_other w b g _ ?_) hnew
   ·refine cell_setRow_other w b _ _ ?_
    rintro rfl
    rcases h with ⟨h, _⟩ | ⟨_, h⟩
    ·exact absurd h (by simp; omega)
    ·exact absurd (h s 0 hb0) (by simp)
   ·rintro rfl; exact hnd.1 hg
theorem store_pure (hC : Conc P B G0 W0 n env tm w ob) {s : Nat} {T0 T : Ty} {oa : Ann} {x0 x1 : den T0} {p : Path} {z : den T} {vs : List Value} (hs : look env s = .loc T0 oa x0) (hsc : (annAt oa p).pure = true) (hset : setP T0 p x0 ⟨T, z⟩ = some x1)
  (hz : Flat P T w (Gd B G0 ob) B .no z vs []) : ∃ b cur e, tm.getD s undef = .pointer (some ⟨b, 0, none⟩) ∧ w.heap[b]? = some (.cells cur e (0, 0)) ∧ offT T0 p + vs.length ≤ cur.size ∧
   Conc P B G0 W0 n ((s, .loc T0 oa x1) :: env) tm (w.setRow b (cur.toList.take (offT T0 p) ++ vs ++ cur.toList.drop (offT T0 p + vs.length)).toArray) ob := by
 obtain ⟨y, hy⟩ := setP_getP p T0 hset
 obtain ⟨b, cur, e, v1, v2, v3, b1, b2, b3, k1, k2, k3, k4, k5, k6, k7, k8⟩ := loc_part (a := ⟨tm, []⟩) hC hs hy
 have hlv : vs.length = v2.length := by rw [Flat.len P T hz, Flat.len P T k7]
 have hb2 := (Flat.pure P T hsc (o' := .no) rfl k7).1
 subst hb2
 have hz' : Flat P T w (Gd B G0 ob) B (annAt oa p) z vs [] := (Flat.pure P T (o := .no) rfl hsc hz).2
 have hnew := k8 _ z vs [] x1 (fun h => annAt_ix p oa h) hz' hset
 have hnew := Flat.setAnn_self p T0 hy hnew
 have hcs : (cur.toList.take (offT T0 p) ++ vs ++ cur.toList.drop (offT T0 p + vs.length)) = v1 ++ vs ++ v3 := by
  rw [k4, ← k5]; exact take_drop_mid hlv
 have hb0 : (b, 0) ∈ ob s := by rw [k6]; simp
 refine ⟨b, cur, e, k1, k2, ?_, ?_⟩
 ·have : cur.size = cur.toList.length := by simp
  rw [this, k4, ← k5, hlv]; simp
 ·rw [hcs]
  have hr := hC.rep s
  rw [hs] at hr
  obtain ⟨b', cur', e', ob', l1, l2, l3, l4, l5⟩ := hr
  rw [show tm.getD s undef = _ from k1] at l1; cases l1
  rw [k2] at l3; cases l3
  refine Conc.touch hC hb0 _ ⟨fun q v hq hv => ?_, fun q h hq => ?_, fun T o x hx => ?_⟩ ?_
  ·simp only [headAt, hs, k1] at hv
   simp only [headAt]; rw [look_cons, if_pos rfl]; simp only [k1]
   simp only [heldAt, hs] at hq
   split at hq
   ·rename_i wr ed o' T' xs ha hg
    have hk := setP_keepP q p T0 l4 hsc hset ha hg
    have hle := off_le l4 hg
    rw [cell_setRow_same w b _ cur _ e (0, 0) k2, ← hv, cell_of_row w b _ cur e (0, 0) k2]
    have hcur : ∀ j, cur[j]? = (v1 ++ v2 ++ v3)[j]? := fun j => by rw [← Array.getElem?_toList, k4]
    rw [hcur]
    simp only [List.getElem?_toArray]
    rcases hk.2 with hlt | hge
    ·rw [← k5] at hlt
     rw [List.append_assoc, List.getElem?_append_left hlt, List.append_assoc, List.getElem?_append_left hlt]
    ·rw [← k5] at hge
     have hl2 := Flat.len P T hz
     rw [List.append_assoc, List.getElem?_append_right (by omega), List.getElem?_append_right (by omega), List.append_assoc, List.getElem?_append_right (by omega), List.getElem?_append_right (by omega), hlv]
   ·simp at hq
  ·simp only [heldAt, hs] at hq
   simp only [heldAt]; rw [look_cons, if_pos rfl]
   simp only
   split at hq
   ·rename_i wr ed o' T' xs ha hg
    simp only [Option.some.injEq] at hq; subst hq
    have hk := setP_keepP q p T0 l4 hsc hset ha hg
    exact ⟨_, by rw [ha, hk.1], rfl, rfl⟩
   ·simp at hq
  ·rw [hs] at hx; cases hx
   exact ⟨_, _, by rw [look_cons, if_pos rfl], rfl⟩
  ·refine ⟨b, _, e, b1 ++ [] ++ b3, k1, k3, setRow_heap w b cur _ e (0, 0) k2, ?_, k6⟩
   have hnd := hC.nodup s
   rw [k6] at hnd
   simp only [blocks_cons, List.nodup_cons] at hnd
   refine Flat.mono P T0 (fun b' i hb' h => ⟨h, ?_⟩) ⟨by simp, fun k hk => setRow_other w b k _ (by omega)⟩ (fun g hg => setRow_other w b g _ ?_) hnew
   ·refine cell_setRow_other w b _ _ ?_
    rintro rfl
    rcases h with ⟨h, _⟩ | ⟨_, h⟩
    ·exact absurd h (by simp; omega)
    ·exact absurd (h s 0 hb0) (by simp)
   ·rintro rfl; exact hnd.1 hg
def obNew (ob : Nat → OB) (s : Nat) (k : Option Nat) (bs : OB) (j : Nat) : OB := if j = s then bs else if k = some j then [] else ob j
theorem obNew_s (s : Nat) (k : Option Nat) (bs : OB) : obNew ob s k bs s = bs := by simp [obNew]
theorem obNew_k {s : Nat} {k : Option Nat} {j : Nat} (bs : OB) (h : j ≠ s) (hk : k = some j) : obNew ob s k bs j = [] := by simp [obNew, h, hk]
theorem obNew_o {s : Nat} {k : Option Nat} {j : Nat} (bs : OB) (h : j ≠ s) (hk : k ≠ some j) : obNew ob s k bs j = ob j := by simp [obNew, h, hk]
theorem store_into (hC : Conc P B G0 W0 n env tm w ob) {s : Nat} {T0 T : Ty} {oa o2 : Ann} {x0 x1 : den T0} {p : Path} {z : den T} {vs : List Value} {k : Option Nat} {c : OB} {env1 : Env} (hs : look env s = .loc T0 oa x0) (hset : setP T0 p x0 ⟨T, z⟩ = some x1)
  (hks : ∀ j, k = some j → j ≠ s) (hc : c = match k with | some j => ob j | none => []) (hix : hasIx p = true → o2.pure = true) (hz : Flat P T w (Gd B G0 ob) B o2 z vs c)
  (hl : ∀ j, j ≠ s → (k = some j ∧ look env1 j = .ref s p ∧ vs = [tm.getD j undef] ∧ (heldAt ((s, .loc T0 (setAnn oa p o2) x1) :: env1) s p).isSome = true) ∨
   (k ≠ some j ∧ ((look env1 j = .dead ∧ ∃ t, leads t (look env j) = true) ∨ (look env1 j = look env j ∧ shows s (look env j) = false ∧ ∀ t, k = some t → leads t (look env j) = false)))) :
  ∃ b cur e, tm.getD s undef = .pointer (some ⟨b, 0, none⟩) ∧ w.heap[b]? = some (.cells cur e (0, 0)) ∧ offT T0 p + vs.length ≤ cur.size ∧
    ∃ ob', Conc P B G0 W0 n ((s, .loc T0 (setAnn oa p o2) x1) :: env1) tm (w.setRow b (cur.toList.take (offT T0 p) ++ vs ++ cur.toList.drop (offT T0 p + vs.length)).toArray) ob' := by
 obtain ⟨y, hy⟩ := setP_getP p T0 hset
 obtain ⟨b, cur, e, v1, v2, v3, b1, b2, b3, k1, k2, k3, k4, k5, k6, k7, k8⟩ := loc_part (a := ⟨tm, []⟩) hC hs hy
 have hlv : vs.length = v2.length := by rw [Flat.len P T hz, Flat.len P T k7]
 have hnew := k8 _ z vs c x1 hix hz hset
 have hcs : (cur.toList.take (offT T0 p) ++ vs ++ cur.toList.drop (offT T0 p + vs.length)) = v1 ++ vs ++ v3 := by
  rw [k4, ← k5]; exact take_drop_mid hlv
 have hb0 : (b, 0) ∈ ob s := by rw [k6]; simp
 refine ⟨b, cur, e, k1, k2, ?_, ?_⟩
 ·have : cur.size = cur.toList.length := by simp
  rw [this, k4, ← k5, hlv]; simp
 rw [hcs]
 -- the records
 have hck : ∀ q, q ∈ c → ∃ t, k = some t ∧ t ≠ s ∧ q ∈ ob t := by
  intro q hq
  cases k with
  | none => rw [hc] at hq; exact absurd hq (by simp)
  | some t => rw [hc] at hq; exact ⟨t, rfl, hks t rfl, hq⟩
 have hcd : ∀ x, x ∈ blocks c → ∃ t, k = some t ∧ t ≠ s ∧ x ∈ blocks (ob t) := by
  intro x hx
  obtain ⟨l, hx⟩ := mem_blocks.1 hx
  obtain ⟨t, h1, h2, h3⟩ := hck _ hx
  exact ⟨t, h1, h2, mem_blocks.2 ⟨l, h3⟩⟩
 have hnd := hC.nodup s
 rw [k6] at hnd
 simp only [blocks_cons, blocks_append, List.nodup_cons] at hnd
 have hcn : (blocks c).Nodup := by
  cases k with
  | none => rw [hc]; simp
  | some t => rw [hc]; exact hC.nodup t
 have hcs' : ∀ x, x ∈ blocks c → x ∉ blocks (ob s) := by
  intro x hx hx'
  obtain ⟨t, _, h2, h3⟩ := hcd x hx
  exact h2 (hC.dist t s x h3 hx')
 have hbn : b ∉ blocks (b1 ++ c ++ b3) := by
  intro h
  simp only [blocks_append, List.mem_append] at h hnd
  rcases h with (h | h) | h
  ·exact hnd.1 (.inl (.inl h))
  ·exact hcs' b h (mem_blocks.2 ⟨0, hb0⟩)
  ·exact hnd.1 (.inr h)
 have from_ : ∀ j q, q ∈ obNew ob s k ((b, 0) :: (b1 ++ c ++ b3)) j → (j = s ∧ (q ∈ ob s ∨ q ∈ c)) ∨ (j ≠ s ∧ k ≠ some j ∧ q ∈ ob j) := by
  intro j q hq
  by_cases h : j = s
  ·subst h
   rw [obNew_s] at hq
   refine .inl ⟨rfl, ?_⟩
   simp only [List.mem_cons, List.mem_append] at hq
   rw [k6]
   simp only [List.mem_cons, List.mem_append]
   rcases hq with h | (h | h) | h
   ·exact .inl (.inl h)
   ·exact .inl (.inr (.inl (.inl h)))
   ·exact .inr h
   ·exact .inl (.inr (.inr h))
  ·by_cases h2 : k = some j
   ·rw [obNew_k _ h h2] at hq; exact absurd hq (by simp)
   ·rw [obNew_o _ h h2] at hq; exact .inr ⟨h, h2, hq⟩
 have src : ∀ j q, q ∈ obNew ob s k ((b, 0) :: (b1 ++ c ++ b3)) j → ∃ j', q ∈ ob j' ∧ ((j = s ∧ (j' = s ∨ k = some j')) ∨ (j ≠ s ∧ k ≠ some j ∧ j' = j)) := by
  intro j q hq
  rcases from_ j q hq with ⟨h1, h2 | h2⟩ | ⟨h1, h2, h3⟩
  ·exact ⟨s, h2, .inl ⟨h1, .inl rfl⟩⟩
  ·obtain ⟨t, h3, _, h4⟩ := hck q h2
   exact ⟨t, h4, .inl ⟨h1, .inr h3⟩⟩
  ·exact ⟨j, h3, .inr ⟨h1, h2, rfl⟩⟩
 have hGd : ∀ b' i, Gd B G0 ob b' i → Gd B G0 (obNew ob s k ((b, 0) :: (b1 ++ c ++ b3))) b' i := fun b' i h =>
  Gd_sub (fun j x lim hj => by obtain ⟨j', h1, _⟩ := src j _ hj; exact ⟨j', lim, h1, Nat.le_refl _⟩) h
 have hcell : ∀ b' i, Gd B G0 ob b' i → (w.setRow b (v1 ++ vs ++ v3).toArray).cell? ⟨b', i, none⟩ = w.cell? ⟨b', i, none⟩ := by
  intro b' i h
  refine cell_setRow_other w b _ _ ?_
  rintro rfl
  rcases h with ⟨h, _⟩ | ⟨_, h⟩
  ·exact absurd h (by simp; omega)
  ·exact absurd (h s 0 hb0) (by simp)
 refine ⟨obNew ob s k ((b, 0) :: (b1 ++ c ++ b3)), Conc.step hC (Below.setRow k3 _) (fun b' i _ h => ⟨hGd b' i h, hcell b' i h⟩) (fun j => ?_) ?_ ?_ ?_ hC.size⟩
 ·by_cases hj : j = s
  ·subst hj
   right
   rw [look_cons, if_pos rfl, obNew_s]
   refine ⟨b, _, e, b1 ++ c ++ b3, k1, k3, setRow_heap w b cur _ e (0, 0) k2, ?_, rfl⟩
   refine Flat.mono P T0 (fun b' i _ h => ⟨hGd b' i h, hcell b' i h⟩) ⟨by simp, fun t ht => setRow_other w b t _ (by omega)⟩ (fun g hg => setRow_other w b g _ ?_) hnew
   rintro rfl; exact hbn hg
  ·rcases hl j hj with ⟨h1, h2, h3, h4⟩ | ⟨h1, ⟨h2, t, h3⟩ | ⟨h2, h3, h4⟩⟩
   ·right
    rw [look_cons, if_neg (Ne.symm hj), h2, obNew_k _ hj h1]
    refine ⟨rfl, ?_, h4⟩
    simp only [headAt]; rw [look_cons, if_pos rfl]; simp only [k1]
    rw [cell_setRow_same w b _ cur _ e (0, 0) k2, h3, ← k5]
    simp
   ·right
    rw [look_cons, if_neg (Ne.symm hj), h2, obNew_o _ hj h1]
    exact (ERep.leads h3 (hC.rep j)).2
   ·have hbj : ∀ g ∈ blocks (ob j), (w.setRow b (v1 ++ vs ++ v3).toArray).heap[g]? = w.heap[g]? := by
     intro g hg
     refine setRow_other w b g _ ?_
     rintro rfl; exact hj (hC.dist j s _ hg (mem_blocks.2 ⟨_, hb0⟩))
    by_cases hld : leads s (look env j) = true
    ·right
     rw [look_cons, if_neg (Ne.symm hj), h2, obNew_o _ hj h1]
     have hr := hC.rep j
     cases hej : look env j with
     | ptr s' q =>
       rw [hej] at hr hld
       simp only [leads, beq_iff_eq] at hld; subst hld
       obtain ⟨m0, T', o', x', b', m1, m2, m3, m4⟩ := hr
       rw [hs] at m1; cases m1
       exact ⟨m0, T0, _, _, b', by rw [look_cons, if_pos rfl], m2, m3, m4⟩
     | _ =>
       rw [hej] at hld h3
       exact absurd (h3.symm.trans hld) (by simp)
    ·left
     rw [look_cons, if_neg (Ne.symm hj), obNew_o _ hj h1]
     refine ⟨h2, rfl, rfl, hbj, fun t ht => ?_⟩
     have hts : t ≠ s := by rintro rfl; exact hld ht
     have hhome := (ERep.leads ht (hC.rep j)).1
     have htk : k ≠ some t := by intro h; rw [h4 t h] at ht; exact absurd ht (by simp)
     refine HomeEq.same (P := P) ?_ rfl (hC.rep t) (fun g hg => setRow_other w b g _ ?_)
     ·rw [look_cons, if_neg (Ne.symm hts)]
      rcases hl t hts with ⟨m1, _⟩ | ⟨_, ⟨_, t', m3⟩ | ⟨m2, _⟩⟩
      ·exact absurd m1 htk
      ·rw [leads_home hhome] at m3; exact absurd m3 (by simp)
      ·exact m2
     ·rintro rfl; exact hts (hC.dist t s _ hg (mem_blocks.2 ⟨_, hb0⟩))
 ·intro i j x hi hj
  obtain ⟨l1, hi⟩ := mem_blocks.1 hi
  obtain ⟨l2, hj⟩ := mem_blocks.1 hj
  obtain ⟨i', h1, h2⟩ := src i _ hi
  obtain ⟨j', h3, h4⟩ := src j _ hj
  have := hC.dist i' j' x (mem_blocks.2 ⟨_, h1⟩) (mem_blocks.2 ⟨_, h3⟩)
  subst this
  rcases h2 with ⟨rfl, h2⟩ | ⟨h2, h5, rfl⟩ <;> rcases h4 with ⟨rfl, h4⟩ | ⟨h4, h6, rfl⟩
  ·rfl
  ·rcases h2 with h2 | h2
   ·exact h2.symm
   ·exact absurd h2 h6
  ·rcases h4 with h4 | h4
   ·exact h4
   ·exact absurd h4 h5
  ·rfl
 ·intro j
  by_cases h : j = s
  ·subst h
   rw [obNew_s]
   simp only [blocks_cons, List.nodup_cons]
   refine ⟨hbn, ?_⟩
   simp only [blocks_append]
   obtain ⟨h1, h2⟩ := hnd
   rw [List.nodup_append] at h2 ⊢
   obtain ⟨h3, h4, h5⟩ := h2
   rw [List.nodup_append] at h3 ⊢
   refine ⟨⟨h3.1, hcn, fun x hx y hy hxy => ?_⟩, h4, fun x hx y hy hxy => ?_⟩
   ·subst hxy
    refine hcs' x hy ?_
    rw [k6]; simp only [blocks_cons, blocks_append, List.mem_cons, List.mem_append]; exact .inr (.inl (.inl hx))
   ·subst hxy
    rcases List.mem_append.1 hx with hx | hx
    ·exact h5 x (List.mem_append_left _ hx) x hy rfl
    ·refine hcs' x hx ?_
     rw [k6]; simp only [blocks_cons, blocks_append, List.mem_cons, List.mem_append]; exact .inr (.inr hy)
  ·by_cases h2 : k = some j
   ·rw [obNew_k _ h h2]; simp
   ·rw [obNew_o _ h h2]; exact hC.nodup j
 ·intro j x hx
  obtain ⟨l, hx⟩ := mem_blocks.1 hx
  obtain ⟨j', h1, _⟩ := src j _ hx
  rw [setRow_size]
  exact hC.low j' x (mem_blocks.2 ⟨_, h1⟩)
theorem setP_same : ∀ (p : Path) (T : Ty) {x x1 : den T} {T' : Ty} {z : den T'}, hasIx p = false → setP T p x ⟨T', z⟩ = some x1 → getP T p x1 = some ⟨T', z⟩
 | [], T, x, x1, T', z, _, h => by
   simp only [setP] at h
   have := cast?_some h; cases this
   cases T <;> rfl
 | .l :: p, .pair A C, x, x1, T', z, hp, h => by
   simp only [setP, Option.bind_eq_some_iff, Option.some.injEq] at h; obtain ⟨u, h, rfl⟩ := h
   simp only [getP]; exact setP_same p A hp h
 | .r :: p, .pair A C, x, x1, T', z, hp, h => by
   simp only [setP, Option.bind_eq_some_iff, Option.some.injEq] at h; obtain ⟨u, h, rfl⟩ := h
   simp only [getP]; exact setP_same p C hp h
 | .ix _ :: _, _, _, _, _, _, hp, _ => by simp [hasIx] at hp
 | .l :: _, .int _, _, _, _, _, _, h | .l :: _, .bool, _, _, _, _, _, h | .l :: _, .str, _, _, _, _, _, h | .l :: _, .unit, _, _, _, _, _, h | .l :: _, .sl _, _, _, _, _, _, h | .l :: _, .arr _ _, _, _, _, _, _, h | .l :: _, .fn _ _, _, _, _, _, _, h => by simp [setP] at h
 | .r :: _, .int _, _, _, _, _, _, h | .r :: _, .bool, _, _, _, _, _, h | .r :: _, .str, _, _, _, _, _, h | .r :: _, .unit, _, _, _, _, _, h | .r :: _, .sl _, _, _, _, _, _, h | .r :: _, .arr _ _, _, _, _, _, _, h | .r :: _, .fn _ _, _, _, _, _, _, h => by simp [setP] at h
theorem annAt_set : ∀ (p : Path) (o b : Ann), hasIx p = false → annAt (setAnn o p b) p = b
 | [], _, _, _ => rfl
 | .l :: p, o, b, h => annAt_set p o.l b h
 | .r :: p, o, b, h => annAt_set p o.r b h
 | .ix _ :: _, _, _, h => by simp [hasIx] at h
theorem pub_scal {x : Od} {env' : Env} {T : Ty} {z : den T} (h : pub env x = some (env', ⟨T, z⟩)) (hs : scalarT T = true) : env' = env := by
 unfold pub at h
 simp only [Option.bind_eq_some_iff, Option.some.injEq, Prod.mk.injEq] at h
 obtain ⟨y, h1, h2, rfl⟩ := h
 unfold imm at h1
 split at h1
 ·rename_i T' x' he
  rw [he] at h2; exact h2.symm
 ·split at h1
  ·simp only [Option.some.injEq] at h1; cases h1; simp [scalarT] at hs
  ·simp at h1
 ·simp only [Option.bind_eq_some_iff] at h1
  obtain ⟨hh, _, h1⟩ := h1
  split at h1
  ·simp only [Option.some.injEq] at h1; cases h1; simp [scalarT] at hs
  ·simp at h1
 ·simp at h1
theorem store_elem (hC : Conc P B G0 W0 n env tm w ob) {s : Nat} {e : TypeId} {T0 T : Ty} {oa : Ann} {xs : List (den T0)} {j : Nat} {q : Path} {z : den T} {u : den T0} {vs : List Value} (hs : look env s = .own true e T0 oa xs) (ho : oa.pure = true) (hj : j < xs.length)
  (hset : setP T0 q (xs.getD j (zero T0)) ⟨T, z⟩ = some u) (hz : Flat P T w (Gd B G0 ob) B .no z vs []) :
  ∃ g cap cur e' fz, tm.getD s undef = .slice (some ⟨g, 0, none⟩) xs.length cap ∧ w.heap[g]? = some (.cells cur e' fz) ∧ frzOk fz cur.size ∧ (j * cellsN T0 + offT T0 q) + vs.length ≤ cur.size ∧
    Conc P B G0 W0 n ((s, .own true e T0 oa (xs.set j u)) :: env) tm (w.setRow g (cur.toList.take (j * cellsN T0 + offT T0 q) ++ vs ++ cur.toList.drop ((j * cellsN T0 + offT T0 q) + vs.length)).toArray) ob := by
 have hr := hC.rep s
 rw [hs] at hr
 change Flat P (.sl T0) w (Gd B G0 ob) B (.own true e oa) xs [tm.getD s undef] (ob s) at hr
 unfold Flat at hr
 obtain ⟨v', cells, ob', e1, hrow, hel, hob⟩ := hr
 simp only [List.cons.injEq, and_true] at e1
 subst e1
 obtain ⟨hobn, hel0⟩ := Elems.pure P (o' := .no) ho rfl hel
 subst hobn
 have hrow' := hrow
 rcases hrow.2 with ⟨_, hn⟩ | ⟨g, cap, cur, e1, fz, hv, hBg, hg, hnc, hcm, hcs, htake, hbf, hfz⟩
 ·omega
 have hg0 : (g, 0) ∈ ob s := by rw [hob, hv]; simp [obOf, Value.ownBlock]
 obtain ⟨y, hy⟩ := setP_getP q T0 hset
 obtain ⟨v1, v2, v3, c1, c2, c3, f1, f2, f3, f4, f5⟩ := Elems.split (fun x v b hx => Flat.len P _ hx) j (zero T0) hel0 hj
 obtain ⟨u1, u2, u3, d1, d2, d3, g1, g2, g3, g4, g5⟩ := Flat.lens P q T0 f4 hy
 have hlv : vs.length = u2.length := by rw [Flat.len P T hz, Flat.len P T g4]
 have hc : c1 = [] ∧ c2 = [] ∧ c3 = [] := by
  have : c1 ++ c2 ++ c3 = [] := f2.symm
  simp at this; exact ⟨this.1, this.2.1, this.2.2⟩
 obtain ⟨rfl, rfl, rfl⟩ := hc
 have hd : d1 = [] ∧ d2 = [] ∧ d3 = [] := by
  have : d1 ++ d2 ++ d3 = [] := g2.symm
  simp at this; exact ⟨this.1, this.2.1, this.2.2⟩
 obtain ⟨rfl, rfl, rfl⟩ := hd
 have hnew := f5 u (u1 ++ vs ++ u3) [] (by
  have := g5 .no z vs [] u (fun _ => rfl) hz hset
  exact (Flat.pure P T0 (setAnn_pure q .no .no rfl rfl) (o' := .no) rfl this).2)
 have hcur : cur.toList = (v1 ++ u1) ++ u2 ++ (u3 ++ v3 ++ cur.toList.drop (xs.length * cellsN T0)) := by
  rw [← List.take_append_drop (xs.length * cellsN T0) cur.toList, htake, f1, g1]
  have : (v1 ++ (u1 ++ u2 ++ u3) ++ v3).length = xs.length * cellsN T0 := by rw [← g1, ← f1]; exact hrow.1
  have h2 : (v1 ++ (u1 ++ u2 ++ u3) ++ v3 ++ cur.toList.drop (xs.length * cellsN T0)).drop (xs.length * cellsN T0) = cur.toList.drop (xs.length * cellsN T0) := by
   rw [← this, List.drop_left]
  rw [h2]
  simp only [List.append_assoc]
 have hoff : (v1 ++ u1).length = j * cellsN T0 + offT T0 q := by rw [List.length_append, f3, g3]
 have hcs2 : (cur.toList.take (j * cellsN T0 + offT T0 q) ++ vs ++ cur.toList.drop ((j * cellsN T0 + offT T0 q) + vs.length)) = (v1 ++ u1) ++ vs ++ (u3 ++ v3 ++ cur.toList.drop (xs.length * cellsN T0)) := by
  rw [← hoff]
  have := take_drop_mid (v1 := v1 ++ u1) (v3 := u3 ++ v3 ++ cur.toList.drop (xs.length * cellsN T0)) hlv
  rw [← hcur] at this
  exact this
 refine ⟨g, cap, cur, e1, fz, hv, hg, hfz, ?_, ?_⟩
 ·have : cur.size = cur.toList.length := by simp
  rw [this, hcur, ← hoff, hlv]; simp only [List.length_append]; omega
 rw [hcs2]
 have hlow := hC.low s g (mem_blocks.2 ⟨_, hg0⟩)
 refine Conc.touch hC hg0 _ ⟨fun q v hq hv => ?_, fun q h hq => ?_, fun T o x hx => ?_⟩ ?_
 ·simp only [headAt, hs] at hv
  simp only [headAt]; rw [look_cons, if_pos rfl]; exact hv
 ·simp only [heldAt, hs] at hq
  simp only [heldAt]; rw [look_cons, if_pos rfl]
  cases q with
  | nil => simp only [Option.some.injEq] at hq; subst hq; exact ⟨_, rfl, rfl, by simp⟩
  | cons => exact absurd hq (by simp)
 ·rw [hs] at hx; exact absurd hx (by simp)
 ·have hcell : ∀ b' i, Gd B G0 ob b' i → (w.setRow g ((v1 ++ u1) ++ vs ++ (u3 ++ v3 ++ cur.toList.drop (xs.length * cellsN T0))).toArray).cell? ⟨b', i, none⟩ = w.cell? ⟨b', i, none⟩ := by
   intro b' i h
   refine cell_setRow_other w g _ _ ?_
   rintro rfl
   rcases h with ⟨h, _⟩ | ⟨_, h⟩
   ·exact absurd h (by simp; omega)
   ·exact absurd (h s 0 hg0) (by simp)
  have hlen2 : (v1 ++ (u1 ++ vs ++ u3) ++ v3).length = xs.length * cellsN T0 := by
   have h1 : cells.length = xs.length * cellsN T0 := hrow.1
   rw [f1, g1] at h1
   simp only [List.length_append] at h1 ⊢
   omega
  show Flat P (.sl T0) _ (Gd B G0 ob) B (.own true e oa) (xs.set j u) [tm.getD s undef] (ob s)
  unfold Flat
  refine ⟨_, v1 ++ (u1 ++ vs ++ u3) ++ v3, [], rfl, ⟨by rw [List.length_set]; exact hlen2, .inr ⟨g, cap, _, e1, fz, by rw [List.length_set]; exact hv, hBg, setRow_heap w g cur _ e1 fz hg, by rw [List.length_set]; exact hnc, hcm, ?_, ?_, hbf, ?_⟩⟩, ?_, ?_⟩
  ·rw [← hcs]
   have h1 : cur.size = cur.toList.length := by simp
   have h2 := congrArg List.length hcur
   rw [h1, h2]
   simp only [List.size_toArray, List.length_append]; omega
  ·simp only [List.length_set]
   have h1 : (v1 ++ u1) ++ vs ++ (u3 ++ v3 ++ cur.toList.drop (xs.length * cellsN T0)) = (v1 ++ (u1 ++ vs ++ u3) ++ v3) ++ cur.toList.drop (xs.length * cellsN T0) := by simp only [List.append_assoc]
   rw [h1, ← hlen2]
   simp only [List.take_left]
  ·have hz1 : cur.size = cur.toList.length := by simp
   have hz2 := congrArg List.length hcur
   rcases hfz with h | h
   ·exact .inl h
   ·right; simp only [List.size_toArray, List.length_append] at hz2 ⊢; omega
  ·exact Elems.imp (fun x v b hb hx => by
    have : b = [] := by cases b with | nil => rfl | cons q r => exact absurd (hb q (by simp)) (by simp)
    subst this
    have hx2 : Flat P T0 (w.setRow g ((v1 ++ u1) ++ vs ++ (u3 ++ v3 ++ cur.toList.drop (xs.length * cellsN T0))).toArray) (Gd B G0 ob) B .no x v [] := Flat.mono P T0 (fun b' i _ h => ⟨h, hcell b' i h⟩) ⟨by simp, fun t ht => setRow_other w g t _ (by omega)⟩ (by simp) hx
    exact (Flat.pure P T0 (o := .no) rfl ho hx2).2) (by simpa using hnew)
  ·rw [hob]; simp
end
end Go.Fw
/- Soundness: an element of a slice that a variable's part holds is written. -/
namespace Go.Fw
open Go Go.RowKit
theorem Flat.lens2 (P : Program) : ∀ (p : Path) (T : Ty) {w : World} {G : Nat → Nat → Prop} {B : Nat} {o : Ann} {x : den T} {vs : List Value} {ob : OB} {T' : Ty} {y : den T'}, hasIx p = false → Flat P T w G B o x vs ob → getP T p x = some ⟨T', y⟩ →
  ∃ v1 v2 v3 b1 b2 b3, vs = v1 ++ v2 ++ v3 ∧ ob = b1 ++ b2 ++ b3 ∧ v1.length = offT T p ∧ Flat P T' w G B (annAt o p) y v2 b2 ∧
    ∀ (w' : World) (o2 : Ann) (y2 : den T') (u : List Value) (c : OB) (x2 : den T), (∀ b i, b < w.heap.size → G b i → G b i ∧ w'.cell? ⟨b, i, none⟩ = w.cell? ⟨b, i, none⟩) → Later B w w' → (∀ g, g ∈ blocks b1 ∨ g ∈ blocks b3 → w'.heap[g]? = w.heap[g]?) →
      Flat P T' w' G B o2 y2 u c → setP T p x ⟨T', y2⟩ = some x2 → Flat P T w' G B (setAnn o p o2) x2 (v1 ++ u ++ v3) (b1 ++ c ++ b3)
 | [], T, w, G, B, o, x, vs, ob, T', y, _, hF, h => by
   simp only [getP, Option.some.injEq] at h
   obtain ⟨rfl, h⟩ := Sigma.mk.inj h
   rw [eq_of_heq h] at hF
   refine ⟨[], vs, [], [], ob, [], by simp, by simp, by cases T <;> rfl, hF, ?_⟩
   intro w' o2 y2 u c x2 _ _ _ hy hs
   have hs' : cast? T ⟨T, y2⟩ = some x2 := by cases T <;> exact hs
   rw [cast?_self, Option.some.injEq] at hs'
   subst hs'
   simpa [setAnn] using hy
 | .l :: p, .pair A C, w, G, B, o, x, vs, ob, T', y, hp, hF, h => by
   unfold Flat at hF; obtain ⟨u1, u2, c1, c2, rfl, rfl, h1, h2⟩ := hF
   simp only [getP] at h
   obtain ⟨v1, v2, v3, b1, b2, b3, rfl, rfl, hl, hF2, hset⟩ := Flat.lens2 P p A hp h1 h
   refine ⟨v1, v2, v3 ++ u2, b1, b2, b3 ++ c2, by simp, by simp, hl, hF2, ?_⟩
   intro w' o2 y2 u c x2 hG hL hO hy hs
   simp only [setP, Option.bind_eq_some_iff, Option.some.injEq] at hs
   obtain ⟨z, hz, rfl⟩ := hs
   unfold Flat
   refine ⟨v1 ++ u ++ v3, u2, b1 ++ c ++ b3, c2, by simp, by simp, hset w' o2 y2 u c z hG hL (fun g hg => hO g ?_) hy hz, Flat.mono P C hG hL (fun g hg => hO g (by simp [hg])) h2⟩
   rcases hg with hg | hg
   ·exact .inl hg
   ·exact .inr (by simp [hg])
 | .r :: p, .pair A C, w, G, B, o, x, vs, ob, T', y, hp, hF, h => by
   have hlen : ∀ {vs ob}, Flat P A w G B o.l x.1 vs ob → vs.length = cellsN A := fun h => Flat.len P A h
   unfold Flat at hF; obtain ⟨u1, u2, c1, c2, rfl, rfl, h1, h2⟩ := hF
   simp only [getP] at h
   obtain ⟨v1, v2, v3, b1, b2, b3, rfl, rfl, hl, hF2, hset⟩ := Flat.lens2 P p C hp h2 h
   refine ⟨u1 ++ v1, v2, v3, c1 ++ b1, b2, b3, by simp, by simp, by rw [List.length_append, hlen h1, hl]; rfl, hF2, ?_⟩
   intro w' o2 y2 u c x2 hG hL hO hy hs
   simp only [setP, Option.bind_eq_some_iff, Option.some.injEq] at hs
   obtain ⟨z, hz, rfl⟩ := hs
   unfold Flat
   refine ⟨u1, v1 ++ u ++ v3, c1, b1 ++ c ++ b3, by simp, by simp, Flat.mono P A hG hL (fun g hg => hO g (by simp [hg])) h1, hset w' o2 y2 u c z hG hL (fun g hg => hO g ?_) hy hz⟩
   rcases hg with hg | hg
   ·exact .inl (by simp [hg])
   ·exact .inr hg
 | .ix _ :: _, _, _, _, _, _, _, _, _, _, _, hp, _, _ => by simp [hasIx] at hp
 | .l :: _, .int _, _, _, _, _, _, _, _, _, _, _, _, h | .l :: _, .bool, _, _, _, _, _, _, _, _, _, _, _, h | .l :: _, .str, _, _, _, _, _, _, _, _, _, _, _, h | .l :: _, .unit, _, _, _, _, _, _, _, _, _, _, _, h | .l :: _, .sl _, _, _, _, _, _, _, _, _, _, _, _, h | .l :: _, .arr _ _, _, _, _, _, _, _, _, _, _, _, _, h | .l :: _, .fn _ _, _, _, _, _, _, _, _, _, _, _, _, h => by simp [getP] at h
 | .r :: _, .int _, _, _, _, _, _, _, _, _, _, _, _, h | .r :: _, .bool, _, _, _, _, _, _, _, _, _, _, _, h | .r :: _, .str, _, _, _, _, _, _, _, _, _, _, _, h | .r :: _, .unit, _, _, _, _, _, _, _, _, _, _, _, h | .r :: _, .sl _, _, _, _, _, _, _, _, _, _, _, _, h | .r :: _, .arr _ _, _, _, _, _, _, _, _, _, _, _, _, h | .r :: _, .fn _ _, _, _, _, _, _, _, _, _, _, _, _, h => by simp [getP] at h
theorem getP_set_sl : ∀ (q p : Path) (T0 : Ty) {x x1 : den T0} {T1 T' : Ty} {xs ys : List (den T1)} {zs : List (den T')}, hasIx q = false → getP T0 p x = some ⟨.sl T1, xs⟩ → setP T0 p x ⟨.sl T1, ys⟩ = some x1 → ys.length = xs.length → getP T0 q x = some ⟨.sl T', zs⟩ →
  ∃ zs' : List (den T'), getP T0 q x1 = some ⟨.sl T', zs'⟩ ∧ zs'.length = zs.length
 | [], p, T0, x, x1, T1, T', xs, ys, zs, _, hp, hs, hl, hq => by
   have : T0 = .sl T' := by
    simp only [getP, Option.some.injEq] at hq
    exact (Sigma.mk.inj hq).1
   subst this
   cases p with
   | nil =>
     simp only [getP, Option.some.injEq] at hp hq
     obtain ⟨h1, h2⟩ := Sigma.mk.inj hp
     cases h1
     obtain ⟨_, h3⟩ := Sigma.mk.inj hq
     have e1 := eq_of_heq h2; have e2 := eq_of_heq h3
     have hs' : cast? (.sl T1) ⟨.sl T1, ys⟩ = some x1 := hs
     rw [cast?_self, Option.some.injEq] at hs'
     subst hs'
     exact ⟨ys, rfl, by rw [hl, ← e1, ← e2]⟩
   | cons st p => cases st <;> simp [getP] at hp
 | .l :: q, p, .pair A C, x, x1, T1, T', xs, ys, zs, hix, hp, hs, hl, hq => by
   simp only [getP] at hq
   simp only [hasIx] at hix
   match p, hp, hs with
   | [], hp, _ => exact absurd (Sigma.mk.inj (by simpa only [getP, Option.some.injEq] using hp)).1 (by simp)
   | .l :: p, hp, hs =>
     simp only [setP, Option.bind_eq_some_iff, Option.some.injEq] at hs
     obtain ⟨u, hu, rfl⟩ := hs
     simp only [getP] at hp ⊢
     exact getP_set_sl q p A hix hp hu hl hq
   | .r :: p, hp, hs =>
     simp only [setP, Option.bind_eq_some_iff, Option.some.injEq] at hs
     obtain ⟨u, hu, rfl⟩ := hs
     simp only [getP]
     exact ⟨zs, hq, rfl⟩
   | .ix i :: p, hp, hs => simp [setP] at hs
 | .r :: q, p, .pair A C, x, x1, T1, T', xs, ys, zs, hix, hp, hs, hl, hq => by
   simp only [getP] at hq
   simp only [hasIx] at hix
   match p, hp, hs with
   | [], hp, _ => exact absurd (Sigma.mk.inj (by simpa only [getP, Option.some.injEq] using hp)).1 (by simp)
   | .r :: p, hp, hs =>
     simp only [setP, Option.bind_eq_some_iff, Option.some.injEq] at hs
     obtain ⟨u, hu, rfl⟩ := hs
     simp only [getP] at hp ⊢
     exact getP_set_sl q p C hix hp hu hl hq
   | .l :: p, hp, hs =>
     simp only [setP, Option.bind_eq_some_iff, Option.some.injEq] at hs
     obtain ⟨u, hu, rfl⟩ := hs
     simp only [getP]
     exact ⟨zs, hq, rfl⟩
   | .ix i :: p, hp, hs => simp [setP] at hs
 | .ix _ :: _, _, _, _, _, _, _, _, _, _, hix, _, _, _, _ => by simp [hasIx] at hix
 | .l :: _, _, .int _, _, _, _, _, _, _, _, _, _, _, _, h | .l :: _, _, .bool, _, _, _, _, _, _, _, _, _, _, _, h | .l :: _, _, .str, _, _, _, _, _, _, _, _, _, _, _, h | .l :: _, _, .unit, _, _, _, _, _, _, _, _, _, _, _, h | .l :: _, _, .sl _, _, _, _, _, _, _, _, _, _, _, _, h | .l :: _, _, .arr _ _, _, _, _, _, _, _, _, _, _, _, _, h | .l :: _, _, .fn _ _, _, _, _, _, _, _, _, _, _, _, _, h => by simp [getP] at h
 | .r :: _, _, .int _, _, _, _, _, _, _, _, _, _, _, _, h | .r :: _, _, .bool, _, _, _, _, _, _, _, _, _, _, _, h | .r :: _, _, .str, _, _, _, _, _, _, _, _, _, _, _, h | .r :: _, _, .unit, _, _, _, _, _, _, _, _, _, _, _, h | .r :: _, _, .sl _, _, _, _, _, _, _, _, _, _, _, _, h | .r :: _, _, .arr _ _, _, _, _, _, _, _, _, _, _, _, _, h | .r :: _, _, .fn _ _, _, _, _, _, _, _, _, _, _, _, _, h => by simp [getP] at h
section
variable {P : Program} {B : Nat} {G0 : Nat → Nat → Prop} {W0 : World} {n : Nat} {env : Env} {tm : Array Value} {a : Act} {w : World} {ob : Nat → OB} {cl : Cal}
theorem row_set {G : Nat → Nat → Prop} {e : TypeId} {T0 T : Ty} {oa : Ann} {xs : List (den T0)} {j : Nat} {q : Path} {z : den T} {u : den T0} {vs : List Value} {v : Value} {obv : OB} (hr : Flat P (.sl T0) w G B (.own true e oa) xs [v] obv) (ho : oa.pure = true) (hj : j < xs.length)
  (hset : setP T0 q (xs.getD j (zero T0)) ⟨T, z⟩ = some u) (hz : Flat P T w G B .no z vs []) (hno : ∀ g i, (g, 0) ∈ obv → ¬ G g i) :
  ∃ g cap cur e' fz, v = .slice (some ⟨g, 0, none⟩) xs.length cap ∧ obv = [(g, 0)] ∧ w.heap[g]? = some (.cells cur e' fz) ∧ frzOk fz cur.size ∧ (j * cellsN T0 + offT T0 q) + vs.length ≤ cur.size ∧
    Flat P (.sl T0) (w.setRow g (cur.toList.take (j * cellsN T0 + offT T0 q) ++ vs ++ cur.toList.drop ((j * cellsN T0 + offT T0 q) + vs.length)).toArray) G B (.own true e oa) (xs.set j u) [v] obv := by
 unfold Flat at hr
 obtain ⟨v', cells, ob', e1, hrow, hel, hob⟩ := hr
 simp only [List.cons.injEq, and_true] at e1
 subst e1
 obtain ⟨hobn, hel0⟩ := Elems.pure P (o' := .no) ho rfl hel
 subst hobn
 have hrow' := hrow
 rcases hrow.2 with ⟨_, hn⟩ | ⟨g, cap, cur, e1, fz, hv, hBg, hg, hnc, hcm, hcs, htake, hbf, hfz⟩
 ·omega
 have hob2 : obv = [(g, 0)] := by rw [hob, hv]; simp [obOf, Value.ownBlock]
 have hg0 : (g, 0) ∈ obv := by rw [hob2]; simp
 obtain ⟨y, hy⟩ := setP_getP q T0 hset
 obtain ⟨v1, v2, v3, c1, c2, c3, f1, f2, f3, f4, f5⟩ := Elems.split (fun x v b hx => Flat.len P _ hx) j (zero T0) hel0 hj
 obtain ⟨u1, u2, u3, d1, d2, d3, g1, g2, g3, g4, g5⟩ := Flat.lens P q T0 f4 hy
 have hlv : vs.length = u2.length := by rw [Flat.len P T hz, Flat.len P T g4]
 have hc : c1 = [] ∧ c2 = [] ∧ c3 = [] := by
  have : c1 ++ c2 ++ c3 = [] := f2.symm
  simp at this; exact ⟨this.1, this.2.1, this.2.2⟩
 obtain ⟨rfl, rfl, rfl⟩ := hc
 have hd : d1 = [] ∧ d2 = [] ∧ d3 = [] := by
  have : d1 ++ d2 ++ d3 = [] := g2.symm
  simp at this; exact ⟨this.1, this.2.1, this.2.2⟩
 obtain ⟨rfl, rfl, rfl⟩ := hd
 have hnew := f5 u (u1 ++ vs ++ u3) [] (by
  have := g5 .no z vs [] u (fun _ => rfl) hz hset
  exact (Flat.pure P T0 (setAnn_pure q .no .no rfl rfl) (o' := .no) rfl this).2)
 have hcur : cur.toList = (v1 ++ u1) ++ u2 ++ (u3 ++ v3 ++ cur.toList.drop (xs.length * cellsN T0)) := by
  rw [← List.take_append_drop (xs.length * cellsN T0) cur.toList, htake, f1, g1]
  have : (v1 ++ (u1 ++ u2 ++ u3) ++ v3).length = xs.length * cellsN T0 := by rw [← g1, ← f1]; exact hrow.1
  have h2 : (v1 ++ (u1 ++ u2 ++ u3) ++ v3 ++ cur.toList.drop (xs.length * cellsN T0)).drop (xs.length * cellsN T0) = cur.toList.drop (xs.length * cellsN T0) := by
   rw [← this, List.drop_left]
  rw [h2]
  simp only [List.append_assoc]
 have hoff : (v1 ++ u1).length = j * cellsN T0 + offT T0 q := by rw [List.length_append, f3, g3]
 have hcs2 : (cur.toList.take (j * cellsN T0 + offT T0 q) ++ vs ++ cur.toList.drop ((j * cellsN T0 + offT T0 q) + vs.length)) = (v1 ++ u1) ++ vs ++ (u3 ++ v3 ++ cur.toList.drop (xs.length * cellsN T0)) := by
  rw [← hoff]
  have := take_drop_mid (v1 := v1 ++ u1) (v3 := u3 ++ v3 ++ cur.toList.drop (xs.length * cellsN T0)) hlv
  rw [← hcur] at this
  exact this
 refine ⟨g, cap, cur, e1, fz, hv, hob2, hg, hfz, ?_, ?_⟩
 ·have : cur.size = cur.toList.length := by simp
  rw [this, hcur, ← hoff, hlv]; simp only [List.length_append]; omega
 rw [hcs2]
 have hcell : ∀ b' i, G b' i → (w.setRow g ((v1 ++ u1) ++ vs ++ (u3 ++ v3 ++ cur.toList.drop (xs.length * cellsN T0))).toArray).cell? ⟨b', i, none⟩ = w.cell? ⟨b', i, none⟩ := by
  intro b' i h
  refine cell_setRow_other w g _ _ ?_
  rintro rfl
  exact hno _ _ hg0 h
 have hlen2 : (v1 ++ (u1 ++ vs ++ u3) ++ v3).length = xs.length * cellsN T0 := by
  have h1 : cells.length = xs.length * cellsN T0 := hrow.1
  rw [f1, g1] at h1
  simp only [List.length_append] at h1 ⊢
  omega
 show Flat P (.sl T0) _ G B (.own true e oa) (xs.set j u) [v] obv
 unfold Flat
 refine ⟨_, v1 ++ (u1 ++ vs ++ u3) ++ v3, [], rfl, ⟨by rw [List.length_set]; exact hlen2, .inr ⟨g, cap, _, e1, fz, by rw [List.length_set]; exact hv, hBg, setRow_heap w g cur _ e1 fz hg, by rw [List.length_set]; exact hnc, hcm, ?_, ?_, hbf, ?_⟩⟩, ?_, ?_⟩
 ·rw [← hcs]
  have h1 : cur.size = cur.toList.length := by simp
  have h2 := congrArg List.length hcur
  rw [h1, h2]
  simp only [List.size_toArray, List.length_append]; omega
 ·simp only [List.length_set]
  have h1 : (v1 ++ u1) ++ vs ++ (u3 ++ v3 ++ cur.toList.drop (xs.length * cellsN T0)) = (v1 ++ (u1 ++ vs ++ u3) ++ v3) ++ cur.toList.drop (xs.length * cellsN T0) := by simp only [List.append_assoc]
  rw [h1, ← hlen2]
  simp only [List.take_left]
 ·have hz1 : cur.size = cur.toList.length := by simp
  have hz2 := congrArg List.length hcur
  rcases hfz with h | h
  ·exact .inl h
  ·right; simp only [List.size_toArray, List.length_append] at hz2 ⊢; omega
 ·exact Elems.imp (fun x v b hb hx => by
   have : b = [] := by cases b with | nil => rfl | cons q r => exact absurd (hb q (by simp)) (by simp)
   subst this
   have hx2 : Flat P T0 (w.setRow g ((v1 ++ u1) ++ vs ++ (u3 ++ v3 ++ cur.toList.drop (xs.length * cellsN T0))).toArray) G B .no x v [] := Flat.mono P T0 (fun b' i _ h => ⟨h, hcell b' i h⟩) ⟨by simp, fun t ht => setRow_other w g t _ (by omega)⟩ (by simp) hx
   exact (Flat.pure P T0 (o := .no) rfl ho hx2).2) (by simpa using hnew)
 ·rw [hob]; simp
theorem store_elemL (hC : Conc P B G0 W0 n env tm w ob) {s : Nat} {e : TypeId} {T0 T1 T : Ty} {oa o' : Ann} {x0 x1 : den T0} {p : Path} {xs : List (den T1)} {j : Nat} {q : Path} {z : den T} {u : den T1} {vs : List Value} (hs : look env s = .loc T0 oa x0) (ha : annAt oa p = .own true e o')
  (hg : getP T0 p x0 = some ⟨.sl T1, xs⟩) (ho : o'.pure = true) (hj : j < xs.length) (hset : setP T1 q (xs.getD j (zero T1)) ⟨T, z⟩ = some u) (hset2 : setP T0 p x0 ⟨.sl T1, xs.set j u⟩ = some x1) (hz : Flat P T w (Gd B G0 ob) B .no z vs []) :
  ∃ g cap cur e' fz, headAt w tm env s p = some (.slice (some ⟨g, 0, none⟩) xs.length cap) ∧ w.heap[g]? = some (.cells cur e' fz) ∧ frzOk fz cur.size ∧ (j * cellsN T1 + offT T1 q) + vs.length ≤ cur.size ∧
    Conc P B G0 W0 n ((s, .loc T0 oa x1) :: env) tm (w.setRow g (cur.toList.take (j * cellsN T1 + offT T1 q) ++ vs ++ cur.toList.drop ((j * cellsN T1 + offT T1 q) + vs.length)).toArray) ob := by
 have hix : hasIx p = false := annAt_own_noIx p oa ha
 have hr := hC.rep s
 rw [hs] at hr
 obtain ⟨b, cur, e0, ob', k1, k2, k3, k4, k5⟩ := hr
 obtain ⟨v1, v2, v3, b1, b2, b3, e1, e2, e3, e4, e5⟩ := Flat.lens2 P p T0 hix k4 hg
 rw [ha] at e4
 obtain ⟨v, rfl⟩ : ∃ v, v2 = [v] := by
  have := Flat.len P _ e4
  cases v2 with
  | nil => simp [cellsN] at this
  | cons v r => cases r with | nil => exact ⟨v, rfl⟩ | cons => simp [cellsN] at this
 have hsub : ∀ q, q ∈ b2 → q ∈ ob s := fun q hq => by rw [k5, e2]; simp [hq]
 obtain ⟨g, cap, curg, e', fz, r1, r2, r3, rf, r4, r5⟩ := row_set e4 ho hj hset hz (fun g i hg hG => by
  have h0 := hsub _ hg
  have hlow := hC.low s g (mem_blocks.2 ⟨_, h0⟩)
  rcases hG with ⟨h, _⟩ | ⟨_, h⟩
  ·omega
  ·exact absurd (h s 0 h0) (by simp))
 have hg0 : (g, 0) ∈ ob s := hsub _ (by rw [r2]; simp)
 have hlow := hC.low s g (mem_blocks.2 ⟨_, hg0⟩)
 have hnd := hC.nodup s
 rw [k5, e2, r2] at hnd
 simp only [blocks_cons, blocks_append, blocks_nil, List.nodup_cons, List.nodup_append, List.mem_append, List.mem_cons] at hnd
 have hbg : b ≠ g := fun h => hnd.1 (.inl (.inr (.inl h)))
 have hcellb : w.cell? ⟨b, offT T0 p, none⟩ = some v := by
  rw [cell_of_row w b _ cur e0 (0, 0) k3, ← Array.getElem?_toList, e1, ← e3]
  simp
 have hhead : headAt w tm env s p = some (.slice (some ⟨g, 0, none⟩) xs.length cap) := by
  simp only [headAt, hs, k1, hcellb, r1]
 refine ⟨g, cap, curg, e', fz, hhead, r3, rf, r4, ?_⟩
 refine Conc.touch hC hg0 _ ⟨fun q' v' hq hv => ?_, fun q' h hq => ?_, fun T o x hx => ?_⟩ ?_
 ·simp only [headAt, hs, k1] at hv
  simp only [headAt]; rw [look_cons, if_pos rfl]; simp only [k1]
  rw [cell_setRow_other w g _ _ (by exact hbg)]; exact hv
 ·simp only [heldAt, hs] at hq
  simp only [heldAt]; rw [look_cons, if_pos rfl]
  simp only
  split at hq
  ·rename_i wr ed o2 T' zs ha2 hg2
   simp only [Option.some.injEq] at hq; subst hq
   obtain ⟨zs', h1, h2⟩ := getP_set_sl q' p T0 (annAt_own_noIx q' oa ha2) hg hset2 (by simp) hg2
   exact ⟨⟨wr, ed, T', o2, zs'⟩, by rw [ha2, h1], rfl, h2⟩
  ·simp at hq
 ·rw [hs] at hx; cases hx
  exact ⟨_, _, by rw [look_cons, if_pos rfl], rfl⟩
 ·refine ⟨b, cur, e0, ob', k1, k2, by rw [setRow_other w g b _ hbg]; exact k3, ?_, k5⟩
  have hnew := e5 (w.setRow g (curg.toList.take (j * cellsN T1 + offT T1 q) ++ vs ++ curg.toList.drop ((j * cellsN T1 + offT T1 q) + vs.length)).toArray) (.own true e o') (xs.set j u) [v] b2 x1 (fun b' i _ h => ⟨h, ?_⟩) ⟨by simp, fun t ht => setRow_other w g t _ (by omega)⟩ (fun t ht => setRow_other w g t _ ?_) r5 hset2
  ·rw [← ha] at hnew
   rw [e1, e2]
   exact Flat.setAnn_self p T0 hg hnew
  ·refine cell_setRow_other w g _ _ ?_
   intro hbb
   replace hbb : b' = g := hbb
   rcases h with ⟨h, _⟩ | ⟨_, h⟩
   ·omega
   ·rw [hbb] at h; exact absurd (h s 0 hg0) (by simp)
  ·rintro rfl
   rcases ht with ht | ht
   ·exact hnd.2.1.2.2 _ ht _ (by simp) rfl
   ·exact hnd.2.2.2 _ (.inr (by simp)) _ ht rfl
end
end Go.Fw
