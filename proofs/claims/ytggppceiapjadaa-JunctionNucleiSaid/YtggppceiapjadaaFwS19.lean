/- Soundness, part 19: writing. -/
import Derived.Test.YtggppceiapjadaaFwS18
set_option linter.unusedVariables false
set_option linter.unusedSimpArgs false
namespace Go.Fw
open Go Go.RowKit

theorem getP_scal : ∀ (p : Path) (T : Ty) {x : den T} {y : TV}, scalarT T = true → getP T p x = some y → scalarT y.1 = true
  | [], T, x, y, hs, h => by simp only [getP, Option.some.injEq] at h; subst h; exact hs
  | .l :: p, .pair A C, x, y, hs, h => by simp only [scalarT, Bool.and_eq_true] at hs; simp only [getP] at h; exact getP_scal p A hs.1 h
  | .r :: p, .pair A C, x, y, hs, h => by simp only [scalarT, Bool.and_eq_true] at hs; simp only [getP] at h; exact getP_scal p C hs.2 h
  | .ix i :: p, .arr n T, x, y, hs, h => by
    simp only [scalarT] at hs; simp only [getP] at h
    split at h
    · exact getP_scal p T hs h
    · simp at h
  | .l :: _, .int _, _, _, _, h | .l :: _, .bool, _, _, _, h | .l :: _, .str, _, _, _, h | .l :: _, .unit, _, _, _, h | .l :: _, .sl _, _, _, _, h | .l :: _, .arr _ _, _, _, _, h | .l :: _, .fn _ _, _, _, _, h => by simp [getP] at h
  | .r :: _, .int _, _, _, _, h | .r :: _, .bool, _, _, _, h | .r :: _, .str, _, _, _, h | .r :: _, .unit, _, _, _, h | .r :: _, .sl _, _, _, _, h | .r :: _, .arr _ _, _, _, _, h | .r :: _, .fn _ _, _, _, _, h => by simp [getP] at h
  | .ix _ :: _, .int _, _, _, _, h | .ix _ :: _, .bool, _, _, _, h | .ix _ :: _, .str, _, _, _, h | .ix _ :: _, .unit, _, _, _, h | .ix _ :: _, .sl _, _, _, _, h | .ix _ :: _, .pair _ _, _, _, _, h | .ix _ :: _, .fn _ _, _, _, _, h => by simp [getP] at h

theorem setP_getP : ∀ (p : Path) (T : Ty) {x x1 : den T} {T' : Ty} {z : den T'}, setP T p x ⟨T', z⟩ = some x1 → ∃ y : den T', getP T p x = some ⟨T', y⟩
  | [], T, x, x1, T', z, h => by
    simp only [setP] at h
    have := cast?_some h; cases this
    exact ⟨x, by cases T <;> rfl⟩
  | .l :: p, .pair A C, x, x1, T', z, h => by
    simp only [setP, Option.bind_eq_some_iff] at h; obtain ⟨u, h, _⟩ := h
    simp only [getP]; exact setP_getP p A h
  | .r :: p, .pair A C, x, x1, T', z, h => by
    simp only [setP, Option.bind_eq_some_iff] at h; obtain ⟨u, h, _⟩ := h
    simp only [getP]; exact setP_getP p C h
  | .ix i :: p, .arr n T, x, x1, T', z, h => by
    simp only [setP] at h
    split at h
    · rename_i hi
      simp only [Option.bind_eq_some_iff] at h; obtain ⟨u, h, _⟩ := h
      simp only [getP]; rw [if_pos hi]; exact setP_getP p T h
    · simp at h
  | .l :: _, .int _, _, _, _, _, h | .l :: _, .bool, _, _, _, _, h | .l :: _, .str, _, _, _, _, h | .l :: _, .unit, _, _, _, _, h | .l :: _, .sl _, _, _, _, _, h | .l :: _, .arr _ _, _, _, _, _, h | .l :: _, .fn _ _, _, _, _, _, h => by simp [setP] at h
  | .r :: _, .int _, _, _, _, _, h | .r :: _, .bool, _, _, _, _, h | .r :: _, .str, _, _, _, _, h | .r :: _, .unit, _, _, _, _, h | .r :: _, .sl _, _, _, _, _, h | .r :: _, .arr _ _, _, _, _, _, h | .r :: _, .fn _ _, _, _, _, _, h => by simp [setP] at h
  | .ix _ :: _, .int _, _, _, _, _, h | .ix _ :: _, .bool, _, _, _, _, h | .ix _ :: _, .str, _, _, _, _, h | .ix _ :: _, .unit, _, _, _, _, h | .ix _ :: _, .sl _, _, _, _, _, h | .ix _ :: _, .pair _ _, _, _, _, _, h | .ix _ :: _, .fn _ _, _, _, _, _, h => by simp [setP] at h

/-- where a part's cells end -/
theorem off_le {P : Program} {w : World} {G : Nat → Nat → Prop} {B : Nat} {o : Ann} {T : Ty} {x : den T} {vs : List Value} {ob : OB} {p : Path} {T' : Ty} {y : den T'} (hF : Flat P T w G B o x vs ob) (h : getP T p x = some ⟨T', y⟩) : offT T p + cellsN T' ≤ cellsN T := by
  obtain ⟨v1, v2, v3, b1, b2, b3, e1, _, e3, e4, _⟩ := Flat.lens P p T hF h
  have h1 := Flat.len P T hF
  have h2 := Flat.len P T' e4
  rw [e1] at h1; simp only [List.length_append] at h1; omega

/-- where a scalar part is written, the slices beside it stay -/
theorem setP_keep {P : Program} {w : World} {G : Nat → Nat → Prop} {B : Nat} : ∀ (q p : Path) (T0 : Ty) {o : Ann} {x x1 : den T0} {vs : List Value} {ob : OB} {T T' : Ty} {z : den T} {xs : List (den T')}, Flat P T0 w G B o x vs ob → scalarT T = true →
    setP T0 p x ⟨T, z⟩ = some x1 → hasIx q = false → getP T0 q x = some ⟨.sl T', xs⟩ → getP T0 q x1 = some ⟨.sl T', xs⟩ ∧ (offT T0 q < offT T0 p ∨ offT T0 p + cellsN T ≤ offT T0 q)
  | [], p, T0, o, x, x1, vs, ob, T, T', z, xs, hF, hs, hset, _, hg => by
    exfalso
    have : T0 = .sl T' := by
      simp only [getP, Option.some.injEq] at hg
      exact (Sigma.mk.inj hg).1
    subst this
    obtain ⟨y, hy⟩ := setP_getP p _ hset
    cases p with
    | nil =>
      simp only [getP, Option.some.injEq] at hy
      have := (Sigma.mk.inj hy).1
      subst this; simp [scalarT] at hs
    | cons st p => cases st <;> simp [getP] at hy
  | .l :: q, p, .pair A C, o, x, x1, vs, ob, T, T', z, xs, hF, hs, hset, hq, hg => by
    have hF' := hF
    unfold Flat at hF; obtain ⟨u1, u2, c1, c2, rfl, rfl, h1, h2⟩ := hF
    simp only [getP] at hg
    simp only [hasIx] at hq
    obtain ⟨y, hy⟩ := setP_getP p _ hset
    match p, hset, hy with
    | [], hset, hy =>
      exfalso
      simp only [getP, Option.some.injEq] at hy
      have := (Sigma.mk.inj hy).1
      subst this
      simp only [scalarT, Bool.and_eq_true] at hs
      have := getP_scal q A hs.1 hg
      simp [scalarT] at this
    | .l :: p, hset, hy =>
      simp only [setP, Option.bind_eq_some_iff, Option.some.injEq] at hset
      obtain ⟨u, hu, rfl⟩ := hset
      simp only [getP, offT]
      exact setP_keep q p A h1 hs hu hq hg
    | .r :: p, hset, hy =>
      simp only [setP, Option.bind_eq_some_iff, Option.some.injEq] at hset
      obtain ⟨u, hu, rfl⟩ := hset
      simp only [getP, offT]
      refine ⟨hg, .inl ?_⟩
      have := off_le h1 hg
      simp only [cellsN] at this
      omega
    | .ix i :: p, hset, hy => simp [setP] at hset
  | .r :: q, p, .pair A C, o, x, x1, vs, ob, T, T', z, xs, hF, hs, hset, hq, hg => by
    have hF' := hF
    unfold Flat at hF; obtain ⟨u1, u2, c1, c2, rfl, rfl, h1, h2⟩ := hF
    simp only [getP] at hg
    simp only [hasIx] at hq
    obtain ⟨y, hy⟩ := setP_getP p _ hset
    match p, hset, hy with
    | [], hset, hy =>
      exfalso
      simp only [getP, Option.some.injEq] at hy
      have := (Sigma.mk.inj hy).1
      subst this
      simp only [scalarT, Bool.and_eq_true] at hs
      have := getP_scal q C hs.2 hg
      simp [scalarT] at this
    | .r :: p, hset, hy =>
      simp only [setP, Option.bind_eq_some_iff, Option.some.injEq] at hset
      obtain ⟨u, hu, rfl⟩ := hset
      simp only [getP, offT]
      have := setP_keep q p C h2 hs hu hq hg
      exact ⟨this.1, by omega⟩
    | .l :: p, hset, hy =>
      simp only [setP, Option.bind_eq_some_iff, Option.some.injEq] at hset
      obtain ⟨u, hu, rfl⟩ := hset
      simp only [getP, offT] at hy ⊢
      refine ⟨hg, .inr ?_⟩
      have := off_le h1 hy
      omega
    | .ix i :: p, hset, hy => simp [setP] at hset
  | .ix i :: q, p, T0, _, _, _, _, _, _, _, _, _, _, _, _, hq, _ => by simp [hasIx] at hq
  | .l :: _, _, .int _, _, _, _, _, _, _, _, _, _, _, _, _, _, h | .l :: _, _, .bool, _, _, _, _, _, _, _, _, _, _, _, _, _, h | .l :: _, _, .str, _, _, _, _, _, _, _, _, _, _, _, _, _, h | .l :: _, _, .unit, _, _, _, _, _, _, _, _, _, _, _, _, _, h | .l :: _, _, .sl _, _, _, _, _, _, _, _, _, _, _, _, _, _, h | .l :: _, _, .arr _ _, _, _, _, _, _, _, _, _, _, _, _, _, _, h | .l :: _, _, .fn _ _, _, _, _, _, _, _, _, _, _, _, _, _, _, h => by simp [getP] at h
  | .r :: _, _, .int _, _, _, _, _, _, _, _, _, _, _, _, _, _, h | .r :: _, _, .bool, _, _, _, _, _, _, _, _, _, _, _, _, _, h | .r :: _, _, .str, _, _, _, _, _, _, _, _, _, _, _, _, _, h | .r :: _, _, .unit, _, _, _, _, _, _, _, _, _, _, _, _, _, h | .r :: _, _, .sl _, _, _, _, _, _, _, _, _, _, _, _, _, _, h | .r :: _, _, .arr _ _, _, _, _, _, _, _, _, _, _, _, _, _, _, h | .r :: _, _, .fn _ _, _, _, _, _, _, _, _, _, _, _, _, _, _, h => by simp [getP] at h

theorem annAt_pure : ∀ (q : Path) (o : Ann), o.pure = true → (annAt o q).pure = true
  | [], _, h => h
  | .l :: q, o, h => annAt_pure q o.l (Ann.pure_l h)
  | .r :: q, o, h => annAt_pure q o.r (Ann.pure_r h)
  | .ix _ :: _, _, _ => rfl

theorem setP_keepP {P : Program} {w : World} {G : Nat → Nat → Prop} {B : Nat} : ∀ (q p : Path) (T0 : Ty) {o : Ann} {x x1 : den T0} {vs : List Value} {ob : OB} {T T' : Ty} {z : den T} {xs : List (den T')} {wr : Bool} {e : TypeId} {o' : Ann}, Flat P T0 w G B o x vs ob → (annAt o p).pure = true →
    setP T0 p x ⟨T, z⟩ = some x1 → annAt o q = .own wr e o' → getP T0 q x = some ⟨.sl T', xs⟩ → getP T0 q x1 = some ⟨.sl T', xs⟩ ∧ (offT T0 q < offT T0 p ∨ offT T0 p + cellsN T ≤ offT T0 q)
  | [], p, T0, o, x, x1, vs, ob, T, T', z, xs, _, _, _, hF, hs, hset, hq, hg => by
    exfalso
    have : T0 = .sl T' := by
      simp only [getP, Option.some.injEq] at hg
      exact (Sigma.mk.inj hg).1
    subst this
    obtain ⟨y, hy⟩ := setP_getP p _ hset
    cases p with
    | nil =>
      simp only [annAt] at hs hq
      rw [hq] at hs; simp [Ann.pure] at hs
    | cons st p => cases st <;> simp [getP] at hy
  | .l :: q, p, .pair A C, o, x, x1, vs, ob, T, T', z, xs, _, _, _, hF, hs, hset, hq, hg => by
    have hF' := hF
    unfold Flat at hF; obtain ⟨u1, u2, c1, c2, rfl, rfl, h1, h2⟩ := hF
    simp only [getP] at hg
    obtain ⟨y, hy⟩ := setP_getP p _ hset
    match p, hset, hy with
    | [], hset, hy =>
      exfalso
      have := annAt_pure (.l :: q) o hs
      rw [hq] at this; simp [Ann.pure] at this
    | .l :: p, hset, hy =>
      simp only [setP, Option.bind_eq_some_iff, Option.some.injEq] at hset
      obtain ⟨u, hu, rfl⟩ := hset
      simp only [getP, offT]
      exact setP_keepP q p A h1 hs hu hq hg
    | .r :: p, hset, hy =>
      simp only [setP, Option.bind_eq_some_iff, Option.some.injEq] at hset
      obtain ⟨u, hu, rfl⟩ := hset
      simp only [getP, offT]
      refine ⟨hg, .inl ?_⟩
      have := off_le h1 hg
      simp only [cellsN] at this
      omega
    | .ix i :: p, hset, hy => simp [setP] at hset
  | .r :: q, p, .pair A C, o, x, x1, vs, ob, T, T', z, xs, _, _, _, hF, hs, hset, hq, hg => by
    have hF' := hF
    unfold Flat at hF; obtain ⟨u1, u2, c1, c2, rfl, rfl, h1, h2⟩ := hF
    simp only [getP] at hg
    obtain ⟨y, hy⟩ := setP_getP p _ hset
    match p, hset, hy with
    | [], hset, hy =>
      exfalso
      have := annAt_pure (.r :: q) o hs
      rw [hq] at this; simp [Ann.pure] at this
    | .r :: p, hset, hy =>
      simp only [setP, Option.bind_eq_some_iff, Option.some.injEq] at hset
      obtain ⟨u, hu, rfl⟩ := hset
      simp only [getP, offT]
      have := setP_keepP q p C h2 hs hu hq hg
      exact ⟨this.1, by omega⟩
    | .l :: p, hset, hy =>
      simp only [setP, Option.bind_eq_some_iff, Option.some.injEq] at hset
      obtain ⟨u, hu, rfl⟩ := hset
      simp only [getP, offT] at hy ⊢
      refine ⟨hg, .inr ?_⟩
      have := off_le h1 hy
      omega
    | .ix i :: p, hset, hy => simp [setP] at hset
  | .ix i :: q, p, T0, _, _, _, _, _, _, _, _, _, _, _, _, _, _, _, hq, _ => by simp [annAt] at hq
  | .l :: _, _, .int _, _, _, _, _, _, _, _, _, _, _, _, _, _, _, _, _, h | .l :: _, _, .bool, _, _, _, _, _, _, _, _, _, _, _, _, _, _, _, _, h | .l :: _, _, .str, _, _, _, _, _, _, _, _, _, _, _, _, _, _, _, _, h | .l :: _, _, .unit, _, _, _, _, _, _, _, _, _, _, _, _, _, _, _, _, h | .l :: _, _, .sl _, _, _, _, _, _, _, _, _, _, _, _, _, _, _, _, _, h | .l :: _, _, .arr _ _, _, _, _, _, _, _, _, _, _, _, _, _, _, _, _, _, h | .l :: _, _, .fn _ _, _, _, _, _, _, _, _, _, _, _, _, _, _, _, _, _, h => by simp [getP] at h
  | .r :: _, _, .int _, _, _, _, _, _, _, _, _, _, _, _, _, _, _, _, _, h | .r :: _, _, .bool, _, _, _, _, _, _, _, _, _, _, _, _, _, _, _, _, h | .r :: _, _, .str, _, _, _, _, _, _, _, _, _, _, _, _, _, _, _, _, h | .r :: _, _, .unit, _, _, _, _, _, _, _, _, _, _, _, _, _, _, _, _, h | .r :: _, _, .sl _, _, _, _, _, _, _, _, _, _, _, _, _, _, _, _, _, h | .r :: _, _, .arr _ _, _, _, _, _, _, _, _, _, _, _, _, _, _, _, _, _, h | .r :: _, _, .fn _ _, _, _, _, _, _, _, _, _, _, _, _, _, _, _, _, _, h => by simp [getP] at h

theorem annAt_ix : ∀ (p : Path) (o : Ann), hasIx p = true → (annAt o p).pure = true
  | [], _, h => by simp [hasIx] at h
  | .l :: p, o, h => by simp only [hasIx] at h; exact annAt_ix p o.l h
  | .r :: p, o, h => by simp only [hasIx] at h; exact annAt_ix p o.r h
  | .ix _ :: _, _, _ => rfl

/-- what is said of a part is what was said of it -/
theorem Flat.setAnn_self {P : Program} {w : World} {G : Nat → Nat → Prop} {B : Nat} : ∀ (p : Path) (T : Ty) {o : Ann} {x y : den T} {vs : List Value} {ob : OB} {z : TV}, getP T p y = some z → Flat P T w G B (setAnn o p (annAt o p)) x vs ob → Flat P T w G B o x vs ob
  | [], _, _, _, _, _, _, _, _, h => h
  | .ix _ :: _, _, _, _, _, _, _, _, _, h => h
  | .l :: p, .pair A C, o, x, y, vs, ob, z, hg, h => by
    simp only [getP] at hg
    unfold Flat at h ⊢
    obtain ⟨v1, v2, b1, b2, e1, e2, h1, h2⟩ := h
    exact ⟨v1, v2, b1, b2, e1, e2, Flat.setAnn_self p A hg h1, h2⟩
  | .r :: p, .pair A C, o, x, y, vs, ob, z, hg, h => by
    simp only [getP] at hg
    unfold Flat at h ⊢
    obtain ⟨v1, v2, b1, b2, e1, e2, h1, h2⟩ := h
    exact ⟨v1, v2, b1, b2, e1, e2, h1, Flat.setAnn_self p C hg h2⟩
  | .l :: _, .int _, _, _, _, _, _, _, h, _ | .l :: _, .bool, _, _, _, _, _, _, h, _ | .l :: _, .str, _, _, _, _, _, _, h, _ | .l :: _, .unit, _, _, _, _, _, _, h, _ | .l :: _, .sl _, _, _, _, _, _, _, h, _ | .l :: _, .arr _ _, _, _, _, _, _, _, h, _ | .l :: _, .fn _ _, _, _, _, _, _, _, h, _ => by simp [getP] at h
  | .r :: _, .int _, _, _, _, _, _, _, h, _ | .r :: _, .bool, _, _, _, _, _, _, h, _ | .r :: _, .str, _, _, _, _, _, _, h, _ | .r :: _, .unit, _, _, _, _, _, _, h, _ | .r :: _, .sl _, _, _, _, _, _, _, h, _ | .r :: _, .arr _ _, _, _, _, _, _, _, h, _ | .r :: _, .fn _ _, _, _, _, _, _, _, h, _ => by simp [getP] at h

section
variable {P : Program} {B : Nat} {G0 : Nat → Nat → Prop} {W0 : World} {n : Nat} {env : Env} {tm : Array Value} {a : Act} {w : World} {ob : Nat → OB} {cl : Cal}
variable {R : Type} {K : Kont R} {r : R} {next : Act → World → Prop} {Q : Exit → Act → World → Prop} {o : Oper} {i : AI}

theorem Below.setRow {b : Nat} (hb : B ≤ b) (cs : Array Value) : Below B w (w.setRow b cs) :=
  ⟨rfl, rfl, rfl, by simp, fun k hk => setRow_other w b k cs (by omega)⟩

/-- a block that one slot may write to gets other contents -/
theorem Conc.touch (hC : Conc P B G0 W0 n env tm w ob) {s b : Nat} (hb : (b, 0) ∈ ob s) (cs : Array Value) {e : E} (hhome : HomeEq w tm env (w.setRow b cs) tm ((s, e) :: env) s)
    (hnew : ERep P (w.setRow b cs) (Gd B G0 ob) B tm ((s, e) :: env) e (tm.getD s undef) (ob s)) : Conc P B G0 W0 n ((s, e) :: env) tm (w.setRow b cs) ob := by
  have hlow := hC.low s b (mem_blocks.2 ⟨_, hb⟩)
  refine Conc.step hC (Below.setRow hlow.1 cs) (fun b' i _ h => ⟨h, ?_⟩) (fun j => ?_) hC.dist hC.nodup (fun k b' hb' => by rw [setRow_size]; exact hC.low k b' hb') hC.size
  · refine cell_setRow_other w b cs _ ?_
    rintro rfl
    rcases h with ⟨h, _⟩ | ⟨_, h⟩
    · exact absurd h (by have := hlow.1; simp at this ⊢; omega)
    · exact absurd (h s 0 hb) (by simp)
  · by_cases hj : j = s
    · subst hj; right; rw [look_cons, if_pos rfl]; exact hnew
    · left
      rw [look_cons, if_neg (Ne.symm hj)]
      refine ⟨rfl, rfl, rfl, fun g hg => setRow_other w b g cs ?_, fun t ht => ?_⟩
      · rintro rfl; exact hj (hC.dist j s _ hg (mem_blocks.2 ⟨_, hb⟩))
      · by_cases hts : t = s
        · subst hts; exact hhome
        · refine HomeEq.same (P := P) (by rw [look_cons, if_neg (Ne.symm hts)]) rfl (hC.rep t) (fun g hg => setRow_other w b g cs ?_)
          rintro rfl; exact hts (hC.dist t s _ hg (mem_blocks.2 ⟨_, hb⟩))

theorem take_drop_mid {v1 v2 v3 u : List Value} (h : u.length = v2.length) : (v1 ++ v2 ++ v3).take v1.length ++ u ++ (v1 ++ v2 ++ v3).drop (v1.length + u.length) = v1 ++ u ++ v3 := by
  rw [h]; simp [List.drop_append]

/-- a scalar part of a variable is written -/
theorem store_scal (hC : Conc P B G0 W0 n env tm w ob) {s : Nat} {T0 T : Ty} {oa : Ann} {x0 x1 : den T0} {p : Path} {z : den T} {vs : List Value} (hs : look env s = .loc T0 oa x0) (hsc : scalarT T = true) (hset : setP T0 p x0 ⟨T, z⟩ = some x1)
    (hz : Flat P T w (fun _ _ => True) B .no z vs []) : ∃ b cur e, tm.getD s undef = .pointer (some ⟨b, 0, none⟩) ∧ w.heap[b]? = some (.cells cur e (0, 0)) ∧ offT T0 p + vs.length ≤ cur.size ∧
      Conc P B G0 W0 n ((s, .loc T0 oa x1) :: env) tm (w.setRow b (cur.toList.take (offT T0 p) ++ vs ++ cur.toList.drop (offT T0 p + vs.length)).toArray) ob := by
  obtain ⟨y, hy⟩ := setP_getP p T0 hset
  obtain ⟨b, cur, e, v1, v2, v3, b1, b2, b3, k1, k2, k3, k4, k5, k6, k7, k8⟩ := loc_part (a := ⟨tm, []⟩) hC hs hy
  have hlv : vs.length = v2.length := by rw [Flat.len P T hz, Flat.len P T k7]
  obtain ⟨hb2, _⟩ := Flat.scal P T hsc k7
  subst hb2
  have hz' : Flat P T w (Gd B G0 ob) B (annAt oa p) z vs [] := (Flat.scal P T hsc hz).2 _ _ _ _
  have hnew := k8 _ z vs [] x1 (fun h => annAt_ix p oa h) hz' hset
  have hnew := Flat.setAnn_self p T0 hy hnew
  have hcs : (cur.toList.take (offT T0 p) ++ vs ++ cur.toList.drop (offT T0 p + vs.length)) = v1 ++ vs ++ v3 := by
    rw [k4, ← k5]; exact take_drop_mid hlv
  have hb0 : (b, 0) ∈ ob s := by rw [k6]; simp
  refine ⟨b, cur, e, k1, k2, ?_, ?_⟩
  · have : cur.size = cur.toList.length := by simp
    rw [this, k4, ← k5, hlv]; simp
  · rw [hcs]
    have hr := hC.rep s
    rw [hs] at hr
    obtain ⟨b', cur', e', ob', l1, l2, l3, l4, l5⟩ := hr
    rw [show tm.getD s undef = _ from k1] at l1; cases l1
    rw [k2] at l3; cases l3
    refine Conc.touch hC hb0 _ ⟨fun q v hq hv => ?_, fun q h hq => ?_, fun T o x hx => ?_⟩ ?_
    · simp only [headAt, hs, k1] at hv
      simp only [headAt]; rw [look_cons, if_pos rfl]; simp only [k1]
      simp only [heldAt, hs] at hq
      split at hq
      · rename_i wr ed o' T' xs ha hg
        have hk := setP_keep q p T0 l4 hsc hset (annAt_own_noIx q oa ha) hg
        have hle := off_le l4 hg
        rw [cell_setRow_same w b _ cur _ e (0, 0) k2, ← hv, cell_of_row w b _ cur e (0, 0) k2]
        have hcur : ∀ j, cur[j]? = (v1 ++ v2 ++ v3)[j]? := fun j => by rw [← Array.getElem?_toList, k4]
        rw [hcur]
        simp only [List.getElem?_toArray]
        rcases hk.2 with hlt | hge
        · rw [← k5] at hlt
          rw [List.append_assoc, List.getElem?_append_left hlt, List.append_assoc, List.getElem?_append_left hlt]
        · rw [← k5] at hge
          have hl2 := Flat.len P T hz
          rw [List.append_assoc, List.getElem?_append_right (by omega), List.getElem?_append_right (by omega), List.append_assoc, List.getElem?_append_right (by omega), List.getElem?_append_right (by omega), hlv]
      · simp at hq
    · simp only [heldAt, hs] at hq
      simp only [heldAt]; rw [look_cons, if_pos rfl]
      simp only
      split at hq
      · rename_i wr ed o' T' xs ha hg
        simp only [Option.some.injEq] at hq; subst hq
        have hk := setP_keep q p T0 l4 hsc hset (annAt_own_noIx q oa ha) hg
        exact ⟨_, by rw [ha, hk.1], rfl, rfl⟩
      · simp at hq
    · rw [hs] at hx; cases hx
      exact ⟨_, _, by rw [look_cons, if_pos rfl], rfl⟩
    · refine ⟨b, _, e, b1 ++ [] ++ b3, k1, k3, setRow_heap w b cur _ e (0, 0) k2, ?_, k6⟩
      have hnd := hC.nodup s
      rw [k6] at hnd
      simp only [blocks_cons, List.nodup_cons] at hnd
      refine Flat.mono P T0 (fun b' i hb' h => ⟨h, ?_⟩) ⟨by simp, fun k hk => setRow_other w b k _ (by omega)⟩ (fun g hg => setRow_other w b g _ ?_) hnew
      · refine cell_setRow_other w b _ _ ?_
        rintro rfl
        rcases h with ⟨h, _⟩ | ⟨_, h⟩
        · exact absurd h (by simp; omega)
        · exact absurd (h s 0 hb0) (by simp)
      · rintro rfl; exact hnd.1 hg

/-- a part of a variable where nothing is held is written -/
theorem store_pure (hC : Conc P B G0 W0 n env tm w ob) {s : Nat} {T0 T : Ty} {oa : Ann} {x0 x1 : den T0} {p : Path} {z : den T} {vs : List Value} (hs : look env s = .loc T0 oa x0) (hsc : (annAt oa p).pure = true) (hset : setP T0 p x0 ⟨T, z⟩ = some x1)
    (hz : Flat P T w (Gd B G0 ob) B .no z vs []) : ∃ b cur e, tm.getD s undef = .pointer (some ⟨b, 0, none⟩) ∧ w.heap[b]? = some (.cells cur e (0, 0)) ∧ offT T0 p + vs.length ≤ cur.size ∧
      Conc P B G0 W0 n ((s, .loc T0 oa x1) :: env) tm (w.setRow b (cur.toList.take (offT T0 p) ++ vs ++ cur.toList.drop (offT T0 p + vs.length)).toArray) ob := by
  obtain ⟨y, hy⟩ := setP_getP p T0 hset
  obtain ⟨b, cur, e, v1, v2, v3, b1, b2, b3, k1, k2, k3, k4, k5, k6, k7, k8⟩ := loc_part (a := ⟨tm, []⟩) hC hs hy
  have hlv : vs.length = v2.length := by rw [Flat.len P T hz, Flat.len P T k7]
  have hb2 := (Flat.pure P T hsc (o' := .no) rfl k7).1
  subst hb2
  have hz' : Flat P T w (Gd B G0 ob) B (annAt oa p) z vs [] := (Flat.pure P T (o := .no) rfl hsc hz).2
  have hnew := k8 _ z vs [] x1 (fun h => annAt_ix p oa h) hz' hset
  have hnew := Flat.setAnn_self p T0 hy hnew
  have hcs : (cur.toList.take (offT T0 p) ++ vs ++ cur.toList.drop (offT T0 p + vs.length)) = v1 ++ vs ++ v3 := by
    rw [k4, ← k5]; exact take_drop_mid hlv
  have hb0 : (b, 0) ∈ ob s := by rw [k6]; simp
  refine ⟨b, cur, e, k1, k2, ?_, ?_⟩
  · have : cur.size = cur.toList.length := by simp
    rw [this, k4, ← k5, hlv]; simp
  · rw [hcs]
    have hr := hC.rep s
    rw [hs] at hr
    obtain ⟨b', cur', e', ob', l1, l2, l3, l4, l5⟩ := hr
    rw [show tm.getD s undef = _ from k1] at l1; cases l1
    rw [k2] at l3; cases l3
    refine Conc.touch hC hb0 _ ⟨fun q v hq hv => ?_, fun q h hq => ?_, fun T o x hx => ?_⟩ ?_
    · simp only [headAt, hs, k1] at hv
      simp only [headAt]; rw [look_cons, if_pos rfl]; simp only [k1]
      simp only [heldAt, hs] at hq
      split at hq
      · rename_i wr ed o' T' xs ha hg
        have hk := setP_keepP q p T0 l4 hsc hset ha hg
        have hle := off_le l4 hg
        rw [cell_setRow_same w b _ cur _ e (0, 0) k2, ← hv, cell_of_row w b _ cur e (0, 0) k2]
        have hcur : ∀ j, cur[j]? = (v1 ++ v2 ++ v3)[j]? := fun j => by rw [← Array.getElem?_toList, k4]
        rw [hcur]
        simp only [List.getElem?_toArray]
        rcases hk.2 with hlt | hge
        · rw [← k5] at hlt
          rw [List.append_assoc, List.getElem?_append_left hlt, List.append_assoc, List.getElem?_append_left hlt]
        · rw [← k5] at hge
          have hl2 := Flat.len P T hz
          rw [List.append_assoc, List.getElem?_append_right (by omega), List.getElem?_append_right (by omega), List.append_assoc, List.getElem?_append_right (by omega), List.getElem?_append_right (by omega), hlv]
      · simp at hq
    · simp only [heldAt, hs] at hq
      simp only [heldAt]; rw [look_cons, if_pos rfl]
      simp only
      split at hq
      · rename_i wr ed o' T' xs ha hg
        simp only [Option.some.injEq] at hq; subst hq
        have hk := setP_keepP q p T0 l4 hsc hset ha hg
        exact ⟨_, by rw [ha, hk.1], rfl, rfl⟩
      · simp at hq
    · rw [hs] at hx; cases hx
      exact ⟨_, _, by rw [look_cons, if_pos rfl], rfl⟩
    · refine ⟨b, _, e, b1 ++ [] ++ b3, k1, k3, setRow_heap w b cur _ e (0, 0) k2, ?_, k6⟩
      have hnd := hC.nodup s
      rw [k6] at hnd
      simp only [blocks_cons, List.nodup_cons] at hnd
      refine Flat.mono P T0 (fun b' i hb' h => ⟨h, ?_⟩) ⟨by simp, fun k hk => setRow_other w b k _ (by omega)⟩ (fun g hg => setRow_other w b g _ ?_) hnew
      · refine cell_setRow_other w b _ _ ?_
        rintro rfl
        rcases h with ⟨h, _⟩ | ⟨_, h⟩
        · exact absurd h (by simp; omega)
        · exact absurd (h s 0 hb0) (by simp)
      · rintro rfl; exact hnd.1 hg

def obNew (ob : Nat → OB) (s : Nat) (k : Option Nat) (bs : OB) (j : Nat) : OB := if j = s then bs else if k = some j then [] else ob j
theorem obNew_s (s : Nat) (k : Option Nat) (bs : OB) : obNew ob s k bs s = bs := by simp [obNew]
theorem obNew_k {s : Nat} {k : Option Nat} {j : Nat} (bs : OB) (h : j ≠ s) (hk : k = some j) : obNew ob s k bs j = [] := by simp [obNew, h, hk]
theorem obNew_o {s : Nat} {k : Option Nat} {j : Nat} (bs : OB) (h : j ≠ s) (hk : k ≠ some j) : obNew ob s k bs j = ob j := by simp [obNew, h, hk]

/-- a part of a variable is written: what a temporary holds (k), or what nobody holds -/
theorem store_into (hC : Conc P B G0 W0 n env tm w ob) {s : Nat} {T0 T : Ty} {oa o2 : Ann} {x0 x1 : den T0} {p : Path} {z : den T} {vs : List Value} {k : Option Nat} {c : OB} {env1 : Env} (hs : look env s = .loc T0 oa x0) (hset : setP T0 p x0 ⟨T, z⟩ = some x1)
    (hks : ∀ j, k = some j → j ≠ s) (hc : c = match k with | some j => ob j | none => []) (hix : hasIx p = true → o2.pure = true) (hz : Flat P T w (Gd B G0 ob) B o2 z vs c)
    (hl : ∀ j, j ≠ s → (k = some j ∧ look env1 j = .ref s p ∧ vs = [tm.getD j undef] ∧ (heldAt ((s, .loc T0 (setAnn oa p o2) x1) :: env1) s p).isSome = true) ∨
      (k ≠ some j ∧ ((look env1 j = .dead ∧ ∃ t, leads t (look env j) = true) ∨ (look env1 j = look env j ∧ shows s (look env j) = false ∧ ∀ t, k = some t → leads t (look env j) = false)))) :
    ∃ b cur e, tm.getD s undef = .pointer (some ⟨b, 0, none⟩) ∧ w.heap[b]? = some (.cells cur e (0, 0)) ∧ offT T0 p + vs.length ≤ cur.size ∧
      ∃ ob', Conc P B G0 W0 n ((s, .loc T0 (setAnn oa p o2) x1) :: env1) tm (w.setRow b (cur.toList.take (offT T0 p) ++ vs ++ cur.toList.drop (offT T0 p + vs.length)).toArray) ob' := by
  obtain ⟨y, hy⟩ := setP_getP p T0 hset
  obtain ⟨b, cur, e, v1, v2, v3, b1, b2, b3, k1, k2, k3, k4, k5, k6, k7, k8⟩ := loc_part (a := ⟨tm, []⟩) hC hs hy
  have hlv : vs.length = v2.length := by rw [Flat.len P T hz, Flat.len P T k7]
  have hnew := k8 _ z vs c x1 hix hz hset
  have hcs : (cur.toList.take (offT T0 p) ++ vs ++ cur.toList.drop (offT T0 p + vs.length)) = v1 ++ vs ++ v3 := by
    rw [k4, ← k5]; exact take_drop_mid hlv
  have hb0 : (b, 0) ∈ ob s := by rw [k6]; simp
  refine ⟨b, cur, e, k1, k2, ?_, ?_⟩
  · have : cur.size = cur.toList.length := by simp
    rw [this, k4, ← k5, hlv]; simp
  rw [hcs]
  -- the records
  have hck : ∀ q, q ∈ c → ∃ t, k = some t ∧ t ≠ s ∧ q ∈ ob t := by
    intro q hq
    cases k with
    | none => rw [hc] at hq; exact absurd hq (by simp)
    | some t => rw [hc] at hq; exact ⟨t, rfl, hks t rfl, hq⟩
  have hcd : ∀ x, x ∈ blocks c → ∃ t, k = some t ∧ t ≠ s ∧ x ∈ blocks (ob t) := by
    intro x hx
    obtain ⟨l, hx⟩ := mem_blocks.1 hx
    obtain ⟨t, h1, h2, h3⟩ := hck _ hx
    exact ⟨t, h1, h2, mem_blocks.2 ⟨l, h3⟩⟩
  have hnd := hC.nodup s
  rw [k6] at hnd
  simp only [blocks_cons, blocks_append, List.nodup_cons] at hnd
  have hcn : (blocks c).Nodup := by
    cases k with
    | none => rw [hc]; simp
    | some t => rw [hc]; exact hC.nodup t
  have hcs' : ∀ x, x ∈ blocks c → x ∉ blocks (ob s) := by
    intro x hx hx'
    obtain ⟨t, _, h2, h3⟩ := hcd x hx
    exact h2 (hC.dist t s x h3 hx')
  have hbn : b ∉ blocks (b1 ++ c ++ b3) := by
    intro h
    simp only [blocks_append, List.mem_append] at h hnd
    rcases h with (h | h) | h
    · exact hnd.1 (.inl (.inl h))
    · exact hcs' b h (mem_blocks.2 ⟨0, hb0⟩)
    · exact hnd.1 (.inr h)
  have from_ : ∀ j q, q ∈ obNew ob s k ((b, 0) :: (b1 ++ c ++ b3)) j → (j = s ∧ (q ∈ ob s ∨ q ∈ c)) ∨ (j ≠ s ∧ k ≠ some j ∧ q ∈ ob j) := by
    intro j q hq
    by_cases h : j = s
    · subst h
      rw [obNew_s] at hq
      refine .inl ⟨rfl, ?_⟩
      simp only [List.mem_cons, List.mem_append] at hq
      rw [k6]
      simp only [List.mem_cons, List.mem_append]
      rcases hq with h | (h | h) | h
      · exact .inl (.inl h)
      · exact .inl (.inr (.inl (.inl h)))
      · exact .inr h
      · exact .inl (.inr (.inr h))
    · by_cases h2 : k = some j
      · rw [obNew_k _ h h2] at hq; exact absurd hq (by simp)
      · rw [obNew_o _ h h2] at hq; exact .inr ⟨h, h2, hq⟩
  have src : ∀ j q, q ∈ obNew ob s k ((b, 0) :: (b1 ++ c ++ b3)) j → ∃ j', q ∈ ob j' ∧ ((j = s ∧ (j' = s ∨ k = some j')) ∨ (j ≠ s ∧ k ≠ some j ∧ j' = j)) := by
    intro j q hq
    rcases from_ j q hq with ⟨h1, h2 | h2⟩ | ⟨h1, h2, h3⟩
    · exact ⟨s, h2, .inl ⟨h1, .inl rfl⟩⟩
    · obtain ⟨t, h3, _, h4⟩ := hck q h2
      exact ⟨t, h4, .inl ⟨h1, .inr h3⟩⟩
    · exact ⟨j, h3, .inr ⟨h1, h2, rfl⟩⟩
  have hGd : ∀ b' i, Gd B G0 ob b' i → Gd B G0 (obNew ob s k ((b, 0) :: (b1 ++ c ++ b3))) b' i := fun b' i h =>
    Gd_sub (fun j x lim hj => by obtain ⟨j', h1, _⟩ := src j _ hj; exact ⟨j', lim, h1, Nat.le_refl _⟩) h
  have hcell : ∀ b' i, Gd B G0 ob b' i → (w.setRow b (v1 ++ vs ++ v3).toArray).cell? ⟨b', i, none⟩ = w.cell? ⟨b', i, none⟩ := by
    intro b' i h
    refine cell_setRow_other w b _ _ ?_
    rintro rfl
    rcases h with ⟨h, _⟩ | ⟨_, h⟩
    · exact absurd h (by simp; omega)
    · exact absurd (h s 0 hb0) (by simp)
  refine ⟨obNew ob s k ((b, 0) :: (b1 ++ c ++ b3)), Conc.step hC (Below.setRow k3 _) (fun b' i _ h => ⟨hGd b' i h, hcell b' i h⟩) (fun j => ?_) ?_ ?_ ?_ hC.size⟩
  · by_cases hj : j = s
    · subst hj
      right
      rw [look_cons, if_pos rfl, obNew_s]
      refine ⟨b, _, e, b1 ++ c ++ b3, k1, k3, setRow_heap w b cur _ e (0, 0) k2, ?_, rfl⟩
      refine Flat.mono P T0 (fun b' i _ h => ⟨hGd b' i h, hcell b' i h⟩) ⟨by simp, fun t ht => setRow_other w b t _ (by omega)⟩ (fun g hg => setRow_other w b g _ ?_) hnew
      rintro rfl; exact hbn hg
    · rcases hl j hj with ⟨h1, h2, h3, h4⟩ | ⟨h1, ⟨h2, t, h3⟩ | ⟨h2, h3, h4⟩⟩
      · right
        rw [look_cons, if_neg (Ne.symm hj), h2, obNew_k _ hj h1]
        refine ⟨rfl, ?_, h4⟩
        simp only [headAt]; rw [look_cons, if_pos rfl]; simp only [k1]
        rw [cell_setRow_same w b _ cur _ e (0, 0) k2, h3, ← k5]
        simp
      · right
        rw [look_cons, if_neg (Ne.symm hj), h2, obNew_o _ hj h1]
        exact (ERep.leads h3 (hC.rep j)).2
      · have hbj : ∀ g ∈ blocks (ob j), (w.setRow b (v1 ++ vs ++ v3).toArray).heap[g]? = w.heap[g]? := by
          intro g hg
          refine setRow_other w b g _ ?_
          rintro rfl; exact hj (hC.dist j s _ hg (mem_blocks.2 ⟨_, hb0⟩))
        by_cases hld : leads s (look env j) = true
        · right
          rw [look_cons, if_neg (Ne.symm hj), h2, obNew_o _ hj h1]
          have hr := hC.rep j
          cases hej : look env j with
          | ptr s' q =>
            rw [hej] at hr hld
            simp only [leads, beq_iff_eq] at hld; subst hld
            obtain ⟨m0, T', o', x', b', m1, m2, m3, m4⟩ := hr
            rw [hs] at m1; cases m1
            exact ⟨m0, T0, _, _, b', by rw [look_cons, if_pos rfl], m2, m3, m4⟩
          | _ =>
            rw [hej] at hld h3
            exact absurd (h3.symm.trans hld) (by simp)
        · left
          rw [look_cons, if_neg (Ne.symm hj), obNew_o _ hj h1]
          refine ⟨h2, rfl, rfl, hbj, fun t ht => ?_⟩
          have hts : t ≠ s := by rintro rfl; exact hld ht
          have hhome := (ERep.leads ht (hC.rep j)).1
          have htk : k ≠ some t := by intro h; rw [h4 t h] at ht; exact absurd ht (by simp)
          refine HomeEq.same (P := P) ?_ rfl (hC.rep t) (fun g hg => setRow_other w b g _ ?_)
          · rw [look_cons, if_neg (Ne.symm hts)]
            rcases hl t hts with ⟨m1, _⟩ | ⟨_, ⟨_, t', m3⟩ | ⟨m2, _⟩⟩
            · exact absurd m1 htk
            · rw [leads_home hhome] at m3; exact absurd m3 (by simp)
            · exact m2
          · rintro rfl; exact hts (hC.dist t s _ hg (mem_blocks.2 ⟨_, hb0⟩))
  · intro i j x hi hj
    obtain ⟨l1, hi⟩ := mem_blocks.1 hi
    obtain ⟨l2, hj⟩ := mem_blocks.1 hj
    obtain ⟨i', h1, h2⟩ := src i _ hi
    obtain ⟨j', h3, h4⟩ := src j _ hj
    have := hC.dist i' j' x (mem_blocks.2 ⟨_, h1⟩) (mem_blocks.2 ⟨_, h3⟩)
    subst this
    rcases h2 with ⟨rfl, h2⟩ | ⟨h2, h5, rfl⟩ <;> rcases h4 with ⟨rfl, h4⟩ | ⟨h4, h6, rfl⟩
    · rfl
    · rcases h2 with h2 | h2
      · exact h2.symm
      · exact absurd h2 h6
    · rcases h4 with h4 | h4
      · exact h4
      · exact absurd h4 h5
    · rfl
  · intro j
    by_cases h : j = s
    · subst h
      rw [obNew_s]
      simp only [blocks_cons, List.nodup_cons]
      refine ⟨hbn, ?_⟩
      simp only [blocks_append]
      obtain ⟨h1, h2⟩ := hnd
      rw [List.nodup_append] at h2 ⊢
      obtain ⟨h3, h4, h5⟩ := h2
      rw [List.nodup_append] at h3 ⊢
      refine ⟨⟨h3.1, hcn, fun x hx y hy hxy => ?_⟩, h4, fun x hx y hy hxy => ?_⟩
      · subst hxy
        refine hcs' x hy ?_
        rw [k6]; simp only [blocks_cons, blocks_append, List.mem_cons, List.mem_append]; exact .inr (.inl (.inl hx))
      · subst hxy
        rcases List.mem_append.1 hx with hx | hx
        · exact h5 x (List.mem_append_left _ hx) x hy rfl
        · refine hcs' x hx ?_
          rw [k6]; simp only [blocks_cons, blocks_append, List.mem_cons, List.mem_append]; exact .inr (.inr hy)
    · by_cases h2 : k = some j
      · rw [obNew_k _ h h2]; simp
      · rw [obNew_o _ h h2]; exact hC.nodup j
  · intro j x hx
    obtain ⟨l, hx⟩ := mem_blocks.1 hx
    obtain ⟨j', h1, _⟩ := src j _ hx
    rw [setRow_size]
    exact hC.low j' x (mem_blocks.2 ⟨_, h1⟩)


theorem setP_same : ∀ (p : Path) (T : Ty) {x x1 : den T} {T' : Ty} {z : den T'}, hasIx p = false → setP T p x ⟨T', z⟩ = some x1 → getP T p x1 = some ⟨T', z⟩
  | [], T, x, x1, T', z, _, h => by
    simp only [setP] at h
    have := cast?_some h; cases this
    cases T <;> rfl
  | .l :: p, .pair A C, x, x1, T', z, hp, h => by
    simp only [setP, Option.bind_eq_some_iff, Option.some.injEq] at h; obtain ⟨u, h, rfl⟩ := h
    simp only [getP]; exact setP_same p A hp h
  | .r :: p, .pair A C, x, x1, T', z, hp, h => by
    simp only [setP, Option.bind_eq_some_iff, Option.some.injEq] at h; obtain ⟨u, h, rfl⟩ := h
    simp only [getP]; exact setP_same p C hp h
  | .ix _ :: _, _, _, _, _, _, hp, _ => by simp [hasIx] at hp
  | .l :: _, .int _, _, _, _, _, _, h | .l :: _, .bool, _, _, _, _, _, h | .l :: _, .str, _, _, _, _, _, h | .l :: _, .unit, _, _, _, _, _, h | .l :: _, .sl _, _, _, _, _, _, h | .l :: _, .arr _ _, _, _, _, _, _, h | .l :: _, .fn _ _, _, _, _, _, _, h => by simp [setP] at h
  | .r :: _, .int _, _, _, _, _, _, h | .r :: _, .bool, _, _, _, _, _, h | .r :: _, .str, _, _, _, _, _, h | .r :: _, .unit, _, _, _, _, _, h | .r :: _, .sl _, _, _, _, _, _, h | .r :: _, .arr _ _, _, _, _, _, _, h | .r :: _, .fn _ _, _, _, _, _, _, h => by simp [setP] at h

theorem annAt_set : ∀ (p : Path) (o b : Ann), hasIx p = false → annAt (setAnn o p b) p = b
  | [], _, _, _ => rfl
  | .l :: p, o, b, h => annAt_set p o.l b h
  | .r :: p, o, b, h => annAt_set p o.r b h
  | .ix _ :: _, _, _, h => by simp [hasIx] at h

theorem pub_scal {x : Od} {env' : Env} {T : Ty} {z : den T} (h : pub env x = some (env', ⟨T, z⟩)) (hs : scalarT T = true) : env' = env := by
  unfold pub at h
  simp only [Option.bind_eq_some_iff, Option.some.injEq, Prod.mk.injEq] at h
  obtain ⟨y, h1, h2, rfl⟩ := h
  unfold imm at h1
  split at h1
  · rename_i T' x' he
    rw [he] at h2; exact h2.symm
  · split at h1
    · simp only [Option.some.injEq] at h1; cases h1; simp [scalarT] at hs
    · simp at h1
  · simp only [Option.bind_eq_some_iff] at h1
    obtain ⟨hh, _, h1⟩ := h1
    split at h1
    · simp only [Option.some.injEq] at h1; cases h1; simp [scalarT] at hs
    · simp at h1
  · simp at h1

/-- a part of an element of a slice that may be written -/
theorem store_elem (hC : Conc P B G0 W0 n env tm w ob) {s : Nat} {e : TypeId} {T0 T : Ty} {oa : Ann} {xs : List (den T0)} {j : Nat} {q : Path} {z : den T} {u : den T0} {vs : List Value} (hs : look env s = .own true e T0 oa xs) (ho : oa.pure = true) (hj : j < xs.length)
    (hset : setP T0 q (xs.getD j (zero T0)) ⟨T, z⟩ = some u) (hz : Flat P T w (Gd B G0 ob) B .no z vs []) :
    ∃ g cap cur e' fz, tm.getD s undef = .slice (some ⟨g, 0, none⟩) xs.length cap ∧ w.heap[g]? = some (.cells cur e' fz) ∧ frzOk fz cur.size ∧ (j * cellsN T0 + offT T0 q) + vs.length ≤ cur.size ∧
      Conc P B G0 W0 n ((s, .own true e T0 oa (xs.set j u)) :: env) tm (w.setRow g (cur.toList.take (j * cellsN T0 + offT T0 q) ++ vs ++ cur.toList.drop ((j * cellsN T0 + offT T0 q) + vs.length)).toArray) ob := by
  have hr := hC.rep s
  rw [hs] at hr
  change Flat P (.sl T0) w (Gd B G0 ob) B (.own true e oa) xs [tm.getD s undef] (ob s) at hr
  unfold Flat at hr
  obtain ⟨v', cells, ob', e1, hrow, hel, hob⟩ := hr
  simp only [List.cons.injEq, and_true] at e1
  subst e1
  obtain ⟨hobn, hel0⟩ := Elems.pure P (o' := .no) ho rfl hel
  subst hobn
  have hrow' := hrow
  rcases hrow.2 with ⟨_, hn⟩ | ⟨g, cap, cur, e1, fz, hv, hBg, hg, hnc, hcm, hcs, htake, hbf, hfz⟩
  · omega
  have hg0 : (g, 0) ∈ ob s := by rw [hob, hv]; simp [obOf, Value.ownBlock]
  obtain ⟨y, hy⟩ := setP_getP q T0 hset
  obtain ⟨v1, v2, v3, c1, c2, c3, f1, f2, f3, f4, f5⟩ := Elems.split (fun x v b hx => Flat.len P _ hx) j (zero T0) hel0 hj
  obtain ⟨u1, u2, u3, d1, d2, d3, g1, g2, g3, g4, g5⟩ := Flat.lens P q T0 f4 hy
  have hlv : vs.length = u2.length := by rw [Flat.len P T hz, Flat.len P T g4]
  have hc : c1 = [] ∧ c2 = [] ∧ c3 = [] := by
    have : c1 ++ c2 ++ c3 = [] := f2.symm
    simp at this; exact ⟨this.1, this.2.1, this.2.2⟩
  obtain ⟨rfl, rfl, rfl⟩ := hc
  have hd : d1 = [] ∧ d2 = [] ∧ d3 = [] := by
    have : d1 ++ d2 ++ d3 = [] := g2.symm
    simp at this; exact ⟨this.1, this.2.1, this.2.2⟩
  obtain ⟨rfl, rfl, rfl⟩ := hd
  have hnew := f5 u (u1 ++ vs ++ u3) [] (by
    have := g5 .no z vs [] u (fun _ => rfl) hz hset
    exact (Flat.pure P T0 (setAnn_pure q .no .no rfl rfl) (o' := .no) rfl this).2)
  have hcur : cur.toList = (v1 ++ u1) ++ u2 ++ (u3 ++ v3 ++ cur.toList.drop (xs.length * cellsN T0)) := by
    rw [← List.take_append_drop (xs.length * cellsN T0) cur.toList, htake, f1, g1]
    have : (v1 ++ (u1 ++ u2 ++ u3) ++ v3).length = xs.length * cellsN T0 := by rw [← g1, ← f1]; exact hrow.1
    have h2 : (v1 ++ (u1 ++ u2 ++ u3) ++ v3 ++ cur.toList.drop (xs.length * cellsN T0)).drop (xs.length * cellsN T0) = cur.toList.drop (xs.length * cellsN T0) := by
      rw [← this, List.drop_left]
    rw [h2]
    simp only [List.append_assoc]
  have hoff : (v1 ++ u1).length = j * cellsN T0 + offT T0 q := by rw [List.length_append, f3, g3]
  have hcs2 : (cur.toList.take (j * cellsN T0 + offT T0 q) ++ vs ++ cur.toList.drop ((j * cellsN T0 + offT T0 q) + vs.length)) = (v1 ++ u1) ++ vs ++ (u3 ++ v3 ++ cur.toList.drop (xs.length * cellsN T0)) := by
    rw [← hoff]
    have := take_drop_mid (v1 := v1 ++ u1) (v3 := u3 ++ v3 ++ cur.toList.drop (xs.length * cellsN T0)) hlv
    rw [← hcur] at this
    exact this
  refine ⟨g, cap, cur, e1, fz, hv, hg, hfz, ?_, ?_⟩
  · have : cur.size = cur.toList.length := by simp
    rw [this, hcur, ← hoff, hlv]; simp only [List.length_append]; omega
  rw [hcs2]
  have hlow := hC.low s g (mem_blocks.2 ⟨_, hg0⟩)
  refine Conc.touch hC hg0 _ ⟨fun q v hq hv => ?_, fun q h hq => ?_, fun T o x hx => ?_⟩ ?_
  · simp only [headAt, hs] at hv
    simp only [headAt]; rw [look_cons, if_pos rfl]; exact hv
  · simp only [heldAt, hs] at hq
    simp only [heldAt]; rw [look_cons, if_pos rfl]
    cases q with
    | nil => simp only [Option.some.injEq] at hq; subst hq; exact ⟨_, rfl, rfl, by simp⟩
    | cons => exact absurd hq (by simp)
  · rw [hs] at hx; exact absurd hx (by simp)
  · have hcell : ∀ b' i, Gd B G0 ob b' i → (w.setRow g ((v1 ++ u1) ++ vs ++ (u3 ++ v3 ++ cur.toList.drop (xs.length * cellsN T0))).toArray).cell? ⟨b', i, none⟩ = w.cell? ⟨b', i, none⟩ := by
      intro b' i h
      refine cell_setRow_other w g _ _ ?_
      rintro rfl
      rcases h with ⟨h, _⟩ | ⟨_, h⟩
      · exact absurd h (by simp; omega)
      · exact absurd (h s 0 hg0) (by simp)
    have hlen2 : (v1 ++ (u1 ++ vs ++ u3) ++ v3).length = xs.length * cellsN T0 := by
      have h1 : cells.length = xs.length * cellsN T0 := hrow.1
      rw [f1, g1] at h1
      simp only [List.length_append] at h1 ⊢
      omega
    show Flat P (.sl T0) _ (Gd B G0 ob) B (.own true e oa) (xs.set j u) [tm.getD s undef] (ob s)
    unfold Flat
    refine ⟨_, v1 ++ (u1 ++ vs ++ u3) ++ v3, [], rfl, ⟨by rw [List.length_set]; exact hlen2, .inr ⟨g, cap, _, e1, fz, by rw [List.length_set]; exact hv, hBg, setRow_heap w g cur _ e1 fz hg, by rw [List.length_set]; exact hnc, hcm, ?_, ?_, hbf, ?_⟩⟩, ?_, ?_⟩
    · rw [← hcs]
      have h1 : cur.size = cur.toList.length := by simp
      have h2 := congrArg List.length hcur
      rw [h1, h2]
      simp only [List.size_toArray, List.length_append]; omega
    · simp only [List.length_set]
      have h1 : (v1 ++ u1) ++ vs ++ (u3 ++ v3 ++ cur.toList.drop (xs.length * cellsN T0)) = (v1 ++ (u1 ++ vs ++ u3) ++ v3) ++ cur.toList.drop (xs.length * cellsN T0) := by simp only [List.append_assoc]
      rw [h1, ← hlen2]
      simp only [List.take_left]
    · have hz1 : cur.size = cur.toList.length := by simp
      have hz2 := congrArg List.length hcur
      rcases hfz with h | h
      · exact .inl h
      · right; simp only [List.size_toArray, List.length_append] at hz2 ⊢; omega
    · exact Elems.imp (fun x v b hb hx => by
        have : b = [] := by cases b with | nil => rfl | cons q r => exact absurd (hb q (by simp)) (by simp)
        subst this
        have hx2 : Flat P T0 (w.setRow g ((v1 ++ u1) ++ vs ++ (u3 ++ v3 ++ cur.toList.drop (xs.length * cellsN T0))).toArray) (Gd B G0 ob) B .no x v [] := Flat.mono P T0 (fun b' i _ h => ⟨h, hcell b' i h⟩) ⟨by simp, fun t ht => setRow_other w g t _ (by omega)⟩ (by simp) hx
        exact (Flat.pure P T0 (o := .no) rfl ho hx2).2) (by simpa using hnew)
    · rw [hob]; simp

end
end Go.Fw
