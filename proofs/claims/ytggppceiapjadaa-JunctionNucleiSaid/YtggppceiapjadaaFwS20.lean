/- Soundness, part 20: store. -/
import Derived.Test.YtggppceiapjadaaFwEl
set_option linter.unusedVariables false
set_option linter.unusedSimpArgs false
namespace Go.Fw
open Go Go.RowKit

section
variable {P : Program} {B : Nat} {G0 : Nat → Nat → Prop} {W0 : World} {n : Nat} {env : Env} {tm : Array Value} {a : Act} {w : World} {ob : Nat → OB} {cl : Cal}
variable {R : Type} {K : Kont R} {r : R} {next : Act → World → Prop} {Q : Exit → Act → World → Prop} {o : Oper} {i : AI}

theorem pub_look {y : Od} {env' : Env} {z : TV} (h : pub env y = some (env', z)) {s : Nat} {e : TypeId} {T : Ty} {oa : Ann} {xs : List (den T)} (hs : look env' s = .own true e T oa xs) : look env s = .own true e T oa xs := by
  unfold pub at h
  simp only [Option.bind_eq_some_iff, Option.some.injEq, Prod.mk.injEq] at h
  obtain ⟨_, _, h2, _⟩ := h
  split at h2
  · rename_i s' _
    subst h2
    rcases Fz.freeze env s' s with h3 | ⟨wr, ed, T', o', xs', _, h3⟩ | ⟨T', o', x', _, h3⟩
    · rw [← h3]; exact hs
    · rw [h3] at hs; cases hs
    · rw [h3] at hs; cases hs
  · rw [h2]; exact hs

theorem run_store {t : TypeId} {T : Ty} {x y : Operand} (ho : o.op = .store t x y) (hT : TyR P t T) {g off : Nat} {e : TypeId} {fz : Nat × Nat} {cur : Array Value} {vs : List Value} (hx : a.eval x = .pointer (some ⟨g, off, none⟩)) (hy : a.eval y = asVal T vs)
    (hg : w.heap[g]? = some (.cells cur e fz)) (hfz : frzOk fz cur.size) (hl : vs.length = cellsN T) (h1 : ∀ u ∈ vs, u.oneCell' = true) (hfit : off + vs.length ≤ cur.size) :
    (execOp a.eval o).run P w = .ok .skip (w.setRow g (cur.toList.take off ++ vs ++ cur.toList.drop (off + vs.length)).toArray) := by
  have := run_storeT hT w hg hfz hl h1 hfit
  simp [execOp, ho, hx, hy, Instr.storeAt, Instr.sureAddr, this]

theorem wp_none (hdn : o.dst = none) {w' : World} (hrun : (execOp a.eval o).run P w = .ok .skip w') (h : next a w') : o.wp P a w next Q := by
  refine wp_unit hrun ?_
  rw [hdn]; exact h

theorem look_kk (s k j : Nat) (env : Env) : look (killR s (kill k env)) j = if leads k (look env j) = true then .dead else if shows s (look env j) = true then .dead else look env j := by
  rw [look_killR, look_kill]
  by_cases h : leads k (look env j) = true
  · rw [if_pos h, if_pos h]; rfl
  · rw [if_neg h, if_neg h]

theorem own_one {T : Ty} {G : Nat → Nat → Prop} {wr : Bool} {e : TypeId} {oa : Ann} {xs : List (den T)} {vs : List Value} {b : OB} (h : Flat P (.sl T) w G B (.own wr e oa) xs vs b) : ∀ u ∈ vs, u.oneCell' = true := by
  unfold Flat at h
  obtain ⟨v, cells, ob', rfl, h2, _⟩ := h
  rcases h2.2 with h | ⟨g, cap, cur, _, _, rfl, _⟩
  · rw [h.1]; simp [Value.oneCell']
  · simp [Value.oneCell']

theorem pub_fz {y : Od} {env' : Env} {z : TV} (h : pub env y = some (env', z)) : Fz env env' := by
  unfold pub at h
  simp only [Option.bind_eq_some_iff, Option.some.injEq, Prod.mk.injEq] at h
  obtain ⟨_, _, h2, _⟩ := h
  split at h2
  · subst h2; exact Fz.freeze _ _
  · rw [h2]; exact Fz.refl _

theorem leads_of_shows {s : Nat} {e : E} (h : shows s e = true) : leads s e = true := by
  cases e <;> first | exact h | (exfalso; simp [shows] at h; done)

theorem st_store {t : TypeId} {T : Ty} {x xv : Operand} {y yv : Od} (hC : Conc P B G0 W0 n env a.tmps w ob) (hK : KOk P B G0 W0 n a K r next) (hdn : o.dst = none)
    (ho : o.op = .store t x xv) (hi : i.op = .store T y yv) (hT : TyR P t T) (hx : okOd x y = true) (hv : okOd xv yv = true) (h : step cl i env K = some r) : o.wp P a w next Q := by
  unfold step at h; rw [hi] at h; simp only at h
  have hr := ent_rep hC hx
  split at h
  · rename_i s p j q he
    rw [he] at hr
    split at h
    · rename_i e T0 oa xs hs
      split at h
      · simp only [Option.bind_eq_some_iff] at h
        obtain ⟨⟨env', zz⟩, hp, z, hz, h⟩ := h
        split at h
        case isFalse => simp at h
        rename_i hj
        simp only [Option.bind_eq_some_iff] at h
        obtain ⟨u, hu, _, hown, h⟩ := h
        split at h
        case isFalse => simp at h
        rename_i hpure
        have := cast?_some hz; cases this
        obtain ⟨ob', hf, hC', vs, hvs, hF⟩ := pub_rep hC hv hp
        have hs' : look env' s = .own true e T0 oa xs := by
          split at hown
          · rename_i e2 T2 o2 xs2 h2
            have h3 := pub_look hp h2
            rw [hs] at h3; cases h3
            exact h2
          · simp at hown
        obtain ⟨g, cap, cur, e', fz, k1, k2, kf, k3, k4⟩ := store_elem hC' hs' hpure hj hu hF
        obtain ⟨_, h', g', m, c, m1, m2, m3, m4, m5⟩ := hr
        simp only [heldAt, hs, Option.some.injEq] at m1; subst m1
        simp only [headAt, hs, k1, Option.some.injEq, Value.slice.injEq, Addr.mk.injEq] at m2
        obtain ⟨⟨rfl, _⟩, _⟩ := m2
        refine wp_none hdn (run_store ho hT m5 hvs k2 kf (Flat.len P T hF) (Flat.one P T (o := .no) rfl hF) k3) ?_
        exact hK _ _ _ _ k4 h
      · simp at h
    · rename_i T0 oa x0 hs
      simp only [Option.bind_eq_some_iff] at h
      obtain ⟨zz, hzv, z, hz, h⟩ := h
      have := cast?_some hz; cases this
      split at h
      · rename_i ed o' T1 xs ha hg
        split at h
        case isFalse => simp at h
        rename_i hj
        simp only [Option.bind_eq_some_iff] at h
        obtain ⟨u, hu, x1, hx1, h⟩ := h
        split at h
        case isFalse => simp at h
        rename_i hpure
        have hev : ent env yv = .v T z := by
          unfold valOf? at hzv
          split at hzv
          · rename_i he2; cases hzv; exact he2
          · simp at hzv
        have hrv := ent_rep hC hv
        rw [hev] at hrv
        obtain ⟨_, vs, hF, hvs⟩ := hrv
        obtain ⟨g, cap, cur, e', fz, k1, k2, kf, k3, k4⟩ := store_elemL hC hs ha hg hpure hj hu hx1 hF
        obtain ⟨_, h', g', m, c, m1, m2, m3, m4, m5⟩ := hr
        simp only [heldAt, hs, ha, hg, Option.some.injEq] at m1; subst m1
        rw [k1] at m2
        simp only [Option.some.injEq, Value.slice.injEq, Addr.mk.injEq] at m2
        obtain ⟨⟨rfl, _⟩, _⟩ := m2
        refine wp_none hdn (run_store ho hT m5 hvs k2 kf (Flat.len P T hF) (Flat.one P T (o := .no) rfl hF) k3) ?_
        exact hK _ _ _ _ k4 h
      · simp at h
    · simp at h
  · split at h
    · rename_i s p hm
      split at h
      · rename_i T0 oa x0 hs
        obtain ⟨b, hb1, hb2⟩ := locOf hC hx hm hs
        split at h
        · rename_i hsc
          simp only [Option.bind_eq_some_iff] at h
          obtain ⟨zz, hz, z, hc, x1, hset, h⟩ := h
          have := cast?_some hc; subst this
          obtain ⟨vs, hvs, hF⟩ := imm_rep hC hv hz
          obtain ⟨b', cur, e, k1, k2, k3, k4⟩ := store_scal hC hs hsc hset hF
          rw [hb1] at k1; cases k1
          refine wp_none hdn (run_store ho hT hb2 hvs k2 (.inl rfl) (Flat.len P T hF) (Flat.one P T (o := .no) rfl hF) k3) ?_
          exact hK _ _ _ _ k4 h
        · split at h
          · rename_i wr e T1 o1 xs he
            have hrv := ent_rep hC hv
            rw [he] at hrv
            split at h
            · rename_i k
              simp only [Option.bind_eq_some_iff] at h
              obtain ⟨z, hz, x1, hset, h⟩ := h
              split at h
              · simp at h
              · rename_i hix
                have hzz := cast?_some hz
                cases hzz
                simp only [ent] at he
                have hks : k ≠ s := by rintro rfl; rw [hs] at he; cases he
                have hrv' : Flat P (.sl T1) w (Gd B G0 ob) B (.own wr e o1) xs [a.tmps.getD k undef] (ob k) := by
                  have := okOd_t hv a
                  rw [this] at hrv; exact hrv
                obtain ⟨b', cur, e', k1, k2, k3, ob', k4⟩ := store_into (k := some k) (c := ob k) (env1 := (k, .ref s p) :: killR s (kill k env)) hC hs hset (fun j hj => by cases hj; exact hks) rfl (fun hh => by rw [hix] at hh; simp at hh) hrv' (by
                    intro j hj
                    by_cases hjk : k = j
                    · subst hjk
                      refine .inl ⟨rfl, by rw [look_cons, if_pos rfl], rfl, ?_⟩
                      simp only [heldAt]; rw [look_cons, if_pos rfl]
                      simp only [annAt_set p oa _ hix, setP_same p T0 hix hset, Option.isSome_some]
                    · right
                      refine ⟨fun e => hjk (by cases e; rfl), ?_⟩
                      rw [look_cons, if_neg hjk, look_kk]
                      by_cases h1 : leads k (look env j) = true
                      · rw [if_pos h1]; exact .inl ⟨rfl, k, h1⟩
                      · rw [if_neg h1]
                        by_cases h2 : shows s (look env j) = true
                        · rw [if_pos h2]; exact .inl ⟨rfl, s, leads_of_shows h2⟩
                        · rw [if_neg h2]
                          exact .inr ⟨rfl, by simpa using h2, fun t ht => by cases ht; simpa using h1⟩)
                rw [hb1] at k1; cases k1
                refine wp_none hdn (run_store ho hT hb2 (by rw [okOd_t hv a]; rfl) k2 (.inl rfl) rfl (own_one hrv') k3) ?_
                exact hK _ _ _ _ k4 h
            · rename_i hnt
              simp only [Option.bind_eq_some_iff] at h
              obtain ⟨z, hz, x1, hset, h⟩ := h
              split at h
              · simp at h
              · rename_i hix
                have := cast?_some hz
                cases this
                have hob : obOd ob yv = [] := by cases yv <;> first | rfl | exact (hnt _ rfl).elim
                rw [hob] at hrv
                obtain ⟨b', cur, e', k1, k2, k3, ob', k4⟩ := store_into (k := none) (c := []) (env1 := killR s env) hC hs hset (fun j hj => by cases hj) rfl (fun hh => by rw [hix] at hh; simp at hh) hrv (by
                    intro j hj
                    right
                    refine ⟨by simp, ?_⟩
                    rw [look_killR]
                    by_cases h2 : shows s (look env j) = true
                    · rw [if_pos h2]; exact .inl ⟨rfl, s, leads_of_shows h2⟩
                    · rw [if_neg h2]
                      exact .inr ⟨rfl, by simpa using h2, fun t ht => by cases ht⟩)
                rw [hb1] at k1; cases k1
                refine wp_none hdn (run_store ho hT hb2 rfl k2 (.inl rfl) rfl (own_one hrv) k3) ?_
                exact hK _ _ _ _ k4 h
          · rename_i T1 o1 x2 he
            have hrv := ent_rep hC hv
            rw [he] at hrv
            obtain ⟨_, vs, hF, hvs⟩ := hrv
            simp only [Option.bind_eq_some_iff] at h
            obtain ⟨z, hz, x1, hset, h⟩ := h
            split at h
            · simp at h
            · rename_i hix
              simp only [Bool.or_eq_false_iff, Bool.not_eq_false'] at hix
              have := cast?_some hz
              cases this
              obtain ⟨b', cur, e', k1, k2, k3, ob', k4⟩ := store_into (k := none) (c := []) (env1 := killR s env) hC hs hset (fun j hj => by cases hj) rfl (fun hh => by rw [hix.1] at hh; simp at hh) hF (by
                  intro j hj
                  right
                  refine ⟨by simp, ?_⟩
                  rw [look_killR]
                  by_cases h2 : shows s (look env j) = true
                  · rw [if_pos h2]; exact .inl ⟨rfl, s, leads_of_shows h2⟩
                  · rw [if_neg h2]
                    exact .inr ⟨rfl, by simpa using h2, fun t ht => by cases ht⟩)
              rw [hb1] at k1; cases k1
              exact wp_none hdn (run_store ho hT hb2 hvs k2 (.inl rfl) (Flat.len P _ hF) (Flat.one P _ hix.2 hF) k3) (hK _ _ _ _ k4 h)
          · simp only [Option.bind_eq_some_iff] at h
            obtain ⟨⟨env', zz⟩, hp, z, hz, h⟩ := h
            have := cast?_some hz; cases this
            split at h
            · rename_i T2 o2 x2 hs2
              simp only [Option.bind_eq_some_iff] at h
              obtain ⟨x1, hset, h⟩ := h
              obtain ⟨ob', hf, hC', vs, hvs, hF⟩ := pub_rep hC hv hp
              have hT2 : T2 = T0 := by
                simp only at hs2
                rcases pub_fz hp s with h3 | ⟨wr, ed, T', o', xs', h4, h3⟩ | ⟨T', o', x', h4, h3⟩
                · rw [hs, hs2] at h3; cases h3; rfl
                · rw [hs] at h4; cases h4
                · rw [hs] at h4; rw [hs2] at h3; cases h4; cases h3; rfl
              subst hT2
              split at h
              · rename_i hpu
                obtain ⟨b', cur, e', k1, k2, k3, k4⟩ := store_pure hC' hs2 hpu hset hF
                rw [hb1] at k1; cases k1
                refine wp_none hdn (run_store ho hT hb2 hvs k2 (.inl rfl) (Flat.len P T hF) (Flat.one P T (o := .no) rfl hF) k3) ?_
                exact hK _ _ _ _ k4 h
              obtain ⟨b', cur, e', k1, k2, k3, ob2, k4⟩ := store_into (k := none) (c := []) (o2 := .no) (env1 := killR s env') hC' hs2 hset (fun j hj => by cases hj) rfl (fun _ => rfl) hF (by
                  intro j hj
                  right
                  refine ⟨by simp, ?_⟩
                  rw [look_killR]
                  by_cases h2 : shows s (look env' j) = true
                  · rw [if_pos h2]; exact .inl ⟨rfl, s, leads_of_shows h2⟩
                  · rw [if_neg h2]
                    exact .inr ⟨rfl, by simpa using h2, fun t ht => by cases ht⟩)
              rw [hb1] at k1; cases k1
              refine wp_none hdn (run_store ho hT hb2 hvs k2 (.inl rfl) (Flat.len P T hF) (Flat.one P T (o := .no) rfl hF) k3) ?_
              exact hK _ _ _ _ k4 h
            · simp at h
      · simp at h
    · simp at h

def boolTy (P : Program) (t : TypeId) : Bool := match P.underlying t with | some .bool => true | _ => false

theorem run_equalIn_bool (d : Nat) {t : TypeId} (ht : P.underlying t = some .bool) (p q : Bool) : (Op.equalIn (d + 1) t (.bool p) (.bool q)).run P w = .ok (p == q) w := by
  simp only [Op.equalIn, Sem.run_bind, run_underlying ht, Result.andThen_ok]
  rfl

theorem run_equal_bool {t : TypeId} (ht : P.underlying t = some .bool) (p q : Bool) : (Op.equal t (.bool p) (.bool q)).run P w = .ok (p == q) w := run_equalIn_bool 9999 ht p q

theorem run_eqBool {t : TypeId} {x y : Operand} (ht : P.underlying t = some .bool) (neg : Bool) (p q : Bool) :
    ((do eqGuard (if neg then .neq else .eql) t x y (.bool p) (.bool q); binOp (if neg then .neq else .eql) t (.bool p) (.bool q)) : Sem Value).run P w = .ok (.bool (if neg then !(p == q) else p == q)) w := by
  have h := run_equal_bool (P := P) (w := w) ht p q
  cases neg with
  | true =>
    have e : binOp .neq t (.bool p) (.bool q) = (do pure (.bool (!(← Op.equal t (.bool p) (.bool q)))) : Sem Value) := rfl
    have g : (eqGuard .neq t x y (.bool p) (.bool q)).run P w = .ok () w := rfl
    simp only [if_true, Sem.run_bind, g, Result.andThen_ok, e, h]
    rfl
  | false =>
    have e : binOp .eql t (.bool p) (.bool q) = (do pure (.bool (← Op.equal t (.bool p) (.bool q))) : Sem Value) := rfl
    have g : (eqGuard .eql t x y (.bool p) (.bool q)).run P w = .ok () w := rfl
    simp only [Bool.false_eq_true, if_false, Sem.run_bind, g, Result.andThen_ok, e, h]
    rfl

theorem st_eqB {t yt : TypeId} {neg : Bool} {x y : Operand} {x' y' : Od} (hC : Conc P B G0 W0 n env a.tmps w ob) (hK : KOk P B G0 W0 n a K r next) (hd : ∀ k, o.dst = some k → k < n) (hdst : i.dst = o.dst)
    (ho : o.op = .binOp (if neg then .neq else .eql) t x y yt) (hi : i.op = .eqT neg .bool x' y') (ht : boolTy P t = true) (hx : okOd x x' = true) (hy : okOd y y' = true) (h : step cl i env K = some r) : o.wp P a w next Q := by
  unfold step at h; rw [hi] at h; simp only [hdst, Option.bind_eq_some_iff] at h
  obtain ⟨s, hs, u, hu, s', hs', u', hu', f, hf, h⟩ := h
  have := cast?_some hs'; subst this
  have := cast?_some hu'; subst this
  obtain ⟨vs, e1, f1⟩ := imm_rep hC hx hs
  obtain ⟨us, e2, f2⟩ := imm_rep hC hy hu
  unfold Flat at f1 f2
  obtain ⟨rfl, _⟩ := f1
  obtain ⟨rfl, _⟩ := f2
  simp only [beqV, Option.some.injEq] at hf
  subst hf
  have ht' : P.underlying t = some .bool := by
    unfold boolTy at ht
    split at ht
    · assumption
    · simp at ht
  have e1' : a.eval x = .bool s' := e1
  have e2' : a.eval y = .bool u' := e2
  have hr := run_eqBool (P := P) (w := w) (x := x) (y := y) ht' neg s' u'
  refine wp_value (v := .bool (if neg then !(s' == u') else (s' == u'))) (w' := w) ?_ (fin0 hC hK hd (Grows.refl w) (v_bool _ _ _) h)
  have e : execOp a.eval o = (do pure (.value (← (do eqGuard (if neg then .neq else .eql) t x y (a.eval x) (a.eval y); binOp (if neg then .neq else .eql) t (a.eval x) (a.eval y)))) : Sem Next) := by
    unfold execOp; rw [ho]
  rw [e, e1', e2', Sem.run_bind, hr]
  rfl
end
end Go.Fw
