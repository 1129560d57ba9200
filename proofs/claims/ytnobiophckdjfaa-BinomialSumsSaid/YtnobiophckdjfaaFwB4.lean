/- The abstract value machine and its soundness, part 4: a call of the machine that answers is a call of the program that answers so; no conditions. -/
import Derived.Test.YtnobiophckdjfaaFwB3
import Derived.Laws.StructEq
import Derived.Test.YtnobiophckdjfaaFwB1
import Derived.Laws.RangeString
import Derived.Laws.BytesArg
import Derived.Laws.IdiomStrings
import Derived.Test.YtnobiophckdjfaaFwB2
import Derived.Laws.MakeOwn
set_option linter.unusedVariables false
set_option linter.unusedSimpArgs false
/- Soundness, part 20: store. -/
namespace Go.Fw
open Go Go.RowKit
section
variable {P : Program} {B : Nat} {G0 : Nat → Nat → Prop} {W0 : World} {n : Nat} {env : Env} {tm : Array Value} {a : Act} {w : World} {ob : Nat → OB} {cl : Cal}
variable {R : Type} {K : Kont R} {r : R} {next : Act → World → Prop} {Q : Exit → Act → World → Prop} {o : Oper} {i : AI}
theorem pub_look {y : Od} {env' : Env} {z : TV} (h : pub env y = some (env', z)) {s : Nat} {e : TypeId} {T : Ty} {oa : Ann} {xs : List (den T)} (hs : look env' s = .own true e T oa xs) : look env s = .own true e T oa xs := by
 unfold pub at h
 simp only [Option.bind_eq_some_iff, Option.some.injEq, Prod.mk.injEq] at h
 obtain ⟨_, _, h2, _⟩ := h
 split at h2
 ·rename_i s' _
  subst h2
  rcases Fz.freeze env s' s with h3 | ⟨wr, ed, T', o', xs', _, h3⟩ | ⟨T', o', x', _, h3⟩
  ·rw [← h3]; exact hs
  ·rw [h3] at hs; cases hs
  ·rw [h3] at hs; cases hs
 ·rw [h2]; exact hs
theorem run_store {t : TypeId} {T : Ty} {x y : Operand} (ho : o.op = .store t x y) (hT : TyR P t T) {g off : Nat} {e : TypeId} {fz : Nat × Nat} {cur : Array Value} {vs : List Value} (hx : a.eval x = .pointer (some ⟨g, off, none⟩)) (hy : a.eval y = asVal T vs)
  (hg : w.heap[g]? = some (.cells cur e fz)) (hfz : frzOk fz cur.size) (hl : vs.length = cellsN T) (h1 : ∀ u ∈ vs, u.oneCell' = true) (hfit : off + vs.length ≤ cur.size) :
  (execOp a.eval o).run P w = .ok .skip (w.setRow g (cur.toList.take off ++ vs ++ cur.toList.drop (off + vs.length)).toArray) := by
 have := run_storeT hT w hg hfz hl h1 hfit
 simp [execOp, ho, hx, hy, Instr.storeAt, Instr.sureAddr, this]
theorem wp_none (hdn : o.dst = none) {w' : World} (hrun : (execOp a.eval o).run P w = .ok .skip w') (h : next a w') : o.wp P a w next Q := by
 refine wp_unit hrun ?_
 rw [hdn]; exact h
theorem look_kk (s k j : Nat) (env : Env) : look (killR s (kill k env)) j = if leads k (look env j) = true then .dead else if shows s (look env j) = true then .dead else look env j := by
 rw [look_killR, look_kill]
 by_cases h : leads k (look env j) = true
 ·rw [if_pos h, if_pos h]; rfl
 ·rw [if_neg h, if_neg h]
theorem own_one {T : Ty} {G : Nat → Nat → Prop} {wr : Bool} {e : TypeId} {oa : Ann} {xs : List (den T)} {vs : List Value} {b : OB} (h : Flat P (.sl T) w G B (.own wr e oa) xs vs b) : ∀ u ∈ vs, u.oneCell' = true := by
 unfold Flat at h
 obtain ⟨v, cells, ob', rfl, h2, _⟩ := h
 rcases h2.2 with h | ⟨g, cap, cur, _, _, rfl, _⟩
 ·rw [h.1]; simp [Value.oneCell']
 ·simp [Value.oneCell']
theorem pub_fz {y : Od} {env' : Env} {z : TV} (h : pub env y = some (env', z)) : Fz env env' := by
 unfold pub at h
 simp only [Option.bind_eq_some_iff, Option.some.injEq, Prod.mk.injEq] at h
 obtain ⟨_, _, h2, _⟩ := h
 split at h2
 ·subst h2; exact Fz.freeze _ _
 ·rw [h2]; exact Fz.refl _
theorem leads_of_shows {s : Nat} {e : E} (h : shows s e = true) : leads s e = true := by
 cases e <;> first | exact h | (exfalso; simp [shows] at h; done)
theorem st_store {t : TypeId} {T : Ty} {x xv : Operand} {y yv : Od} (hC : Conc P B G0 W0 n env a.tmps w ob) (hK : KOk P B G0 W0 n a K r next) (hdn : o.dst = none)
  (ho : o.op = .store t x xv) (hi : i.op = .store T y yv) (hT : TyR P t T) (hx : okOd x y = true) (hv : okOd xv yv = true) (h : step cl i env K = some r) : o.wp P a w next Q := by
 unfold step at h; rw [hi] at h; simp only at h
 have hr := ent_rep hC hx
 split at h
 ·rename_i s p j q he
  rw [he] at hr
  split at h
  ·rename_i e T0 oa xs hs
   split at h
   ·simp only [Option.bind_eq_some_iff] at h
    obtain ⟨⟨env', zz⟩, hp, z, hz, h⟩ := h
    split at h
    case isFalse => simp at h
    rename_i hj
    simp only [Option.bind_eq_some_iff] at h
    obtain ⟨u, hu, _, hown, h⟩ := h
    split at h
    case isFalse => simp at h
    rename_i hpure
    have := cast?_some hz; cases this
    obtain ⟨ob', hf, hC', vs, hvs, hF⟩ := pub_rep hC hv hp
    have hs' : look env' s = .own true e T0 oa xs := by
     split at hown
     ·rename_i e2 T2 o2 xs2 h2
      have h3 := pub_look hp h2
      rw [hs] at h3; cases h3
      exact h2
     ·simp at hown
    obtain ⟨g, cap, cur, e', fz, k1, k2, kf, k3, k4⟩ := store_elem hC' hs' hpure hj hu hF
    obtain ⟨_, h', g', m, c, m1, m2, m3, m4, m5⟩ := hr
    simp only [heldAt, hs, Option.some.injEq] at m1; subst m1
    simp only [headAt, hs, k1, Option.some.injEq, Value.slice.injEq, Addr.mk.injEq] at m2
    obtain ⟨⟨rfl, _⟩, _⟩ := m2
    refine wp_none hdn (run_store ho hT m5 hvs k2 kf (Flat.len P T hF) (Flat.one P T (o := .no) rfl hF) k3) ?_
    exact hK _ _ _ _ k4 h
   ·simp at h
  ·rename_i T0 oa x0 hs
   simp only [Option.bind_eq_some_iff] at h
   obtain ⟨zz, hzv, z, hz, h⟩ := h
   have := cast?_some hz; cases this
   split at h
   ·rename_i ed o' T1 xs ha hg
    split at h
    case isFalse => simp at h
    rename_i hj
    simp only [Option.bind_eq_some_iff] at h
    obtain ⟨u, hu, x1, hx1, h⟩ := h
    split at h
    case isFalse => simp at h
    rename_i hpure
    have hev : ent env yv = .v T z := by
     unfold valOf? at hzv
     split at hzv
     ·rename_i he2; cases hzv; exact he2
     ·simp at hzv
    have hrv := ent_rep hC hv
    rw [hev] at hrv
    obtain ⟨_, vs, hF, hvs⟩ := hrv
    obtain ⟨g, cap, cur, e', fz, k1, k2, kf, k3, k4⟩ := store_elemL hC hs ha hg hpure hj hu hx1 hF
    obtain ⟨_, h', g', m, c, m1, m2, m3, m4, m5⟩ := hr
    simp only [heldAt, hs, ha, hg, Option.some.injEq] at m1; subst m1
    rw [k1] at m2
    simp only [Option.some.injEq, Value.slice.injEq, Addr.mk.injEq] at m2
    obtain ⟨⟨rfl, _⟩, _⟩ := m2
    refine wp_none hdn (run_store ho hT m5 hvs k2 kf (Flat.len P T hF) (Flat.one P T (o := .no) rfl hF) k3) ?_
    exact hK _ _ _ _ k4 h
   ·simp at h
  ·simp at h
 ·split at h
  ·rename_i s p hm
   split at h
   ·rename_i T0 oa x0 hs
    obtain ⟨b, hb1, hb2⟩ := locOf hC hx hm hs
    split at h
    ·rename_i hsc
     simp only [Option.bind_eq_some_iff] at h
     obtain ⟨zz, hz, z, hc, x1, hset, h⟩ := h
     have := cast?_some hc; subst this
     obtain ⟨vs, hvs, hF⟩ := imm_rep hC hv hz
     obtain ⟨b', cur, e, k1, k2, k3, k4⟩ := store_scal hC hs hsc hset hF
     rw [hb1] at k1; cases k1
     refine wp_none hdn (run_store ho hT hb2 hvs k2 (.inl rfl) (Flat.len P T hF) (Flat.one P T (o := .no) rfl hF) k3) ?_
     exact hK _ _ _ _ k4 h
    ·split at h
     ·rename_i wr e T1 o1 xs he
      have hrv := ent_rep hC hv
      rw [he] at hrv
      split at h
      ·rename_i k
       simp only [Option.bind_eq_some_iff] at h
       obtain ⟨z, hz, x1, hset, h⟩ := h
       split at h
       ·simp at h
       ·rename_i hix
        have hzz := cast?_some hz
        cases hzz
        simp only [ent] at he
        have hks : k ≠ s := by rintro rfl; rw [hs] at he; cases he
        have hrv' : Flat P (.sl T1) w (Gd B G0 ob) B (.own wr e o1) xs [a.tmps.getD k undef] (ob k) := by
         have := okOd_t hv a
         rw [this] at hrv; exact hrv
        obtain ⟨b', cur, e', k1, k2, k3, ob', k4⟩ := store_into (k := some k) (c := ob k) (env1 := (k, .ref s p) :: killR s (kill k env)) hC hs hset (fun j hj => by cases hj; exact hks) rfl (fun hh => by rw [hix] at hh; simp at hh) hrv' (by
          intro j hj
          by_cases hjk : k = j
          ·subst hjk
           refine .inl ⟨rfl, by rw [look_cons, if_pos rfl], rfl, ?_⟩
           simp only [heldAt]; rw [look_cons, if_pos rfl]
           simp only [annAt_set p oa _ hix, setP_same p T0 hix hset, Option.isSome_some]
          ·right
           refine ⟨fun e => hjk (by cases e; rfl), ?_⟩
           rw [look_cons, if_neg hjk, look_kk]
           by_cases h1 : leads k (look env j) = true
           ·rw [if_pos h1]; exact .inl ⟨rfl, k, h1⟩
           ·rw [if_neg h1]
            by_cases h2 : shows s (look env j) = true
            ·rw [if_pos h2]; exact .inl ⟨rfl, s, leads_of_shows h2⟩
            ·rw [if_neg h2]
             exact .inr ⟨rfl, by simpa using h2, fun t ht => by cases ht; simpa using h1⟩)
        rw [hb1] at k1; cases k1
        refine wp_none hdn (run_store ho hT hb2 (by rw [okOd_t hv a]; rfl) k2 (.inl rfl) rfl (own_one hrv') k3) ?_
        exact hK _ _ _ _ k4 h
      ·rename_i hnt
       simp only [Option.bind_eq_some_iff] at h
       obtain ⟨z, hz, x1, hset, h⟩ := h
       split at h
       ·simp at h
       ·rename_i hix
        have := cast?_some hz
        cases this
        have hob : obOd ob yv = [] := by cases yv <;> first | rfl | exact (hnt _ rfl).elim
        rw [hob] at hrv
        obtain ⟨b', cur, e', k1, k2, k3, ob', k4⟩ := store_into (k := none) (c := []) (env1 := killR s env) hC hs hset (fun j hj => by cases hj) rfl (fun hh => by rw [hix] at hh; simp at hh) hrv (by
          intro j hj
          right
          refine ⟨by simp, ?_⟩
          rw [look_killR]
          by_cases h2 : shows s (look env j) = true
          ·rw [if_pos h2]; exact .inl ⟨rfl, s, leads_of_shows h2⟩
          ·rw [if_neg h2]
           exact .inr ⟨rfl, by simpa using h2, fun t ht => by cases ht⟩)
        rw [hb1] at k1; cases k1
        refine wp_none hdn (run_store ho hT hb2 rfl k2 (.inl rfl) rfl (own_one hrv) k3) ?_
        exact hK _ _ _ _ k4 h
     ·rename_i T1 o1 x2 he
      have hrv := ent_rep hC hv
      rw [he] at hrv
      obtain ⟨_, vs, hF, hvs⟩ := hrv
      simp only [Option.bind_eq_some_iff] at h
      obtain ⟨z, hz, x1, hset, h⟩ := h
      split at h
      ·simp at h
      ·rename_i hix
       simp only [Bool.or_eq_false_iff, Bool.not_eq_false'] at hix
       have := cast?_some hz
       cases this
       obtain ⟨b', cur, e', k1, k2, k3, ob', k4⟩ := store_into (k := none) (c := []) (env1 := killR s env) hC hs hset (fun j hj => by cases hj) rfl (fun hh => by rw [hix.1] at hh; simp at hh) hF (by
         intro j hj
         right
         refine ⟨by simp, ?_⟩
         rw [look_killR]
         by_cases h2 : shows s (look env j) = true
         ·rw [if_pos h2]; exact .inl ⟨rfl, s, leads_of_shows h2⟩
         ·rw [if_neg h2]
          exact .inr ⟨rfl, by simpa using h2, fun t ht => by cases ht⟩)
       rw [hb1] at k1; cases k1
       exact wp_none hdn (run_store ho hT hb2 hvs k2 (.inl rfl) (Flat.len P _ hF) (Flat.one P _ hix.2 hF) k3) (hK _ _ _ _ k4 h)
     ·simp only [Option.bind_eq_some_iff] at h
      obtain ⟨⟨env', zz⟩, hp, z, hz, h⟩ := h
      have := cast?_some hz; cases this
      split at h
      ·rename_i T2 o2 x2 hs2
       simp only [Option.bind_eq_some_iff] at h
       obtain ⟨x1, hset, h⟩ := h
       obtain ⟨ob', hf, hC', vs, hvs, hF⟩ := pub_rep hC hv hp
       have hT2 : T2 = T0 := by
        simp only at hs2
        rcases pub_fz hp s with h3 | ⟨wr, ed, T', o', xs', h4, h3⟩ | ⟨T', o', x', h4, h3⟩
        ·rw [hs, hs2] at h3; cases h3; rfl
        ·rw [hs] at h4; cases h4
        ·rw [hs] at h4; rw [hs2] at h3; cases h4; cases h3; rfl
       subst hT2
       split at h
       ·rename_i hpu
        obtain ⟨b', cur, e', k1, k2, k3, k4⟩ := store_pure hC' hs2 hpu hset hF
        rw [hb1] at k1; cases k1
        refine wp_none hdn (run_store ho hT hb2 hvs k2 (.inl rfl) (Flat.len P T hF) (Flat.one P T (o := .no) rfl hF) k3) ?_
        exact hK _ _ _ _ k4 h
       obtain ⟨b', cur, e', k1, k2, k3, ob2, k4⟩ := store_into (k := none) (c := []) (o2 := .no) (env1 := killR s env') hC' hs2 hset (fun j hj => by cases hj) rfl (fun _ => rfl) hF (by
         intro j hj
         right
         refine ⟨by simp, ?_⟩
         rw [look_killR]
         by_cases h2 : shows s (look env' j) = true
         ·rw [if_pos h2]; exact .inl ⟨rfl, s, leads_of_shows h2⟩
         ·rw [if_neg h2]
          exact .inr ⟨rfl, by simpa using h2, fun t ht => by cases ht⟩)
       rw [hb1] at k1; cases k1
       refine wp_none hdn (run_store ho hT hb2 hvs k2 (.inl rfl) (Flat.len P T hF) (Flat.one P T (o := .no) rfl hF) k3) ?_
       exact hK _ _ _ _ k4 h
      ·simp at h
   ·simp at h
  ·simp at h
def boolTy (P : Program) (t : TypeId) : Bool := match P.underlying t with | some .bool => true | _ => false
theorem run_equalIn_bool (d : Nat) {t : TypeId} (ht : P.underlying t = some .bool) (p q : Bool) : (Op.equalIn (d + 1) t (.bool p) (.bool q)).run P w = .ok (p == q) w := by
 simp only [Op.equalIn, Sem.run_bind, run_underlying ht, Result.andThen_ok]
 rfl
theorem run_equal_bool {t : TypeId} (ht : P.underlying t = some .bool) (p q : Bool) : (Op.equal t (.bool p) (.bool q)).run P w = .ok (p == q) w := run_equalIn_bool 9999 ht p q
theorem run_eqBool {t : TypeId} {x y : Operand} (ht : P.underlying t = some .bool) (neg : Bool) (p q : Bool) :
  ((do eqGuard (if neg then .neq else .eql) t x y (.bool p) (.bool q); binOp (if neg then .neq else .eql) t (.bool p) (.bool q)) : Sem Value).run P w = .ok (.bool (if neg then !(p == q) else p == q)) w := by
 have h := run_equal_bool (P := P) (w := w) ht p q
 cases neg with
 | true =>
   have e : binOp .neq t (.bool p) (.bool q) = (do pure (.bool (!(← Op.equal t (.bool p) (.bool q)))) : Sem Value) := rfl
   have g : (eqGuard .neq t x y (.bool p) (.bool q)).run P w = .ok () w := rfl
   simp only [if_true, Sem.run_bind, g, Result.andThen_ok, e, h]
   rfl
 | false =>
   have e : binOp .eql t (.bool p) (.bool q) = (do pure (.bool (← Op.equal t (.bool p) (.bool q))) : Sem Value) := rfl
   have g : (eqGuard .eql t x y (.bool p) (.bool q)).run P w = .ok () w := rfl
   simp only [Bool.false_eq_true, if_false, Sem.run_bind, g, Result.andThen_ok, e, h]
   rfl
theorem st_eqB {t yt : TypeId} {neg : Bool} {x y : Operand} {x' y' : Od} (hC : Conc P B G0 W0 n env a.tmps w ob) (hK : KOk P B G0 W0 n a K r next) (hd : ∀ k, o.dst = some k → k < n) (hdst : i.dst = o.dst)
  (ho : o.op = .binOp (if neg then .neq else .eql) t x y yt) (hi : i.op = .eqT neg .bool x' y') (ht : boolTy P t = true) (hx : okOd x x' = true) (hy : okOd y y' = true) (h : step cl i env K = some r) : o.wp P a w next Q := by
 unfold step at h; rw [hi] at h; simp only [hdst, Option.bind_eq_some_iff] at h
 obtain ⟨s, hs, u, hu, s', hs', u', hu', f, hf, h⟩ := h
 have := cast?_some hs'; subst this
 have := cast?_some hu'; subst this
 obtain ⟨vs, e1, f1⟩ := imm_rep hC hx hs
 obtain ⟨us, e2, f2⟩ := imm_rep hC hy hu
 unfold Flat at f1 f2
 obtain ⟨rfl, _⟩ := f1
 obtain ⟨rfl, _⟩ := f2
 simp only [beqV, Option.some.injEq] at hf
 subst hf
 have ht' : P.underlying t = some .bool := by
  unfold boolTy at ht
  split at ht
  ·assumption
  ·simp at ht
 have e1' : a.eval x = .bool s' := e1
 have e2' : a.eval y = .bool u' := e2
 have hr := run_eqBool (P := P) (w := w) (x := x) (y := y) ht' neg s' u'
 refine wp_value (v := .bool (if neg then !(s' == u') else (s' == u'))) (w' := w) ?_ (fin0 hC hK hd (Grows.refl w) (v_bool _ _ _) h)
 have e : execOp a.eval o = (do pure (.value (← (do eqGuard (if neg then .neq else .eql) t x y (a.eval x) (a.eval y); binOp (if neg then .neq else .eql) t (a.eval x) (a.eval y)))) : Sem Next) := by
  unfold execOp; rw [ho]
 rw [e, e1', e2', Sem.run_bind, hr]
 rfl
end
end Go.Fw
/- Soundness: equality of structs. -/
namespace Go.Fw
open Go Go.RowKit
mutual
def eqTy (P : Program) : Nat → TypeId → Ty → Bool
 | 0, _, _ => false
 | n + 1, t, T => match P.underlying t with
   | some (.int _) => (match T with | .int _ => true | _ => false)
   | some .bool => (match T with | .bool => true | _ => false)
   | some .string => (match T with | .str => true | _ => false)
   | some (.struct fs) => isAggT T && !P.stoodInHeld t && eqFl P n fs.toList T 0
   | _ => false
def eqFl (P : Program) : Nat → List Field → Ty → Nat → Bool
 | 0, _, _, _ => false
 | _ + 1, [], T, _ => (match T with | .unit => true | _ => false)
 | n + 1, f :: fs, T, off => (match T with | .pair A B => !(f.name == "_") && f.offset == off && tyOk P 64 f.type A && eqTy P n f.type A && eqFl P n fs B (off + cellsN A) | _ => false)
end
section
variable {P : Program} {w : World} {G : Nat → Nat → Prop} {B : Nat}
theorem eq_ok : ∀ (n : Nat),
  (∀ (d : Nat) (t : TypeId) (T : Ty) (f : den T → den T → Bool) (x y : den T) (vs us : List Value), eqTy P n t T = true → n ≤ d → beqV T = some f → Flat P T w G B .no x vs [] → Flat P T w G B .no y us [] →
   (Op.equalIn d t (asVal T vs) (asVal T us)).run P w = .ok (f x y) w) ∧
  (∀ (d : Nat) (fs : List Field) (T : Ty) (off : Nat) (f : den T → den T → Bool) (x y : den T) (v1 u1 vs us : List Value), eqFl P n fs T off = true → n ≤ d → beqV T = some f → Flat P T w G B .no x vs [] → Flat P T w G B .no y us [] →
   v1.length = off → u1.length = off → (Op.eqFields d (v1 ++ vs).toArray (u1 ++ us).toArray fs).run P w = .ok (f x y) w) := by
 intro n
 induction n with
 | zero => exact ⟨fun d t T f x y vs us h => by simp [eqTy] at h, fun d fs T off f x y v1 u1 vs us h => by simp [eqFl] at h⟩
 | succ n ih =>
   obtain ⟨ih1, ih2⟩ := ih
   refine ⟨fun d t T f x y vs us h hd hf hx hy => ?_, fun d fs T off f x y v1 u1 vs us h hd hf hx hy hv hu => ?_⟩
   ·obtain ⟨d, rfl⟩ : ∃ d', d = d' + 1 := ⟨d - 1, by omega⟩
    unfold eqTy at h
    split at h
    ·rename_i k hk
     cases T <;> first | (exfalso; simp at h; done) | skip
     unfold Flat at hx hy
     obtain ⟨rfl, _⟩ := hx
     obtain ⟨rfl, _⟩ := hy
     simp only [beqV, Option.some.injEq] at hf
     subst hf
     exact run_equalIn_int w d t _ _ x y hk
    ·rename_i hk
     cases T <;> first | (exfalso; simp at h; done) | skip
     unfold Flat at hx hy
     obtain ⟨rfl, _⟩ := hx
     obtain ⟨rfl, _⟩ := hy
     simp only [beqV, Option.some.injEq] at hf
     subst hf
     exact run_equalIn_bool' w d t x y hk
    ·rename_i hk
     cases T <;> first | (exfalso; simp at h; done) | skip
     unfold Flat at hx hy
     obtain ⟨rfl, _⟩ := hx
     obtain ⟨rfl, _⟩ := hy
     simp only [beqV, Option.some.injEq] at hf
     subst hf
     have := run_equalIn_string (P := P) w d t ⟨⟨x⟩⟩ ⟨⟨y⟩⟩ hk
     rw [ByteArray.toList_eq, ByteArray.toList_eq] at this
     exact this
    ·rename_i fs hk
     simp only [Bool.and_eq_true, Bool.not_eq_true'] at h
     obtain ⟨⟨h1, h2⟩, h3⟩ := h
     have e1 : asVal T vs = .agg vs.toArray := by unfold asVal; rw [if_pos h1]
     have e2 : asVal T us = .agg us.toArray := by unfold asVal; rw [if_pos h1]
     have hfo : P.fieldsOf t = fs := by unfold Program.fieldsOf; rw [hk]
     rw [e1, e2, run_equalIn_struct w d t _ _ (by rw [hfo]; exact hk) h2, hfo]
     exact ih2 d fs.toList T 0 f x y [] [] vs us h3 (by omega) hf hx hy rfl rfl
    ·simp at h
   ·cases fs with
    | nil =>
      unfold eqFl at h
      cases T <;> first | (exfalso; simp at h; done) | skip
      simp only [beqV, Option.some.injEq] at hf
      subst hf
      simp [Op.eqFields]
    | cons g fs =>
      unfold eqFl at h
      cases T <;> first | (exfalso; simp at h; done) | skip
      rename_i A C
      simp only [Bool.and_eq_true, Bool.not_eq_true', beq_iff_eq] at h
      obtain ⟨⟨⟨⟨h1, h2⟩, h3⟩, h4⟩, h5⟩ := h
      unfold Flat at hx hy
      obtain ⟨p1, p2, b1, b2, rfl, hob, hx1, hx2⟩ := hx
      obtain ⟨q1, q2, c1, c2, rfl, hoc, hy1, hy2⟩ := hy
      obtain ⟨rfl, rfl⟩ := List.append_eq_nil_iff.1 hob.symm
      obtain ⟨rfl, rfl⟩ := List.append_eq_nil_iff.1 hoc.symm
      simp only [beqV] at hf
      split at hf
      case h_2 => simp at hf
      rename_i fA fC hfA hfC
      simp only [Option.some.injEq] at hf
      subst hf
      have hT : TyR P g.type A := ⟨⟨64, h3⟩⟩
      have l1 := Flat.len P A hx1
      have l2 := Flat.len P A hy1
      have r1 := run_partT hT w (v1 := v1) (v3 := p2) l1
      have r2 := run_partT hT w (v1 := u1) (v3 := q2) l2
      rw [hv, List.append_assoc, ← h2] at r1
      rw [hu, List.append_assoc, ← h2] at r2
      have r3 := ih1 d g.type A fA x.1 y.1 p1 q1 h4 (by omega) hfA hx1 hy1
      have hne : g.name ≠ "_" := by intro e; rw [e] at h1; simp at h1
      simp only [Op.eqFields, if_pos hne, Sem.run_bind, r1, r2, r3, Result.andThen_ok, Sem.run_ite, Sem.run_pure]
      by_cases hb : fA x.1 y.1 = true
      ·rw [hb]
       simp only [Bool.not_true, Bool.false_eq_true, if_false, Bool.true_and]
       have := ih2 d fs C (off + cellsN A) fC x.2 y.2 (v1 ++ p1) (u1 ++ q1) p2 q2 h5 (by omega) hfC hx2 hy2 (by simp [hv, l1]) (by simp [hu, l2])
       rw [List.append_assoc, List.append_assoc] at this
       exact this
      ·have hb' : fA x.1 y.1 = false := by simpa using hb
       rw [hb']; simp
def eqStr (P : Program) (t : TypeId) (T : Ty) : Bool := isAggT T && eqTy P 64 t T && !P.eqGuardType P.depth t
theorem run_eqStr {t : TypeId} {T : Ty} {x y : Operand} {f : den T → den T → Bool} {p q : den T} {vs us : List Value} (h : eqStr P t T = true) (hf : beqV T = some f) (hx : Flat P T w G B .no p vs []) (hy : Flat P T w G B .no q us []) (neg : Bool) :
  (do eqGuard (if neg then .neq else .eql) t x y (asVal T vs) (asVal T us); binOp (if neg then .neq else .eql) t (asVal T vs) (asVal T us) : Sem Value).run P w = .ok (.bool (if neg then !f p q else f p q)) w := by
 simp only [eqStr, Bool.and_eq_true, Bool.not_eq_true'] at h
 obtain ⟨⟨h1, h2⟩, h3⟩ := h
 have he := (eq_ok (P := P) (w := w) (G := G) (B := B) 64).1 10000 t T f p q vs us h2 (by decide) hf hx hy
 have e1 : asVal T vs = .agg vs.toArray := by unfold asVal; rw [if_pos h1]
 have e2 : asVal T us = .agg us.toArray := by unfold asVal; rw [if_pos h1]
 rw [e1, e2] at he ⊢
 cases neg with
 | true => simp only [if_true, Sem.run_bind, run_eqGuard_agg w .neq t x y _ _ h3, Result.andThen_ok, run_neq_struct, he]
 | false => simp only [Bool.false_eq_true, if_false, Sem.run_bind, run_eqGuard_agg w .eql t x y _ _ h3, Result.andThen_ok, run_eql_struct, he]
end
section
variable {P : Program} {B : Nat} {G0 : Nat → Nat → Prop} {W0 : World} {n : Nat} {env : Env} {a : Act} {w : World} {ob : Nat → OB} {cl : Cal}
variable {R : Type} {K : Kont R} {r : R} {next : Act → World → Prop} {Q : Exit → Act → World → Prop} {o : Oper} {i : AI}
theorem st_eqS {t yt : TypeId} {T : Ty} {neg : Bool} {x y : Operand} {x' y' : Od} (hC : Conc P B G0 W0 n env a.tmps w ob) (hK : KOk P B G0 W0 n a K r next) (hd : ∀ k, o.dst = some k → k < n) (hdst : i.dst = o.dst)
  (ho : o.op = .binOp (if neg then .neq else .eql) t x y yt) (hi : i.op = .eqT neg T x' y') (ht : eqStr P t T = true) (hx : okOd x x' = true) (hy : okOd y y' = true) (h : step cl i env K = some r) : o.wp P a w next Q := by
 unfold step at h; rw [hi] at h; simp only [hdst, Option.bind_eq_some_iff] at h
 obtain ⟨s, hs, u, hu, s', hs', u', hu', f, hf, h⟩ := h
 have := cast?_some hs'; subst this
 have := cast?_some hu'; subst this
 obtain ⟨vs, e1, f1⟩ := imm_rep hC hx hs
 obtain ⟨us, e2, f2⟩ := imm_rep hC hy hu
 have hr := run_eqStr (x := x) (y := y) ht hf f1 f2 neg
 refine wp_value (v := .bool (if neg then !f s' u' else f s' u')) (w' := w) ?_ (fin0 hC hK hd (Grows.refl w) (v_bool _ _ _) h)
 have e : execOp a.eval o = (do pure (.value (← (do eqGuard (if neg then .neq else .eql) t x y (a.eval x) (a.eval y); binOp (if neg then .neq else .eql) t (a.eval x) (a.eval y)))) : Sem Next) := by
  unfold execOp; rw [ho]
 rw [e, e1, e2, Sem.run_bind, hr]
 rfl
end
end Go.Fw
/- Contracts of functions, put into what calls answer; keeps of environments. -/
namespace Go.Fw
open Go Go.RowKit
theorem Cal.ext' {a b : Cal} (h : ∀ f es, a.run f es = b.run f es) : a = b := by
 obtain ⟨r1, k1, e1⟩ := a
 obtain ⟨r2, k2, e2⟩ := b
 have : r1 = r2 := by funext f es; exact h f es
 subst this
 have : @k1 = @k2 := by funext R f es k; rw [e1, e2]
 subst this
 rfl
structure Ctr where
 A : Type
 B : Type
 f : FuncId
 enc : A → List E
 dec : List E → Option A
 S : A → Option B
 ent : B → List E
 ok : ∀ es a, dec es = some a → es = enc a
def Ctr.holds (c : Ctr) (cl : Cal) : Prop := ∀ a, cl c.f (c.enc a) = (c.S a).bind fun b => some (c.ent b)
def Cal.put (cl : Cal) (c : Ctr) : Cal where
 run f es := match Nat.decEq f c.f with
  | .isTrue _ => (match c.dec es with | some a => (c.S a).bind fun b => some (c.ent b) | none => cl f es)
  | .isFalse _ => cl f es
 runK f es k := match Nat.decEq f c.f with
  | .isTrue _ => (match c.dec es with | some a => (c.S a).bind fun b => k (c.ent b) | none => cl.runK f es k)
  | .isFalse _ => cl.runK f es k
 eqn f es k := by
  cases Nat.decEq f c.f with
  | isFalse _ => exact cl.eqn f es k
  | isTrue _ =>
    simp only
    cases c.dec es with
    | none => exact cl.eqn f es k
    | some a => simp only [Option.bind_assoc, Option.bind_some]
theorem put_eq {c : Ctr} {cl : Cal} (h : c.holds cl) : cl.put c = cl := by
 apply Cal.ext'
 intro f es
 simp only [Cal.put]
 cases Nat.decEq f c.f with
 | isFalse _ => rfl
 | isTrue hf =>
   simp only
   cases hd : c.dec es with
   | none => rfl
   | some a =>
     have := c.ok es a hd
     subst this; subst hf
     exact (h a).symm
theorem acall_succ {tb : Table} {pr : Prims} {N D : Nat} {f : FuncId} {fd : FD} {es : List E} (hp : pr f = none) (hu : headUnd es = false) (ht : tb f = some fd) (hl : es.length = fd.nargs) :
  acall tb pr N (D + 1) f es = exec (acall tb pr N D) N fd.body (params 0 es) (retK fd) := by
 show (match pr f with
  | some p => p es
  | none => match headUnd es with
    | true => none
    | false => match tb f with
      | some fd => match Nat.decEq es.length fd.nargs with
        | .isTrue _ => exec (acall tb pr N D) N fd.body (params 0 es) (retK fd)
        | .isFalse _ => none
      | none => none) = _
 rw [hp, hu, ht]
 simp only
 cases Nat.decEq es.length fd.nargs with
 | isTrue _ => rfl
 | isFalse h => exact absurd hl h
theorem acall_prim {tb : Table} {pr : Prims} {N D : Nat} {f : FuncId} {p : List E → Option (List E)} {es : List E} (hp : pr f = some p) : acall tb pr N (D + 1) f es = p es := by
 show (match pr f with
  | some p => p es
  | none => match headUnd es with
    | true => none
    | false => match tb f with
      | some fd => match Nat.decEq es.length fd.nargs with
        | .isTrue _ => exec (acall tb pr N D) N fd.body (params 0 es) (retK fd)
        | .isFalse _ => none
      | none => none) = _
 rw [hp]
def decV (T : Ty) : E → Option (den T)
 | .v T' x => cast? T ⟨T', x⟩
 | _ => none
def decA (T : Ty) : E → Option (den T)
 | .at T' x => cast? T ⟨T', x⟩
 | _ => none
theorem cast_some {T : Ty} {y : TV} {x : den T} (h : cast? T y = some x) : y = ⟨T, x⟩ := by
 obtain ⟨T', z⟩ := y
 unfold cast? at h
 split at h
 ·rename_i hT
  simp only at hT
  subst hT
  simp only [Option.some.injEq] at h
  subst h; rfl
 ·simp at h
theorem decV_some {T : Ty} {e : E} {x : den T} (h : decV T e = some x) : e = .v T x := by
 cases e <;> simp only [decV] at h <;> first | (exfalso; simp at h; done) | (have := cast_some h; cases this; rfl)
theorem decA_some {T : Ty} {e : E} {x : den T} (h : decA T e = some x) : e = .at T x := by
 cases e <;> simp only [decA] at h <;> first | (exfalso; simp at h; done) | (have := cast_some h; cases this; rfl)
theorem brB_ite {α : Type} (b : Bool) (x y : α) : brB b x y = if b then x else y := by cases b <;> rfl
def loopK {R : Type} (live : List Nat) (body : Env → KE R → Option R) (K : KE R) (m : Nat) : KE R := fun e env => match e with
 | .normal => iter live body K m (keep live env)
 | .exit id => K (.exit id) env
 | .ret => K .ret env
theorem iter_succ {R : Type} (live : List Nat) (body : Env → KE R → Option R) (K : KE R) (m : Nat) (env : Env) : iter live body K (m + 1) env = body env (loopK live body K m) := Eq.trans rfl rfl
theorem iter_zero {R : Type} (live : List Nat) (body : Env → KE R → Option R) (K : KE R) (env : Env) : iter live body K 0 env = none := Eq.trans rfl rfl
theorem loopK_normal {R : Type} (live : List Nat) (body : Env → KE R → Option R) (K : KE R) (m : Nat) (env : Env) : loopK live body K m .normal env = iter live body K m (keep live env) := Eq.trans rfl rfl
theorem loopK_exit {R : Type} (live : List Nat) (body : Env → KE R → Option R) (K : KE R) (m id : Nat) (env : Env) : loopK live body K m (.exit id) env = K (.exit id) env := Eq.trans rfl rfl
theorem loopK_ret {R : Type} (live : List Nat) (body : Env → KE R → Option R) (K : KE R) (m : Nat) (env : Env) : loopK live body K m .ret env = K .ret env := Eq.trans rfl rfl
theorem seqK_normal {R : Type} (y : Env → Option R) (K : KE R) (env : Env) : seqK y K .normal env = y env := Eq.trans rfl rfl
theorem seqK_exit {R : Type} (y : Env → Option R) (K : KE R) (id : Nat) (env : Env) : seqK y K (.exit id) env = K (.exit id) env := Eq.trans rfl rfl
theorem seqK_ret {R : Type} (y : Env → Option R) (K : KE R) (env : Env) : seqK y K .ret env = K .ret env := Eq.trans rfl rfl
theorem blockK_normal {R : Type} (id : Nat) (K : KE R) (env : Env) : blockK id K .normal env = K .normal env := Eq.trans rfl rfl
theorem blockK_ret {R : Type} (id : Nat) (K : KE R) (env : Env) : blockK id K .ret env = K .ret env := Eq.trans rfl rfl
theorem blockK_eq {R : Type} (id : Nat) (K : KE R) (env : Env) : blockK id K (.exit id) env = K .normal env := by
 unfold blockK; simp only
 cases Nat.decEq id id with
 | isTrue _ => rfl
 | isFalse h => exact absurd rfl h
theorem blockK_ne {R : Type} (id j : Nat) (h : Nat.beq j id = false) (K : KE R) (env : Env) : blockK id K (.exit j) env = K (.exit j) env := by
 unfold blockK; simp only
 cases Nat.decEq j id with
 | isTrue e => subst e; rw [Nat.beq_refl] at h; cases h
 | isFalse _ => rfl
section
variable {cl : Cal} {N : Nat} {R : Type} (env : Env) (K : KE R)
theorem exec_skip : exec cl N .skip env K = K .normal env := Eq.trans rfl rfl
theorem exec_ret : exec cl N .ret env K = K .ret env := Eq.trans rfl rfl
theorem exec_exit (id : Nat) : exec cl N (.exit id) env K = K (.exit id) env := Eq.trans rfl rfl
theorem exec_seq (a b : AC) : exec cl N (.seq a b) env K = exec cl N a env (seqK (fun env => exec cl N b env K) K) := Eq.trans rfl rfl
theorem exec_out (l : List Nat) (b : AC) : exec cl N (.out l b) env K = exec cl N b env (fun e env => K e (keep l env)) := Eq.trans rfl rfl
theorem exec_block (id : Nat) (b : AC) : exec cl N (.block id b) env K = exec cl N b env (blockK id K) := Eq.trans rfl rfl
theorem exec_loop (l : List Nat) (b : AC) : exec cl N (.loop l b) env K = iter l (fun env K => exec cl N b env K) K N (keep l env) := Eq.trans rfl rfl
theorem exec_cond' (c : Od) (x y : AC) : exec cl N (.cond c x y) env K = (boolOf? (ent env c)).bind fun q => brB q (exec cl N x env K) (exec cl N y env K) := Eq.trans rfl rfl
theorem exec_cond (c : Od) (x y : AC) (b : Bool) (h : boolOf? (ent env c) = some b) : exec cl N (.cond c x y) env K = brB b (exec cl N x env K) (exec cl N y env K) := by
 show (boolOf? (ent env c)).bind (fun q => brB q (exec cl N x env K) (exec cl N y env K)) = _
 rw [h]; rfl
end
theorem brB_true {α : Type} (x y : α) : brB true x y = x := Eq.trans rfl rfl
theorem brB_false {α : Type} (x y : α) : brB false x y = y := Eq.trans rfl rfl
theorem bind_brB {α β : Type} (b : Bool) (x y : Option α) (h : α → Option β) : (brB b x y).bind h = brB b (x.bind h) (y.bind h) := by cases b <;> rfl
theorem bind_ite {α β : Type} (c : Prop) [Decidable c] (x y : Option α) (h : α → Option β) : (if c then x else y).bind h = if c then x.bind h else y.bind h := by split <;> rfl
theorem bind_none' {α β : Type} (h : α → Option β) : (none : Option α).bind h = none := rfl
theorem bind_some' {α β : Type} (a : α) (h : α → Option β) : (some a).bind h = h a := rfl
def Ctr.prim (c : Ctr) : List E → Option (List E) := fun es => (c.dec es).bind fun a => (c.S a).bind fun b => some (c.ent b)
theorem prim_holds {tb : Table} {pr : Prims} {N D : Nat} {c : Ctr} (hp : pr c.f = some c.prim) (hd : ∀ a, c.dec (c.enc a) = some a) : c.holds (acall tb pr N (D + 1)) := by
 intro a
 rw [acall_prim hp]
 simp only [Ctr.prim, hd, Option.bind_some]
def dec0 : List E → Option Unit
 | [] => some ()
 | _ => none
def decC {A B : Type} (d : E → Option A) (r : List E → Option B) : List E → Option (A × B)
 | [] => none
 | e :: es => match d e, r es with
   | some a, some b => some (a, b)
   | _, _ => none
theorem dec0_some {es : List E} {a : Unit} (h : dec0 es = some a) : es = [] := by
 cases es <;> simp [dec0] at h; rfl
theorem decC_some {A B : Type} {d : E → Option A} {r : List E → Option B} {es : List E} {q : A × B} (h : decC d r es = some q) : ∃ e es', es = e :: es' ∧ d e = some q.1 ∧ r es' = some q.2 := by
 cases es with
 | nil => simp [decC] at h
 | cons e es =>
   simp only [decC] at h
   split at h
   ·rename_i a b ha hb; cases h; exact ⟨e, es, rfl, ha, hb⟩
   ·simp at h
theorem decV_cons {T : Ty} {B : Type} {r : List E → Option B} {enc : B → List E} (hr : ∀ es b, r es = some b → es = enc b) (es : List E) (q : den T × B) (h : decC (decV T) r es = some q) : es = .v T q.1 :: enc q.2 := by
 obtain ⟨e, es', rfl, h1, h2⟩ := decC_some h
 rw [decV_some h1, hr _ _ h2]
theorem decA_cons {T : Ty} {B : Type} {r : List E → Option B} {enc : B → List E} (hr : ∀ es b, r es = some b → es = enc b) (es : List E) (q : den T × B) (h : decC (decA T) r es = some q) : es = .at T q.1 :: enc q.2 := by
 obtain ⟨e, es', rfl, h1, h2⟩ := decC_some h
 rw [decA_some h1, hr _ _ h2]
def decN {B : Type} (r : List E → Option B) : List E → Option B
 | .dead :: es => r es
 | _ => none
theorem decN_cons {B : Type} {r : List E → Option B} {enc : B → List E} (hr : ∀ es b, r es = some b → es = enc b) (es : List E) (q : B) (h : decN r es = some q) : es = .dead :: enc q := by
 unfold decN at h
 split at h
 ·rw [hr _ _ h]
 ·cases h
def decW (e : TypeId) (T : Ty) : List E → Option (den (.sl T) × Unit)
 | [.und, .own true e' T' .no xs] => if e' = e then (cast? (.sl T) ⟨.sl T', xs⟩).bind fun xs => some (xs, ()) else none
 | _ => none
theorem decW_some {e : TypeId} {T : Ty} (es : List E) (q : den (.sl T) × Unit) (h : decW e T es = some q) : es = [.und, .own true e T .no q.1] := by
 unfold decW at h
 split at h
 ·split at h
  ·rename_i he
   subst he
   obtain ⟨y, hy, h⟩ := Option.bind_eq_some_iff.1 h
   cases h
   have := cast_some hy
   cases this; rfl
  ·cases h
 ·cases h
theorem recC_o {n : FuncId} {fd : FD} {N : Nat} {base : Cal} {f : FuncId} (h : Nat.beq f n = false) (m : Nat) (es : List E) : (recC n fd N base m).run f es = base.run f es := by
 cases m with
 | zero => rfl
 | succ m =>
   show (match Nat.decEq f n with
    | .isTrue _ => (match headUnd es with
      | true => none
      | false => match Nat.decEq es.length fd.nargs with
        | .isTrue _ => exec (recC n fd N base m) N fd.body (params 0 es) (retK fd)
        | .isFalse _ => none)
    | .isFalse _ => base.run f es) = _
   cases Nat.decEq f n with
   | isTrue e => subst e; rw [Nat.beq_refl] at h; cases h
   | isFalse _ => rfl
theorem recC_s {n : FuncId} {fd : FD} {N : Nat} {base : Cal} {m : Nat} {es : List E} (hu : headUnd es = false) (hl : es.length = fd.nargs) : (recC n fd N base (m + 1)).run n es = exec (recC n fd N base m) N fd.body (params 0 es) (retK fd) := by
 have key : ∀ f : FuncId, f = n → (recC n fd N base (m + 1)).run f es = exec (recC n fd N base m) N fd.body (params 0 es) (retK fd) := by
  intro f hf
  show (match Nat.decEq f n with
   | .isTrue _ => (match headUnd es with
     | true => none
     | false => match Nat.decEq es.length fd.nargs with
       | .isTrue _ => exec (recC n fd N base m) N fd.body (params 0 es) (retK fd)
       | .isFalse _ => none)
   | .isFalse _ => base.run f es) = _
  cases Nat.decEq f n with
  | isFalse e => exact absurd hf e
  | isTrue _ =>
    simp only [hu]
    cases Nat.decEq es.length fd.nargs with
    | isTrue _ => rfl
    | isFalse h => exact absurd hl h
 exact key n rfl
theorem recC_holds {n : FuncId} {fd : FD} {N : Nat} {base : Cal} {c : Ctr} (h : Nat.beq c.f n = false) (hc : c.holds base) (m : Nat) : c.holds (recC n fd N base m) := fun a => (recC_o h m _).trans (hc a)
end Go.Fw
/- Facts of closed calls, so that a call is run piece by piece. -/
namespace Go.Fw
open Go Go.RowKit
def eqLF {α : Type} (f : α → α → Bool) : List α → List α → Bool
 | [], [] => true
 | x :: xs, y :: ys => f x y && eqLF f xs ys
 | _, _ => false
theorem eqLF_eq {α : Type} {f : α → α → Bool} (h : ∀ x y, f x y = true → x = y) : ∀ {xs ys : List α}, eqLF f xs ys = true → xs = ys
 | [], [], _ => rfl
 | x :: xs, y :: ys, e => by
   simp only [eqLF, Bool.and_eq_true] at e
   rw [h x y e.1, eqLF_eq h e.2]
 | [], _ :: _, e => by simp [eqLF] at e
 | _ :: _, [], e => by simp [eqLF] at e
def eqVF : (T : Ty) → den T → den T → Bool
 | .int _ => fun x y => @decide (x = y) (Int.instDecidableEq x y)
 | .bool => fun x y => match x, y with | true, true => true | false, false => true | _, _ => false
 | .str => eqLF fun x y => @decide (x.toNat = y.toNat) (Nat.decEq _ _)
 | .unit => fun _ _ => true
 | .pair A B => fun x y => eqVF A x.1 y.1 && eqVF B x.2 y.2
 | .sl T => eqLF (eqVF T)
 | .arr _ T => eqLF (eqVF T)
 | .fn _ _ => fun _ _ => false
theorem eqVF_eq : ∀ (T : Ty) (x y : den T), eqVF T x y = true → x = y
 | .int _, x, y, h => of_decide_eq_true h
 | .bool, x, y, h => by cases x <;> cases y <;> first | rfl | (simp [eqVF] at h; done)
 | .str, x, y, h => eqLF_eq (fun a b h => by
   have := of_decide_eq_true h
   exact UInt8.toNat_inj.1 this) h
 | .unit, x, y, _ => rfl
 | .pair A B, x, y, h => by
   simp only [eqVF, Bool.and_eq_true] at h
   exact Prod.ext (eqVF_eq A _ _ h.1) (eqVF_eq B _ _ h.2)
 | .sl T, x, y, h => eqLF_eq (eqVF_eq T) h
 | .arr _ T, x, y, h => eqLF_eq (eqVF_eq T) h
 | .fn _ _, x, y, h => by simp [eqVF] at h
def eqTV (x y : TV) : Bool := if h : x.1 = y.1 then eqVF y.1 (h ▸ x.2) y.2 else false
theorem eqTV_eq {x y : TV} (h : eqTV x y = true) : x = y := by
 obtain ⟨T, x⟩ := x; obtain ⟨T', y⟩ := y
 unfold eqTV at h
 split at h
 ·rename_i e
  simp only at e
  subst e
  have h' : eqVF T x y = true := h
  rw [eqVF_eq _ _ _ h']
 ·cases h
def eqE : E → E → Bool
 | .v T x, .v T' y => eqTV ⟨T, x⟩ ⟨T', y⟩
 | .at T x, .at T' y => eqTV ⟨T, x⟩ ⟨T', y⟩
 | _, _ => false
theorem eqE_eq (a b : E) (h : eqE a b = true) : a = b := by
 unfold eqE at h
 split at h
 ·have := eqTV_eq h; cases this; rfl
 ·have := eqTV_eq h; cases this; rfl
 ·cases h
abbrev Fact := FuncId × List E × List E
def lookF : List Fact → FuncId → List E → Option (List E)
 | [], _, _ => none
 | (g, as, rs) :: r, f, es => match Nat.decEq g f with
   | .isTrue _ => (match eqLF eqE as es with | true => some rs | false => lookF r f es)
   | .isFalse _ => lookF r f es
theorem lookF_mem : ∀ {fs : List Fact} {f : FuncId} {es rs : List E}, lookF fs f es = some rs → (f, es, rs) ∈ fs
 | [], _, _, _, h => by simp [lookF] at h
 | (g, as, rs') :: r, f, es, rs, h => by
   simp only [lookF] at h
   split at h
   ·rename_i hg _
    split at h
    ·rename_i he
     simp only [Option.some.injEq] at h
     subst h; subst hg
     rw [eqLF_eq eqE_eq he]
     exact List.mem_cons_self ..
    ·exact List.mem_cons_of_mem _ (lookF_mem h)
   ·exact List.mem_cons_of_mem _ (lookF_mem h)
def withF (fs : List Fact) (cl : Cal) : Cal := ⟨fun f es => match lookF fs f es with | some rs => some rs | none => cl.run f es, fun f es k => match lookF fs f es with | some rs => k rs | none => cl.runK f es k, fun f es k => by
 split
 ·rfl
 ·exact cl.eqn f es k⟩
def allF (cl : Cal) : List Fact → Prop
 | [] => True
 | q :: r => cl.run q.1 q.2.1 = some q.2.2 ∧ allF cl r
theorem allF_mem {cl : Cal} : ∀ {fs : List Fact}, allF cl fs → ∀ q ∈ fs, cl.run q.1 q.2.1 = some q.2.2
 | [], _, q, hq => by simp at hq
 | p :: r, h, q, hq => by
   rcases List.mem_cons.1 hq with rfl | hq
   ·exact h.1
   ·exact allF_mem h.2 q hq
theorem withF_eq {fs : List Fact} {cl : Cal} (h : allF cl fs) : withF fs cl = cl := by
 apply Cal.ext'
 intro f es
 show (match lookF fs f es with | some rs => some rs | none => cl.run f es) = cl.run f es
 split
 ·rename_i rs hl
  exact (allF_mem h _ (lookF_mem hl)).symm
 ·rfl
theorem fact_of {tb : Table} {pr : Prims} {N D : Nat} {f : FuncId} {fd : FD} {es res : List E} (fs : List Fact) (h1 : pr f = none) (hu : headUnd es = false) (h2 : tb f = some fd) (h3 : es.length = fd.nargs) (hf : allF (acall tb pr N D) fs)
  (hk : exec (withF fs (acall tb pr N D)) N fd.body (params 0 es) (retK fd) = some res) : (acall tb pr N (D + 1)).run f es = some res := by
 have := acall_succ (tb := tb) (pr := pr) (N := N) (D := D) (f := f) (es := es) h1 hu h2 h3
 rw [withF_eq hf] at hk
 exact this.trans hk
end Go.Fw
/- Soundness: an operation whose order is open does what 'step' does. -/
namespace Go.Fw
open Go Go.RowKit
theorem Rd.run_bind {α β : Type} (a : Rd α) (f : α → Rd β) (L : Nat → E) : (a.bind f).run L = (a.run L).bind fun x => (f x).run L := rfl
theorem Rd.run_ok {α : Type} (x : α) (L : Nat → E) : (Rd.ok x).run L = some x := rfl
theorem Rd.run_no {α : Type} (L : Nat → E) : (Rd.no : Rd α).run L = none := rfl
theorem Rd.run_of {α : Type} (x : Option α) (L : Nat → E) : (Rd.of x).run L = x := rfl
theorem Rd.run_get (k : Nat) (L : Nat → E) : (Rd.get k).run L = Rd.notDead (L k) := rfl
theorem Rd.run_if {α : Type} {p : Prop} [Decidable p] (a b : Rd α) (L : Nat → E) : (if p then a else b).run L = if p then a.run L else b.run L := by split <;> rfl
theorem Rd.run_ite {α : Type} {p : Prop} [Decidable p] (a b : Rd α) (L : Nat → E) : (Rd.ite p a b).run L = if p then a.run L else b.run L := rfl
theorem Rd.run_br {α : Type} (q : Bool) (a b : Rd α) (L : Nat → E) : (Rd.br q a b).run L = brB q (a.run L) (b.run L) := rfl
theorem Rd.run_call (cl : Cal) (f : FuncId) (es : List E) (L : Nat → E) : (Rd.call cl f es).run L = cl f es := rfl
theorem notDead_some {e f : E} : Rd.notDead e = some f ↔ e = f ∧ e ≠ .dead := by
 cases e <;> simp [Rd.notDead]
theorem notDead_bind {β : Type} {e : E} {f : E → Option β} {y : β} : (Rd.notDead e).bind f = some y → f e = some y := by
 cases e <;> simp [Rd.notDead]
section
variable {cl : Cal} {env : Env} {R : Type}
theorem int_run (x : Od) : (intR x).run (look env) = intOf? (ent env x) := by
 unfold intR; rw [Rd.run_bind, ent_run]; cases ent env x <;> rfl
theorem bool_run (x : Od) : (boolR x).run (look env) = boolOf? (ent env x) := by
 unfold boolR; rw [Rd.run_bind, ent_run]; cases ent env x <;> rfl
theorem str_run (x : Od) : (strR x).run (look env) = strOf? (ent env x) := by
 unfold strR; rw [Rd.run_bind, ent_run]; cases ent env x <;> rfl
theorem val_run (x : Od) : (valR x).run (look env) = valOf? (ent env x) := by
 unfold valR; rw [Rd.run_bind, ent_run]; cases ent env x <;> rfl
theorem intOf_some {e : E} {q : IntKind × Int} (h : intOf? e = some q) : e = .v (.int q.1) q.2 := by
 unfold intOf? at h
 split at h
 ·cases h; rfl
 ·simp at h
theorem optInt_run (x : Option Od) : (optIntR x).run (look env) = optInt env x := by
 cases x with
 | none => rfl
 | some x => unfold optIntR optInt; rw [Rd.run_bind, int_run]; rfl
theorem lie_run {x : Od} {e : E} (h : (lieR x).run (look env) = some e) : ent env x = e ∧ e.lie = true := by
 unfold lieR at h
 rw [Rd.run_bind, ent_run] at h
 have h := notDead_bind h
 simp only [Rd.run_if, Rd.run_ok, Rd.run_no] at h
 split at h
 ·rename_i hl; cases h; exact ⟨rfl, hl⟩
 ·simp at h
theorem cp_run {x : Od} {e : E} (h : (cpR x).run (look env) = some e) : copyE x (ent env x) = e ∧ ∀ es, ent env x ≠ .tup es := by
 unfold cpR at h
 rw [Rd.run_bind, ent_run] at h
 have h := notDead_bind h
 cases he : ent env x <;> rw [he] at h <;> simp only [cpE] at h <;> first | (exfalso; simp [Rd.run_no] at h; done) | skip
 all_goals first
  | (simp only [Rd.run_ok, Option.some.injEq] at h; subst h; exact ⟨rfl, by simp⟩)
  | (cases x <;> simp only [Rd.run_ok, Rd.run_no, Option.some.injEq] at h <;> first | (subst h; exact ⟨rfl, by simp⟩) | (exfalso; simp at h; done))
theorem valOf_some {e : E} {y : TV} (h : valOf? e = some y) : e = .v y.1 y.2 := by
 cases e <;> simp [valOf?] at h
 subst h; rfl
theorem pub_val {x : Od} {y : TV} (h : valOf? (ent env x) = some y) : pub env x = some (env, y) := by
 have := valOf_some h
 simp only [pub, this, imm, Option.bind_some, homeOf]
theorem argList_run : ∀ (l : List Od), (argListR cl l).run (look env) = argList cl env l
 | [] => rfl
 | a :: r => by
   unfold argListR argList
   rw [Rd.run_bind, Rd.run_bind, ent_run]
   have e2 : ∀ x : E, (((argListR cl r).bind fun y => Rd.ok (x :: y)).run (look env)) = (argList cl env r).bind fun y => some (x :: y) := by
    intro x; rw [Rd.run_bind, argList_run r]; rfl
   simp only [e2]
   congr 1
   cases he : ent env a <;> simp only [Rd.notDead, Option.bind_some, Option.bind_none, argR1]
   case dead => rfl
   case loc T o x => rw [Rd.run_if]; rfl
   case clo f A C caps => exact clo_run cl env f A C caps
   all_goals exact arg_run env _
theorem homeless_run : ∀ (l : List Od), (homelessR l).run (look env) = some () → freezeAll env l = env
 | [], _ => rfl
 | a :: r, h => by
   unfold homelessR at h
   rw [Rd.run_bind, ent_run] at h
   have h := notDead_bind h
   first | rw [Rd.run_ite] at h | rw [Rd.run_if] at h
   split at h
   ·rename_i hn
    unfold freezeAll
    rw [Option.isNone_iff_eq_none] at hn
    rw [hn]
    exact homeless_run r h
   ·simp [Rd.run_no] at h
theorem res_run {args : List Od} {res : List E} {e : E} (h : (resR args res).run (look env) = some e) : e = resE res ∧ (if res.all E.plain then env else freezeAll env args) = env := by
 unfold resR at h
 first | rw [Rd.run_ite] at h | rw [Rd.run_if] at h
 split at h
 ·rename_i hp; cases h; exact ⟨rfl, if_pos hp⟩
 ·rename_i hp
  rw [Rd.run_bind] at h
  obtain ⟨_, hy, h⟩ := Option.bind_eq_some_iff.1 h
  cases h
  exact ⟨rfl, by rw [if_neg hp]; exact homeless_run args hy⟩
theorem caps_run : ∀ (l : List Od) (cs : List E), (capsR l).run (look env) = some cs → (l.all fun a => (ent env a).cap) = true ∧ cs = l.map fun a => copyE a (ent env a)
 | [], cs, h => by simp only [capsR, Rd.run_ok, Option.some.injEq] at h; subst h; exact ⟨rfl, rfl⟩
 | a :: r, cs, h => by
   unfold capsR at h
   rw [Rd.run_bind, ent_run] at h
   have h := notDead_bind h
   first | rw [Rd.run_ite] at h | rw [Rd.run_if] at h
   split at h
   ·rename_i hc
    rw [Rd.run_bind] at h
    obtain ⟨y, hy, h⟩ := Option.bind_eq_some_iff.1 h
    obtain ⟨h1, rfl⟩ := caps_run r y hy
    simp only [Rd.run_ok, Option.some.injEq] at h
    subst h
    exact ⟨by simp only [List.all_cons, hc, h1, Bool.and_true], rfl⟩
   ·simp [Rd.run_no] at h
theorem build_run : ∀ (T : Ty) (x : den T) (l : List (Path × Od)) (y : den T), (buildR T x l).run (look env) = some y → buildV T x env l = some (env, y)
 | T, x, [], y, h => by simp only [buildR, Rd.run_ok, Option.some.injEq] at h; subst h; simp [buildV]
 | T, x, (p, a) :: r, y, h => by
   unfold buildR at h
   rw [Rd.run_bind, val_run] at h
   obtain ⟨q, hq, h⟩ := Option.bind_eq_some_iff.1 h
   rw [Rd.run_bind, Rd.run_of] at h
   obtain ⟨z, hz, h⟩ := Option.bind_eq_some_iff.1 h
   unfold buildV
   rw [pub_val hq]
   simp only [Option.bind_some, hz]
   exact build_run T z r y h
theorem buildL_run (T : Ty) : ∀ (l : List Od) (y : List (den T)), (buildLR T l).run (look env) = some y → buildL T env l = some (env, y)
 | [], y, h => by simp only [buildLR, Rd.run_ok, Option.some.injEq] at h; subst h; simp [buildL]
 | a :: r, y, h => by
   unfold buildLR at h
   rw [Rd.run_bind, val_run] at h
   obtain ⟨q, hq, h⟩ := Option.bind_eq_some_iff.1 h
   rw [Rd.run_bind, Rd.run_of] at h
   obtain ⟨z, hz, h⟩ := Option.bind_eq_some_iff.1 h
   rw [Rd.run_bind] at h
   obtain ⟨u, hu, h⟩ := Option.bind_eq_some_iff.1 h
   simp only [Rd.run_ok, Option.some.injEq] at h
   subst h
   unfold buildL
   rw [pub_val hq]
   simp only [Option.bind_some, hz]
   rw [buildL_run T r u hu]
   rfl
theorem lie_copy {x : Od} {e : E} (h : e.lie = true) : copyE x e = e := by
 cases e <;> first | rfl | (exfalso; simp [E.lie] at h; done)
theorem loadE_step {T : Ty} {a : Od} {d : Option Nat} {g : Option (Nat × Bool)} {s : Nat} {p : Path} {e : E} {K : Kont R} (h0 : locPlace env a = some (s, p)) (h : (loadR T s p (look env s)).run (look env) = some e) : step cl ⟨d, .load T a, g⟩ env K = K (putO env d e) := by
 have h1 : step cl ⟨d, .load T a, g⟩ env K = (match locPlace env a with
   | some (s, p) => match look env s with
     | .loc T0 o x => match annAt o p with
       | .own .. => match getP T0 p x with
         | some ⟨.sl T', _⟩ => if T = .sl T' then K (putO env d (.ref s p)) else none
         | _ => none
       | b => if b.whole then (getP T0 p x).bind fun z => (cast? T z).bind fun y =>
           K (putO (if b.pure then env else freeze env s) d (.v T y)) else none
     | _ => none
   | none => none) := by
  unfold locPlace at h0
  cases he : ent env a <;> rw [he] at h0 <;> first | (exfalso; simp at h0; done) | (simp only [step, he]; done) | (simp only [step, he]; rfl)
 rw [h1, h0]
 simp only
 cases hl : look env s <;> rw [hl] at h <;> simp only [loadR, Rd.run_no] at h <;> first | (exfalso; simp at h; done) | skip
 rename_i T0 o x
 simp only
 cases hb : annAt o p <;> rw [hb] at h <;> simp only at h ⊢
 case own wr e' o' =>
  split at h
  ·rename_i T' xs hg
   rw [Rd.run_if] at h
   split at h
   ·rename_i h3; cases h; first | (rw [hg]; simp only; rw [if_pos h3]) | rw [if_pos h3]
   ·simp [Rd.run_no] at h
  ·simp [Rd.run_no] at h
 all_goals
  rw [Rd.run_if] at h
  split at h
  ·rename_i hw
   simp only [Bool.and_eq_true] at hw
   rw [Rd.run_bind, Rd.run_of] at h
   obtain ⟨y, hy, h⟩ := Option.bind_eq_some_iff.1 h
   obtain ⟨z, hz, hy⟩ := Option.bind_eq_some_iff.1 hy
   cases h
   simp only [hw.1, hw.2, if_true, hz, hy, Option.bind_some]
  ·simp [Rd.run_no] at h
section
variable {i : AI} {e : E} {K : Kont R}
theorem moveE_lie {d : Option Nat} {x : Od} (h1 : ent env x = e) (h2 : e.lie = true) : moveE env d x = putO env d e := by
 unfold moveE
 rw [h1]
 have h3 := lie_copy (x := x) h2
 cases e <;> simp_all [E.lie]
theorem assign_lie {d : Nat} {x : Od} (h1 : ent env x = e) (h2 : e.lie = true) : assign env d x = put env d e := by
 unfold assign
 rw [h1]
 have h3 := lie_copy (x := x) h2
 cases e <;> simp_all [E.lie]
theorem valE_step (h : (valE cl i.dst i.op).run (look env) = some e) : step cl i env K = K (putO env i.dst e) := by
 obtain ⟨d, op, g⟩ := i
 cases op <;> simp only [valE] at h ⊢
 case mv x =>
  obtain ⟨h1, h2⟩ := cp_run h
  have : moveE env d x = putO env d e := by
   unfold moveE
   split
   ·rename_i es he; exact absurd he (h2 es)
   ·rw [h1]
  simp only [step, this]
 case asg x =>
  first | rw [Rd.run_ite] at h | rw [Rd.run_if] at h
  split at h
  ·obtain ⟨h1, h2⟩ := lie_run h
   cases d with
   | none => simp at *
   | some d => simp only [step, assign_lie h1 h2]; rfl
  ·simp [Rd.run_no] at h
 case pick c a b =>
  rw [Rd.run_bind, bool_run] at h
  obtain ⟨q, hq, h⟩ := Option.bind_eq_some_iff.1 h
  simp only [step, hq, Option.bind_some]
  rw [Rd.run_br] at h
  cases q <;> (simp only [brB] at h ⊢; obtain ⟨h1, h2⟩ := cp_run h; rw [h1])
 case alloc T o => cases h; rfl
 case box T x =>
  rw [Rd.run_bind, val_run] at h
  obtain ⟨q, hq, h⟩ := Option.bind_eq_some_iff.1 h
  rw [Rd.run_bind, Rd.run_of] at h
  obtain ⟨y, hy, h⟩ := Option.bind_eq_some_iff.1 h
  cases h
  simp only [step, pub_val hq, Option.bind_some, hy]
 case build T parts =>
  rw [Rd.run_bind] at h
  obtain ⟨y, hy, h⟩ := Option.bind_eq_some_iff.1 h
  cases h
  simp only [step, build_run _ _ _ _ hy, Option.bind_some]
 case buildN T o parts =>
  rw [Rd.run_bind] at h
  obtain ⟨y, hy, h⟩ := Option.bind_eq_some_iff.1 h
  cases h
  simp only [step, build_run _ _ _ _ hy, Option.bind_some]
 case buildSlice ed T parts =>
  rw [Rd.run_bind] at h
  obtain ⟨y, hy, h⟩ := Option.bind_eq_some_iff.1 h
  cases h
  simp only [step, buildL_run _ _ _ hy, Option.bind_some]
 case load T a =>
  rw [Rd.run_bind, ent_run] at h
  have h := notDead_bind h
  split at h
  ·rename_i T' x he
   rw [Rd.run_bind, Rd.run_of] at h
   obtain ⟨y, hy, h⟩ := Option.bind_eq_some_iff.1 h
   cases h
   simp only [step, he, hy, Option.bind_some]
  ·rename_i s p j q he
   rw [Rd.run_bind, held_run] at h
   obtain ⟨hh, hhe, h⟩ := Option.bind_eq_some_iff.1 h
   simp only [step, he, hhe, Option.bind_some]
   simp only [loadH, Rd.run_ite] at h
   split at h
   ·rename_i h1
    rw [Rd.run_if] at h
    split at h
    ·rename_i h2
     rw [Rd.run_bind, Rd.run_of] at h
     obtain ⟨y, hy, h⟩ := Option.bind_eq_some_iff.1 h
     obtain ⟨z, hz, hy⟩ := Option.bind_eq_some_iff.1 hy
     cases h
     simp only [h1, h2, hz, hy, Option.bind_some, if_true]
    ·simp [Rd.run_no] at h
   ·simp [Rd.run_no] at h
  ·rename_i s p he
   rw [Rd.run_bind, Rd.run_get] at h
   exact loadE_step (by simp only [locPlace, he]) (notDead_bind h)
  ·rename_i T0 o x he
   split at h
   ·rename_i k _
    have hl : look env k = .loc T0 o x := he
    rw [he, ← hl] at h
    exact loadE_step (by simp only [locPlace, he, Od.slot, Option.map_some]) h
   ·simp [Rd.run_no] at h
  ·simp [Rd.run_no] at h
 case bin op x y =>
  rw [Rd.run_bind, ent_run] at h
  have h := notDead_bind h
  rw [Rd.run_bind, ent_run] at h
  have h := notDead_bind h
  unfold binR at h
  split at h
  ·rename_i k m k' n hx hy
   rw [Rd.run_if] at h
   split at h
   ·rename_i hk
    simp only [step, hx, hy, if_pos hk]
    cases op
    case quo =>
     simp only [Rd.run_ite] at h ⊢
     split at h
     ·simp [Rd.run_no] at h
     ·rename_i h0; cases h; rw [if_neg h0]
    case rem =>
     simp only [Rd.run_ite] at h ⊢
     split at h
     ·simp [Rd.run_no] at h
     ·rename_i h0; cases h; rw [if_neg h0]
    all_goals
     simp only at h ⊢
     split at h
     ·rename_i b hb; cases h; first | rfl | (rw [hb])
     ·rename_i hb
      split at h
      ·rename_i r hr
       cases h
       first | (rw [hb]; simp only [hr, Option.bind_some]; done) | (simp only [hr, Option.bind_some]; done)
      ·simp [Rd.run_no] at h
   ·simp [Rd.run_no] at h
  ·rename_i s t hx hy
   simp only [step, hx, hy]
   cases op <;> simp only at h ⊢ <;> first | (simp [Rd.run_no] at h; done) | (cases h; rfl) | skip
   rw [Rd.run_ite] at h
   split at h
   ·rename_i h0; cases h; rw [if_pos h0]
   ·simp [Rd.run_no] at h
  ·simp [Rd.run_no] at h
 case eqT neg T x y =>
  rw [Rd.run_bind, ent_run] at h
  have h := notDead_bind h
  rw [Rd.run_bind, ent_run] at h
  have h := notDead_bind h
  rw [Rd.run_bind, imm_run] at h
  obtain ⟨s, hs, h⟩ := Option.bind_eq_some_iff.1 h
  rw [Rd.run_bind, imm_run] at h
  obtain ⟨t, ht, h⟩ := Option.bind_eq_some_iff.1 h
  rw [Rd.run_bind, Rd.run_of] at h
  obtain ⟨s', hs', h⟩ := Option.bind_eq_some_iff.1 h
  rw [Rd.run_bind, Rd.run_of] at h
  obtain ⟨t', ht', h⟩ := Option.bind_eq_some_iff.1 h
  rw [Rd.run_bind, Rd.run_of] at h
  obtain ⟨f, hf, h⟩ := Option.bind_eq_some_iff.1 h
  cases h
  simp only [step, hs, ht, hs', ht', hf, Option.bind_some]
 case un op x =>
  rw [Rd.run_bind, ent_run] at h
  have h := notDead_bind h
  rw [Rd.run_of] at h
  unfold unOE at h
  split at h
  ·rename_i hx _; cases h; simp only [step, hx]
  ·rename_i hx _; cases h; simp only [step, hx]
  ·simp at h
 case convI k x =>
  rw [Rd.run_bind, int_run] at h
  obtain ⟨q, hq, h⟩ := Option.bind_eq_some_iff.1 h
  cases h
  simp only [step, hq, Option.bind_some]
 case fieldAddr S p a =>
  rw [Rd.run_bind, ent_run] at h
  have h := notDead_bind h
  split at h
  ·rename_i T x he
   rw [Rd.run_bind, Rd.run_of] at h
   obtain ⟨x', hx', h⟩ := Option.bind_eq_some_iff.1 h
   rw [Rd.run_bind, Rd.run_of] at h
   obtain ⟨y, hy, h⟩ := Option.bind_eq_some_iff.1 h
   cases h
   simp only [step, he, hx', hy, Option.bind_some]
  ·rename_i s q he
   rw [Rd.run_bind, Rd.run_get] at h
   have h := notDead_bind h
   rw [Rd.run_of] at h
   unfold fldE at h
   split at h
   ·rename_i T0 o x hl
    split at h
    ·rename_i h1; cases h; simp only [step, he, hl, if_pos h1]
    ·simp at h
   ·simp at h
  ·rename_i s q j r he
   rw [Rd.run_bind, held_run] at h
   obtain ⟨hh, hhe, h⟩ := Option.bind_eq_some_iff.1 h
   first | rw [Rd.run_ite] at h | rw [Rd.run_if] at h
   split at h
   ·rename_i h1; cases h; simp only [step, he, hhe, Option.bind_some, if_pos h1]
   ·simp [Rd.run_no] at h
  ·rename_i T0 o x he
   first | rw [Rd.run_ite] at h | rw [Rd.run_if] at h
   split at h
   ·rename_i h1
    split at h
    ·cases h; simp only [step, he, if_pos h1, Od.slot, Option.bind_some]
    ·simp [Rd.run_no] at h
   ·simp [Rd.run_no] at h
  ·simp [Rd.run_no] at h
 case indexAddr T x ix =>
  rw [Rd.run_bind, int_run] at h
  obtain ⟨q, hq, h⟩ := Option.bind_eq_some_iff.1 h
  rw [Rd.run_bind, ent_run] at h
  have h := notDead_bind h
  split at h
  ·rename_i T' xs he
   rw [Rd.run_bind, Rd.run_of] at h
   obtain ⟨y, hy, h⟩ := Option.bind_eq_some_iff.1 h
   first | rw [Rd.run_ite] at h | rw [Rd.run_if] at h
   split at h
   ·rename_i h1; cases h; simp only [step, hq, he, hy, Option.bind_some, if_pos h1]
   ·simp [Rd.run_no] at h
  ·rename_i wr ed T' o xs he
   first | rw [Rd.run_ite] at h | rw [Rd.run_if] at h
   split at h
   ·rename_i h0
    split at h
    ·first | rw [Rd.run_ite] at h | rw [Rd.run_if] at h
     split at h
     ·rename_i h1; cases h; simp only [step, hq, he, Option.bind_some, if_pos h1, if_pos h0, Od.slot]
     ·simp [Rd.run_no] at h
    ·simp [Rd.run_no] at h
   ·simp [Rd.run_no] at h
  ·rename_i s p he
   rw [Rd.run_bind, held_run] at h
   obtain ⟨hh, hhe, h⟩ := Option.bind_eq_some_iff.1 h
   first | rw [Rd.run_ite] at h | rw [Rd.run_if] at h
   split at h
   ·rename_i h0
    first | rw [Rd.run_ite] at h | rw [Rd.run_if] at h
    split at h
    ·rename_i h1; cases h; simp only [step, hq, he, hhe, Option.bind_some, if_pos h1, if_pos h0]
    ·simp [Rd.run_no] at h
   ·simp [Rd.run_no] at h
  ·simp [Rd.run_no] at h
 case indexArr n T x ix =>
  rw [Rd.run_bind, int_run] at h
  obtain ⟨q, hq, h⟩ := Option.bind_eq_some_iff.1 h
  rw [Rd.run_bind, ent_run] at h
  have h := notDead_bind h
  split at h
  ·rename_i T' xs he
   rw [Rd.run_bind, Rd.run_of] at h
   obtain ⟨y, hy, h⟩ := Option.bind_eq_some_iff.1 h
   first | rw [Rd.run_ite] at h | rw [Rd.run_if] at h
   split at h
   ·rename_i h1; cases h; simp only [step, hq, he, hy, Option.bind_some, if_pos h1]
   ·simp [Rd.run_no] at h
  ·rename_i s p he
   rw [Rd.run_bind, Rd.run_get] at h
   have h := notDead_bind h
   unfold arrR at h
   split at h
   ·rename_i T0 o x hl
    rw [Rd.run_if] at h
    split at h
    ·rename_i h0
     rw [Rd.run_ite] at h
     split at h
     ·rename_i h1; cases h; simp only [step, hq, he, Option.bind_some, locPlace, hl, if_pos h0, if_pos h1]
     ·simp [Rd.run_no] at h
    ·simp [Rd.run_no] at h
   ·simp [Rd.run_no] at h
  ·rename_i T0 o x he
   split at h
   ·rename_i k _ _
    have hl : look env k = .loc T0 o x := he
    rw [he] at h
    simp only [arrR] at h
    rw [Rd.run_if] at h
    split at h
    ·rename_i h0
     rw [Rd.run_ite] at h
     split at h
     ·rename_i h1; cases h; simp only [step, hq, he, Option.bind_some, locPlace, Od.slot, Option.map_some, hl, if_pos h0, if_pos h1]
     ·simp [Rd.run_no] at h
    ·simp [Rd.run_no] at h
   ·simp [Rd.run_no] at h
  ·simp [Rd.run_no] at h
 case field S p x =>
  rw [Rd.run_bind, ent_run] at h
  have h := notDead_bind h
  rw [Rd.run_bind, imm_run] at h
  obtain ⟨s, hs, h⟩ := Option.bind_eq_some_iff.1 h
  rw [Rd.run_bind, Rd.run_of] at h
  obtain ⟨y, hy, h⟩ := Option.bind_eq_some_iff.1 h
  rw [Rd.run_bind, Rd.run_of] at h
  obtain ⟨z, hz, h⟩ := Option.bind_eq_some_iff.1 h
  cases h
  simp only [step, hs, hy, hz, Option.bind_some]
 case indexS x ix =>
  rw [Rd.run_bind, int_run] at h
  obtain ⟨q, hq, h⟩ := Option.bind_eq_some_iff.1 h
  rw [Rd.run_bind, str_run] at h
  obtain ⟨s, hs, h⟩ := Option.bind_eq_some_iff.1 h
  first | rw [Rd.run_ite] at h | rw [Rd.run_if] at h
  split at h
  ·rename_i h1; cases h; simp only [step, hq, hs, Option.bind_some, if_pos h1]
  ·simp [Rd.run_no] at h
 case indexA n T x ix =>
  rw [Rd.run_bind, int_run] at h
  obtain ⟨q, hq, h⟩ := Option.bind_eq_some_iff.1 h
  rw [Rd.run_bind, ent_run] at h
  have h := notDead_bind h
  split at h
  ·rename_i T' xs he
   rw [Rd.run_bind, Rd.run_of] at h
   obtain ⟨y, hy, h⟩ := Option.bind_eq_some_iff.1 h
   first | rw [Rd.run_ite] at h | rw [Rd.run_if] at h
   split at h
   ·rename_i h1; cases h; simp only [step, hq, he, hy, Option.bind_some, if_pos h1]
   ·simp [Rd.run_no] at h
  ·simp [Rd.run_no] at h
 case sliceS x lo hi =>
  rw [Rd.run_bind, optInt_run] at h
  obtain ⟨l, hl, h⟩ := Option.bind_eq_some_iff.1 h
  rw [Rd.run_bind, optInt_run] at h
  obtain ⟨u, hu, h⟩ := Option.bind_eq_some_iff.1 h
  rw [Rd.run_bind, str_run] at h
  obtain ⟨s, hs, h⟩ := Option.bind_eq_some_iff.1 h
  first | rw [Rd.run_ite] at h | rw [Rd.run_if] at h
  split at h
  ·rename_i h1; cases h; simp only [step, hl, hu, hs, Option.bind_some, if_pos h1]
  ·simp [Rd.run_no] at h
 case sliceL T x lo hi mx =>
  rw [Rd.run_bind, optInt_run] at h
  obtain ⟨l, hl, h⟩ := Option.bind_eq_some_iff.1 h
  rw [Rd.run_bind, optInt_run] at h
  obtain ⟨u, hu, h⟩ := Option.bind_eq_some_iff.1 h
  rw [Rd.run_bind, optInt_run] at h
  obtain ⟨m, hm, h⟩ := Option.bind_eq_some_iff.1 h
  rw [Rd.run_bind, val_run] at h
  obtain ⟨y, hy, h⟩ := Option.bind_eq_some_iff.1 h
  rw [Rd.run_bind, Rd.run_of] at h
  obtain ⟨xs, hxs, h⟩ := Option.bind_eq_some_iff.1 h
  first | rw [Rd.run_ite] at h | rw [Rd.run_if] at h
  split at h
  ·rename_i h1; cases h; simp only [step, hl, hu, hm, pub_val hy, hxs, Option.bind_some, if_pos h1]
  ·simp [Rd.run_no] at h
 case mkSlice ed T lim l c =>
  rw [Rd.run_bind, int_run] at h
  obtain ⟨m, hm, h⟩ := Option.bind_eq_some_iff.1 h
  rw [Rd.run_bind, int_run] at h
  obtain ⟨n, hn, h⟩ := Option.bind_eq_some_iff.1 h
  first | rw [Rd.run_ite] at h | rw [Rd.run_if] at h
  split at h
  ·rename_i h1
   first | rw [Rd.run_ite] at h | rw [Rd.run_if] at h
   split at h
   ·rename_i h2; cases h
    obtain ⟨m1, m2⟩ := m
    obtain ⟨n1, n2⟩ := n
    simp only at h1 h2
    obtain ⟨rfl, rfl⟩ := h1
    simp only [step, intOf_some hm, intOf_some hn, if_pos h2]
   ·simp [Rd.run_no] at h
  ·simp [Rd.run_no] at h
 case lenS x =>
  rw [Rd.run_bind, str_run] at h
  obtain ⟨s, hs, h⟩ := Option.bind_eq_some_iff.1 h
  cases h
  simp only [step, hs, Option.bind_some]
 case lenL x =>
  rw [Rd.run_bind, ent_run] at h
  have h := notDead_bind h
  rw [Rd.run_bind, imm_run] at h
  obtain ⟨s, hs, h⟩ := Option.bind_eq_some_iff.1 h
  simp only [step, hs, Option.bind_some]
  split at h
  ·cases h; rfl
  ·simp [Rd.run_no] at h
 case lenA m => cases h; rfl
 case mm mx x y =>
  rw [Rd.run_bind, int_run] at h
  obtain ⟨m, hm, h⟩ := Option.bind_eq_some_iff.1 h
  rw [Rd.run_bind, int_run] at h
  obtain ⟨n, hn, h⟩ := Option.bind_eq_some_iff.1 h
  first | rw [Rd.run_ite] at h | rw [Rd.run_if] at h
  split at h
  ·rename_i h1
   cases h
   simp only [step, intOf_some hm, intOf_some hn, if_pos h1]
  ·simp [Rd.run_no] at h
 case call f args =>
  rw [Rd.run_bind, argList_run] at h
  obtain ⟨es, hes, h⟩ := Option.bind_eq_some_iff.1 h
  rw [Rd.run_bind, Rd.run_call] at h
  obtain ⟨res, hres, h⟩ := Option.bind_eq_some_iff.1 h
  obtain ⟨rfl, h2⟩ := res_run h
  simp only [step, Cal.eqn, hes, hres, Option.bind_some, h2]
 case callv x args =>
  rw [Rd.run_bind, ent_run] at h
  have h := notDead_bind h
  split at h
  ·rename_i A C g' he
   rw [Rd.run_bind, argList_run] at h
   obtain ⟨es, hes, h⟩ := Option.bind_eq_some_iff.1 h
   rw [Rd.run_bind, Rd.run_of] at h
   obtain ⟨a, ha, h⟩ := Option.bind_eq_some_iff.1 h
   rw [Rd.run_bind, Rd.run_of] at h
   obtain ⟨r, hr, h⟩ := Option.bind_eq_some_iff.1 h
   first | rw [Rd.run_ite] at h | rw [Rd.run_if] at h
   split at h
   ·rename_i h1; cases h; simp only [step, he, hes, ha, hr, Option.bind_some, if_pos h1]
   ·simp [Rd.run_no] at h
  ·rename_i f A C caps he
   rw [Rd.run_bind, argList_run] at h
   obtain ⟨es, hes, h⟩ := Option.bind_eq_some_iff.1 h
   rw [Rd.run_bind, args_run] at h
   obtain ⟨cs, hcs, h⟩ := Option.bind_eq_some_iff.1 h
   rw [Rd.run_bind, Rd.run_call] at h
   obtain ⟨res, hres, h⟩ := Option.bind_eq_some_iff.1 h
   first | rw [Rd.run_ite] at h | rw [Rd.run_if] at h
   split at h
   ·rename_i h1; cases h; simp only [step, Cal.eqn, he, hes, hcs, hres, Option.bind_some, if_pos h1]
   ·simp [Rd.run_no] at h
  ·simp [Rd.run_no] at h
 case extract k j =>
  rw [Rd.run_bind, Rd.run_get] at h
  have h := notDead_bind h
  rw [Rd.run_of] at h
  unfold extE at h
  split at h
  ·rename_i es hk
   split at h
   ·rename_i T x hj; cases h; simp only [step, hk, hj]
   ·rename_i ed T o xs hj
    split at h
    ·rename_i ho; cases h; simp only [step, hk, hj, ho]; rfl
    ·simp at h
   ·simp at h
  ·simp at h
 case mkfn f A C caps =>
  rw [Rd.run_bind] at h
  obtain ⟨cs, hcs, h⟩ := Option.bind_eq_some_iff.1 h
  cases h
  obtain ⟨h1, rfl⟩ := caps_run _ _ hcs
  simp only [step, if_pos h1]
 all_goals simp [Rd.run_no] at h
end
end
end Go.Fw
/- Soundness: ranging over a text. -/
namespace Go.Fw
open Go Go.RowKit
theorem u8_lt (b : UInt8) : b.toNat < 256 := b.toNat_lt
theorem decode_lt (s : ByteArray) (i : Nat) : (Utf8.decode s i).1 < 2097152 := by
 have h0 := u8_lt (s.get! (i + 0)); have h1 := u8_lt (s.get! (i + 1)); have h2 := u8_lt (s.get! (i + 2)); have h3 := u8_lt (s.get! (i + 3))
 unfold Utf8.decode
 simp only [Utf8.runeError]
 repeat' split
 all_goals (simp only; omega)
section
variable {P : Program} {B : Nat} {G0 : Nat → Nat → Prop} {W0 : World} {n : Nat} {env : Env} {a : Act} {w : World} {ob : Nat → OB} {tm : Array Value}
variable {R : Type} {K : Kont R} {r : R} {next : Act → World → Prop} {Q : Exit → Act → World → Prop} {o : Oper} {i : AI} {cl : Cal}
theorem run_next_some {b pos : Nat} {s : ByteArray} {ty : TypeId} (h : w.heap[b]? = some (.stringIter s pos)) (hp : pos < s.size) :
  (Instr.next (.pointer (some ⟨b, 0, none⟩)) true ty).run P w = .ok (.tuple #[.bool true, .int .i64 (pos : Int), .int .i32 ((Utf8.decode s pos).1 : Int)]) { w with heap := w.heap.setIfInBounds b (.stringIter s (pos + (Utf8.decode s pos).2)) } := by
 simp [Instr.next, getObj, setObj, Sem.run, h, hp, goInt]
theorem run_next_over {b pos : Nat} {s : ByteArray} {ty : TypeId} (h : w.heap[b]? = some (.stringIter s pos)) (hp : ¬ pos < s.size) :
  (Instr.next (.pointer (some ⟨b, 0, none⟩)) true ty).run P w = .ok (.tuple #[.bool false]) w := by
 simp [Instr.next, getObj, Sem.run, h, hp]
theorem st_rng {t : TypeId} {x : Operand} {y : Od} (hC : Conc P B G0 W0 n env a.tmps w ob) (hK : KOk P B G0 W0 n a K r next) (hd : ∀ k, o.dst = some k → k < n) (hdst : i.dst = o.dst)
  (ho : o.op = .range t x) (hi : i.op = .rng y) (ht : TyR P t .str) (hx : okOd x y = true) (h : step cl i env K = some r) : o.wp P a w next Q := by
 unfold step at h; rw [hi] at h; simp only [hdst, Option.bind_eq_some_iff] at h
 obtain ⟨s, hs, h⟩ := h
 obtain ⟨hv, hl⟩ := str_rep hC hx hs
 have hg : Grows w (w.alloc (.stringIter ⟨⟨s⟩⟩ 0)) := Grows.alloc w _
 refine wp_value (v := .pointer (some ⟨w.heap.size, 0, none⟩)) (w' := w.alloc (.stringIter ⟨⟨s⟩⟩ 0)) ?_ ?_
 ·simp [execOp, ho, hv, Instr.range, run_underlying ht.str]
 ·cases hod : o.dst with
  | none => rw [hod] at h; exact fin0 (d := none) (e := .dead) hC hK (fun k hk => by cases hk) hg (v := undef) rfl h
  | some k =>
    rw [hod] at h
    have h2 := Conc.putG (e := .it s 0) (v := .pointer (some ⟨w.heap.size, 0, none⟩)) (bk := [(w.heap.size, 0)]) hC (hd k hod) hg ?_ (by simp) (by simp)
    ·exact hK _ _ _ _ h2 h
    ·rw [if_neg (by simp [leads])]
     exact ⟨w.heap.size, rfl, hC.base, heap_alloc_new w _, hl, rfl⟩
theorem Conc.goOn (hC : Conc P B G0 W0 n env tm w ob) {k b : Nat} {s : List UInt8} {pos pos' : Nat} (hk : look env k = .it s pos) (hb : tm.getD k undef = .pointer (some ⟨b, 0, none⟩)) :
  Conc P B G0 W0 n ((k, .it s pos') :: env) tm { w with heap := w.heap.setIfInBounds b (.stringIter ⟨⟨s⟩⟩ pos') } ob := by
 have hr := hC.rep k
 rw [hk] at hr
 obtain ⟨b', h1, h2, h3, h4, h5⟩ := hr
 rw [hb] at h1
 simp only [Value.pointer.injEq, Option.some.injEq, Addr.mk.injEq, and_true] at h1
 subst h1
 have hlow := hC.low k b (by rw [h5]; simp)
 have other : ∀ g, g ≠ b → (w.heap.setIfInBounds b (.stringIter ⟨⟨s⟩⟩ pos'))[g]? = w.heap[g]? := fun g hg => by
  rw [Array.getElem?_setIfInBounds_ne (Ne.symm hg)]
 have ncell : ∀ (b' i : Nat), b' ≠ b → ({ w with heap := w.heap.setIfInBounds b (.stringIter ⟨⟨s⟩⟩ pos') } : World).cell? ⟨b', i, none⟩ = w.cell? ⟨b', i, none⟩ := fun b' i hne => World.cell?_of_block (w := w) (other b' hne)
 refine Conc.step hC ⟨rfl, rfl, rfl, by simp, fun g hg => other g (by omega)⟩ (fun b' i _ h => ⟨h, ncell b' i ?_⟩) (fun j => ?_) hC.dist hC.nodup (fun j b' hb' => by have := hC.low j b' hb'; simpa using this) hC.size
 ·rintro rfl
  rcases h with ⟨h, _⟩ | ⟨_, h⟩
  ·exact absurd h (by omega)
  ·exact absurd (h k 0 (by rw [h5]; simp)) (by omega)
 ·by_cases hj : j = k
  ·subst hj; right
   rw [look_cons, if_pos rfl]
   exact ⟨b, hb, h2, by rw [Array.getElem?_setIfInBounds_self_of_lt (by omega)], h4, h5⟩
  ·left
   rw [look_cons, if_neg (Ne.symm hj)]
   refine ⟨rfl, rfl, rfl, fun g hg => other g ?_, fun t ht => ?_⟩
   ·rintro rfl; exact hj (hC.dist j k _ hg (by rw [h5]; simp))
   ·by_cases htk : t = k
    ·subst htk
     have := (ERep.leads ht (hC.rep j)).1
     rw [hk] at this; simp [E.home] at this
    ·refine HomeEq.same (P := P) (by rw [look_cons, if_neg (Ne.symm htk)]) rfl (hC.rep t) (fun g hg => other g ?_)
     rintro rfl; exact htk (hC.dist t k _ hg (by rw [h5]; simp))
theorem st_nxt {k : Nat} (hC : Conc P B G0 W0 n env a.tmps w ob) (hK : KOk P B G0 W0 n a K r next) (hd : ∀ k, o.dst = some k → k < n) (hdst : i.dst = o.dst)
  (ho : o.op = .next (.tmp k) true) (hi : i.op = .nxt k) (h : step cl i env K = some r) : o.wp P a w next Q := by
 unfold step at h; rw [hi] at h; simp only [hdst] at h
 have hr := hC.rep k
 split at h
 ·rename_i s pos he
  rw [he] at hr
  obtain ⟨b, h1, h2, h3, h4, h5⟩ := hr
  have hev : a.eval (.tmp k) = .pointer (some ⟨b, 0, none⟩) := h1
  have hsz : (⟨⟨s⟩⟩ : ByteArray).size = s.length := rfl
  by_cases hp : pos < s.length
  ·rw [show decide (pos < s.length) = true by simpa using hp] at h
   simp only [brB] at h
   have hrun := run_next_some (P := P) (ty := o.type) h3 (by rw [hsz]; exact hp)
   refine wp_value (v := .tuple #[.bool true, .int .i64 (pos : Int), .int .i32 ((Utf8.decode ⟨⟨s⟩⟩ pos).1 : Int)]) (w' := { w with heap := w.heap.setIfInBounds b (.stringIter ⟨⟨s⟩⟩ (pos + (Utf8.decode ⟨⟨s⟩⟩ pos).2)) }) ?_ ?_
   ·simp [execOp, ho, hev, hrun]
   ·have hC1 := Conc.goOn (pos' := pos + (Utf8.decode ⟨⟨s⟩⟩ pos).2) hC he h1
    have hdl := decode_lt ⟨⟨s⟩⟩ pos
    refine fin0 (e := .tup [.v .bool true, .v (.int .i64) (pos : Int), .v (.int .i32) ((Utf8.decode ⟨⟨s⟩⟩ pos).1 : Int)]) hC1 hK hd (Grows.refl _) ⟨by simp [leads], _, rfl, ?_⟩ h
    refine ⟨.bool true, [.int .i64 (pos : Int), .int .i32 ((Utf8.decode ⟨⟨s⟩⟩ pos).1 : Int)], [], [], rfl, rfl, ⟨rfl, [.bool true], by unfold Flat; exact ⟨rfl, rfl⟩, rfl⟩, .int .i64 (pos : Int), [.int .i32 ((Utf8.decode ⟨⟨s⟩⟩ pos).1 : Int)], [], [], rfl, rfl, ⟨rfl, [.int .i64 (pos : Int)], ?_, rfl⟩, .int .i32 ((Utf8.decode ⟨⟨s⟩⟩ pos).1 : Int), [], [], [], rfl, rfl, ⟨rfl, [.int .i32 ((Utf8.decode ⟨⟨s⟩⟩ pos).1 : Int)], ?_, rfl⟩, rfl, rfl⟩
    ·unfold Flat
     refine ⟨rfl, ?_, rfl⟩
     have : (maxLen : Int) ≤ 9223372036854775807 := by decide
     constructor
     ·show (-9223372036854775808 : Int) ≤ _; omega
     ·show _ ≤ (9223372036854775807 : Int); omega
    ·unfold Flat
     refine ⟨rfl, ?_, rfl⟩
     constructor
     ·show (-2147483648 : Int) ≤ _; omega
     ·show _ ≤ (2147483647 : Int); omega
  ·rw [show decide (pos < s.length) = false by simpa using hp] at h
   simp only [brB] at h
   have hrun := run_next_over (P := P) (ty := o.type) h3 (by rw [hsz]; exact hp)
   refine wp_value (v := .tuple #[.bool false]) (w' := w) (by simp [execOp, ho, hev, hrun]) ?_
   exact fin0 (e := .tup [.v .bool false]) hC hK hd (Grows.refl _) ⟨by simp [leads], #[.bool false], rfl, .bool false, [], [], [], rfl, rfl, ⟨rfl, [.bool false], by unfold Flat; exact ⟨rfl, rfl⟩, rfl⟩, rfl, rfl⟩ h
 ·simp at h
theorem st_nilck {x : Operand} {y : Od} (hC : Conc P B G0 W0 n env a.tmps w ob) (hK : KOk P B G0 W0 n a K r next) (hd : ∀ k, o.dst = some k → k < n) (hdst : i.dst = o.dst)
  (ho : o.op = .nilCheck x) (hi : i.op = .nilck y) (hx : okOd x y = true) (h : step cl i env K = some r) : o.wp P a w next Q := by
 unfold step at h; rw [hi] at h; simp only [hdst] at h
 have hr := ent_rep hC hx
 have fin : (∃ p, a.eval x = .pointer (some p)) → K (putO env o.dst (copyE y (ent env y))) = some r → o.wp P a w next Q := by
  rintro ⟨p, hp⟩ h
  exact wp_value (v := a.eval x) (by simp [execOp, ho, hp]) (fin_copy hC hK hx hd h)
 split at h
 ·rename_i s p he
  rw [he] at hr
  obtain ⟨_, T, oo, z, b, _, _, _, h4⟩ := hr
  exact fin ⟨_, h4⟩ h
 ·rename_i s p j q he
  rw [he] at hr
  obtain ⟨_, hh, g, m, c, _, _, _, _, h4⟩ := hr
  exact fin ⟨_, h4⟩ h
 ·rename_i T z he
  rw [he] at hr
  obtain ⟨_, b, off, vs, h4, _⟩ := hr
  exact fin ⟨_, h4⟩ h
 ·rename_i T oo z he
  rw [he] at hr
  obtain ⟨b, cur, e, ob', h4, _⟩ := hr
  exact fin ⟨_, h4⟩ h
 ·simp at h
theorem elems_ints {P : Program} {w : World} {G : Nat → Nat → Prop} {B : Nat} {k : IntKind} : ∀ {xs : List Int} {cells : List Value} {ob : OB}, Elems (Flat P (.int k) w G B .no) xs cells ob → cells = xs.map (Value.int k)
 | [], _, _, h => h.1
 | x :: xs, _, _, ⟨v1, v2, b1, b2, e1, _, h1, h2⟩ => by
   unfold Flat at h1
   rw [e1, h1.1, elems_ints h2]; rfl
theorem ints_elems {P : Program} {w : World} {G : Nat → Nat → Prop} {B : Nat} {k : IntKind} : ∀ {xs : List Int}, (∀ x ∈ xs, inR k x) → Elems (Flat P (.int k) w G B .no) xs (xs.map (Value.int k)) []
 | [], _ => ⟨rfl, rfl⟩
 | x :: xs, h => ⟨[.int k x], xs.map (Value.int k), [], [], rfl, rfl, by unfold Flat; exact ⟨rfl, h x (by simp), rfl⟩, ints_elems (fun y hy => h y (by simp [hy]))⟩
theorem st_toStr {src dst e : TypeId} {x : Operand} {y : Od} (hC : Conc P B G0 W0 n env a.tmps w ob) (hK : KOk P B G0 W0 n a K r next) (hd : ∀ k, o.dst = some k → k < n) (hdst : i.dst = o.dst)
  (ho : o.op = .convert src dst x) (hi : i.op = .toStr y) (hs : P.underlying src = some (.slice e)) (he : P.underlying e = some (.int .u8)) (ht : P.underlying dst = some .string) (hx : okOd x y = true) (h : step cl i env K = some r) : o.wp P a w next Q := by
 unfold step at h; rw [hi] at h; simp only [hdst, Option.bind_eq_some_iff] at h
 obtain ⟨z, hz, xs, hxs, h⟩ := h
 have := cast?_some hxs; subst this
 obtain ⟨vs, e1, f1⟩ := imm_rep hC hx hz
 unfold Flat at f1
 obtain ⟨_, A, c, rfl, hle, hmx, hcells⟩ := f1
 have ev : a.eval x = .slice A xs.length c := e1
 have hrun : (convert src dst (.slice A xs.length c)).run P w = .ok (.string ⟨⟨xs.map fun n => UInt8.ofNat n.toNat⟩⟩) w := by
  have key : ∀ b off, A = some ⟨b, off, none⟩ → (∀ j, j < xs.length → w.cell? ⟨b, off + j, none⟩ = some (.int .u8 (xs.getD j 0))) → (convert src dst (.slice A xs.length c)).run P w = .ok (.string ⟨⟨xs.map fun n => UInt8.ofNat n.toNat⟩⟩) w := by
   rintro b off rfl hc
   rw [run_convert_bytes_arg w src e hs he b off xs.length c xs rfl hc dst ht]
   rfl
  rcases hcells with h0 | ⟨b, off, cells, hA, hel, hc⟩
  ·subst h0
   cases A with
   | none => exact run_convert_bytes_nil w src e hs he _ _ dst ht
   | some p =>
     have e0 := run_bytesToString (P := P) w p 0 c [] (run_loadCells_list (P := P) w p [] (fun j v hj => by simp at hj))
     rw [run_convert_bytes_string w src dst e _ _ _ hs he ht]
     exact e0
  ·refine key b off hA (fun j hj => ?_)
   have e2 := elems_ints hel
   subst e2
   refine (hc j (.int .u8 (xs.getD j 0)) ?_).1
   simp [List.getD, List.getElem?_eq_getElem hj]
 refine wp_value (v := .string ⟨⟨xs.map fun n => UInt8.ofNat n.toNat⟩⟩) (w' := w) ?_ (fin0 (e := .v .str (xs.map fun n => UInt8.ofNat n.toNat)) hC hK hd (Grows.refl w) ⟨rfl, [.string ⟨⟨xs.map fun n => UInt8.ofNat n.toNat⟩⟩], by unfold Flat; exact ⟨rfl, by rw [List.length_map]; exact Nat.le_trans hle hmx, rfl⟩, rfl⟩ h)
 simp [execOp, ho, ev, hrun]
theorem st_toSl {src dst e : TypeId} {x : Operand} {y : Od} (hC : Conc P B G0 W0 n env a.tmps w ob) (hK : KOk P B G0 W0 n a K r next) (hd : ∀ k, o.dst = some k → k < n) (hdst : i.dst = o.dst)
  (ho : o.op = .convert src dst x) (hi : i.op = .toSl y) (hs : P.underlying src = some .string) (ht : P.underlying dst = some (.slice e)) (he : P.underlying e = some (.int .u8)) (hx : okOd x y = true) (h : step cl i env K = some r) : o.wp P a w next Q := by
 unfold step at h; rw [hi] at h; simp only [hdst, Option.bind_eq_some_iff] at h
 obtain ⟨s, hss, h⟩ := h
 obtain ⟨hv, hl⟩ := str_rep hC hx hss
 have hrun := run_bytes_of_string w src dst e ⟨⟨s⟩⟩ hs ht he
 have hsz : (⟨⟨s⟩⟩ : ByteArray).size = s.length := rfl
 rw [hsz] at hrun
 generalize hcap : grownCap w s.length 0 e = cap at hrun
 have hge : s.length ≤ cap := by rw [← hcap]; exact grownCap_ge w _ _ _
 have hcm : cap ≤ maxLen := by rw [← hcap]; exact grownCap_le_maxLen w _ _ _ hl
 generalize hfz : ((bytesRow ⟨⟨s⟩⟩ cap).size, (bytesRow ⟨⟨s⟩⟩ cap).size + 1) = fz at hrun
 have hg : Grows w (w.drew.alloc (.cells (bytesRow ⟨⟨s⟩⟩ cap) e fz)) := (Grows.drew w).trans (Grows.alloc w.drew _)
 refine wp_value (v := .slice (some ⟨w.heap.size, 0, none⟩) s.length cap) (w' := w.drew.alloc (.cells (bytesRow ⟨⟨s⟩⟩ cap) e fz)) (by simp [execOp, ho, hv, hrun]) ?_
 cases hod : o.dst with
 | none => rw [hod] at h; exact fin0 (d := none) (e := .dead) hC hK (fun k hk => by cases hk) hg (v := undef) rfl h
 | some k =>
   rw [hod] at h
   have hxl : (s.map fun b => (b.toNat : Int)).length = s.length := by simp
   have hrow : cap - s.length + s.length = cap := by omega
   have hbs : (bytesRow ⟨⟨s⟩⟩ cap).size = cap := by
    unfold bytesRow
    simp only [Array.size_append, Array.size_map, Array.size_replicate, List.size_toArray, hsz]
    omega
   have h2 := Conc.putG (e := .own true BUF (.int .u8) .no (s.map fun b => (b.toNat : Int))) (v := .slice (some ⟨w.heap.size, 0, none⟩) s.length cap) (bk := [(w.heap.size, 0)]) hC (hd k hod) hg ?_ (by simp) (by simp)
   ·exact hK _ _ _ _ h2 h
   ·rw [if_neg (by simp [leads])]
    show Flat P (.sl (.int .u8)) _ _ B (.own true BUF .no) (s.map fun b => (b.toNat : Int)) [_] _
    unfold Flat
    refine ⟨_, (s.map fun b => (b.toNat : Int)).map (Value.int .u8), [], rfl, ⟨by simp [cellsN], .inr ⟨w.heap.size, cap, bytesRow ⟨⟨s⟩⟩ cap, e, fz, by rw [hxl], hC.base, heap_alloc_new w.drew _, by rw [hxl]; exact hge, hcm, by rw [hbs]; simp [cellsN], ?_, fun h => absurd rfl h, .inr (by rw [← hfz]; exact Nat.le_refl _)⟩⟩, ints_elems (fun y hy => ?_), by simp [obOf, Value.ownBlock]⟩
    ·simp only [cellsN, Nat.mul_one, hxl]
     unfold bytesRow
     simp only [Array.toList_append, Array.toList_map]
     rw [List.take_left' (by simp)]
     simp [List.map_map, Function.comp_def]
    ·obtain ⟨b, _, rfl⟩ := List.mem_map.1 hy
     have := u8_lt b
     constructor
     ·show (0 : Int) ≤ _; omega
     ·show _ ≤ (255 : Int); omega
end
end Go.Fw
/- Soundness: copies that are shared; calls that write a list anew. -/
namespace Go.Fw
open Go Go.RowKit
section
variable {P : Program} {B : Nat} {G0 : Nat → Nat → Prop} {W0 : World} {n : Nat} {env : Env} {tm : Array Value} {a : Act} {w : World} {ob : Nat → OB} {cl : Cal}
variable {R : Type} {K : Kont R} {r : R} {next : Act → World → Prop} {Q : Exit → Act → World → Prop} {o : Oper} {i : AI}
theorem st_cp {x : Operand} {y : Od} (hC : Conc P B G0 W0 n env a.tmps w ob) (hK : KOk P B G0 W0 n a K r next) (hd : ∀ k, o.dst = some k → k < n) (hdst : i.dst = o.dst)
  (ho : o.op = .move x ∨ o.op = .assign x) (hi : i.op = .cp y) (hx : okOd x y = true) (h : step cl i env K = some r) : o.wp P a w next Q := by
 unfold step at h; rw [hi] at h; simp only [hdst, Option.bind_eq_some_iff] at h
 obtain ⟨⟨env', z⟩, hz, h⟩ := h
 obtain ⟨ob', hf, hC', vs, hv, hF⟩ := pub_rep hC hx hz
 refine wp_value (w' := w) (v := a.eval x) ?_ (fin0 (e := .v z.1 z.2) hC' hK hd (Grows.refl w) ⟨rfl, vs, hF, hv⟩ h)
 rcases ho with ho | ho <;> simp [execOp, ho]
theorem Conc.grow (hC : Conc P B G0 W0 n env tm w ob) {w' : World} (hg : Grows w w') {env' : Env} (he : ∀ k, look env' k = look env k) : Conc P B G0 W0 n env' tm w' ob := by
 refine Conc.step hC (hg.below hC.base) (fun b i hb h => ⟨h, hg.cell hb⟩) (fun k => .inl ⟨he k, rfl, rfl, fun g hg' => hg.block g (hC.low k g hg').2, fun s hs => ?_⟩) hC.dist hC.nodup (fun k b hb => ⟨(hC.low k b hb).1, Nat.lt_of_lt_of_le (hC.low k b hb).2 hg.size⟩) hC.size
 exact HomeEq.same (P := P) (he s) rfl (hC.rep s) (fun g hg' => hg.block g (hC.low s g hg').2)
theorem own_row (hC : Conc P B G0 W0 n env tm w ob) {s : Nat} {e : TypeId} {T : Ty} {xs : List (den T)} (hs : look env s = .own true e T .no xs) :
  ∃ cells, rowX w B e (cellsN T) (tm.getD s undef) xs.length cells ∧ Elems (Flat P T w (Gd B G0 ob) B .no) xs cells [] ∧ ob s = obOf (tm.getD s undef) 0 := by
 have hr := hC.rep s
 rw [hs] at hr
 change Flat P (.sl T) w (Gd B G0 ob) B (.own true e .no) xs [tm.getD s undef] (ob s) at hr
 unfold Flat at hr
 obtain ⟨v', cells, ob', e1, hrow, hel, hob⟩ := hr
 simp only [List.cons.injEq, and_true] at e1
 subst e1
 obtain ⟨hobn, hel0⟩ := Elems.pure P (o' := .no) rfl rfl hel
 subst hobn
 exact ⟨cells, hrow, hel0, by rw [hob]; simp⟩
theorem Conc.rewr (hC : Conc P B G0 W0 n env tm w ob) {s : Nat} {e : TypeId} {T : Ty} {xs ys : List (den T)} (hs : look env s = .own true e T .no xs) (hlen : ys.length = xs.length) {w' : World} {cells cells' : List Value}
  (hrow : rowX w B e (cellsN T) (tm.getD s undef) xs.length cells) (hob : ob s = obOf (tm.getD s undef) 0) (hl : cells'.length = cells.length) (hel : ∀ (w : World) (G : Nat → Nat → Prop), Elems (Flat P T w G B .no) ys cells' [])
  (hw : Rewr w w' (tm.getD s undef) (xs.length * cellsN T) cells') : Conc P B G0 W0 n ((s, .own true e T .no ys) :: env) tm w' ob := by
 rcases hw with ⟨h1, hg, _⟩ | ⟨g, cur, e1, fz, cs, w1, hv, hg, hgr, rfl, hsz, htk⟩
 ·have hx0 : xs.length = 0 := by
   rcases hrow.2 with ⟨_, h⟩ | ⟨g, cap, cur, e', fz, hv, _⟩
   ·exact h
   ·rw [hv] at h1; simp [Value.ownBlock] at h1
  have hx : xs = [] := List.length_eq_zero_iff.1 hx0
  have hy : ys = [] := List.length_eq_zero_iff.1 (by omega)
  subst hx; subst hy
  refine Conc.grow hC hg fun k => ?_
  rw [look_cons]
  split
  ·rename_i h; subst h; exact hs.symm
  ·rfl
 ·have hg0 : (g, 0) ∈ ob s := by rw [hob]; exact mem_obOf hv
  have hlt : g < w.heap.size := (hC.low s g (mem_blocks.2 ⟨_, hg0⟩)).2
  have hC1 : Conc P B G0 W0 n env tm w1 ob := Conc.grow hC hgr fun _ => rfl
  refine Conc.touch hC1 hg0 cs ⟨fun q v hq hv => ?_, fun q h hq => ?_, fun T o x hx => ?_⟩ ?_
  ·simp only [headAt, hs] at hv
   simp only [headAt]; rw [look_cons, if_pos rfl]; exact hv
  ·simp only [heldAt, hs] at hq
   simp only [heldAt]; rw [look_cons, if_pos rfl]
   cases q with
   | nil => simp only [Option.some.injEq] at hq; subst hq; exact ⟨_, rfl, rfl, hlen⟩
   | cons => exact absurd hq (by simp)
  ·rw [hs] at hx; exact absurd hx (by simp)
  ·show Flat P (.sl T) _ (Gd B G0 ob) B (.own true e .no) ys [tm.getD s undef] (ob s)
   unfold Flat
   refine ⟨_, cells', [], rfl, ⟨by rw [hl, hrow.1, hlen], ?_⟩, hel _ _, by rw [hob]; simp⟩
   rcases hrow.2 with ⟨h, _⟩ | ⟨g', cap, cur', e', fz', hv', hBg, hg', hnc, hcm, hcs, htake, hbf, hfz⟩
   ·rw [h] at hv; simp [Value.ownBlock] at hv
   ·rw [hv'] at hv
    simp [Value.ownBlock] at hv
    subst hv
    rw [hg] at hg'
    cases hg'
    have hg1 : w1.heap[g']? = some (.cells cur e1 fz) := by rw [hgr.block g' hlt]; exact hg
    refine .inr ⟨g', cap, cs, e1, fz, by rw [hlen]; exact hv', hBg, setRow_heap w1 g' cur _ e1 fz hg1, by rw [hlen]; exact hnc, hcm, by rw [hsz]; exact hcs, by rw [hlen]; exact htk, hbf, ?_⟩
    rcases hfz with h | h
    ·exact .inl h
    ·right; rw [hsz]; exact h
theorem ownS_rep {x : Operand} {y : Od} (hC : Conc P B G0 W0 n env a.tmps w ob) (hx : okOd x y = true) {s : Nat} (hy : ownS env y = some s) {e : TypeId} {T : Ty} {o : Ann} {xs : List (den T)} {wr : Bool} (hs : look env s = .own wr e T o xs) : a.eval x = a.tmps.getD s undef := by
 cases y with
 | t k =>
   simp only [ownS] at hy
   rw [okOd_t hx a]
   split at hy
   ·cases hy; rfl
   ·rename_i s' hk
    cases hy
    have hr := hC.rep k
    rw [hk] at hr
    obtain ⟨_, h1, _⟩ := hr
    simp only [headAt, hs, Option.some.injEq] at h1
    exact h1.symm
   ·cases hy
 | c => simp [ownS] at hy
 | nil => simp [ownS] at hy
 | fn => simp [ownS] at hy
theorem Elems.scal {T : Ty} (hs : scalarT T = true) {G : Nat → Nat → Prop} (B2 : Nat) (w2 : World) (G2 : Nat → Nat → Prop) {xs : List (den T)} {vs : List Value} (h : Elems (Flat P T w G B .no) xs vs []) : Elems (Flat P T w2 G2 B2 .no) xs vs [] :=
 Elems.imp (fun x v b hb hx => by
  have : b = [] := by cases b with | nil => rfl | cons q r => exact absurd (hb q (by simp)) (by simp)
  subst this
  exact (Flat.scal P T hs hx).2 _ _ _ _) h
theorem st_wrl {f : FuncId} {us : Array Operand} {ats : Array TypeId} {x : Operand} {y : Od} (hgood : Good P cl) (hC : Conc P B G0 W0 n env a.tmps w ob) (hK : KOk P B G0 W0 n a K r next) (hd : ∀ k, o.dst = some k → k < n) (hdst : i.dst = o.dst)
  (ho : o.op = .call { callee := .value (.func f), args := us, argTypes := ats }) (hi : i.op = .wrl f y) (hus : us.toList = [x]) (hx : okOd x y = true) (h : step cl i env K = some r) : o.wp P a w next Q := by
 unfold step at h; rw [hi] at h; simp only [hdst, Cal.eqn, Option.bind_eq_some_iff] at h
 obtain ⟨s, hs, h⟩ := h
 split at h
 case h_2 => simp at h
 rename_i e T xs hl
 split at h
 case isFalse => simp at h
 rename_i hb
 simp only [Bool.and_eq_true, Bool.not_eq_true', beq_eq_false_iff_ne] at hb
 simp only [Option.bind_eq_some_iff] at h
 obtain ⟨res, hres, z, hz, ys', hys, h⟩ := h
 obtain ⟨ys, rfl, hlen, hcal, hw⟩ := hgood.wr f e T xs res hres hb.1
 simp only [ownL?, Option.some.injEq] at hz
 subst hz
 have := cast?_some hys
 cases this
 obtain ⟨cells, hrow, hel, hob⟩ := own_row hC hl
 have hev := ownS_rep hC hx hs hl
 have hcall := hw w B (Gd B G0 ob) _ cells hb.2 hrow hel
 have hrun : (execOp a.eval o).run P w = .ok (.enter f (us.map a.eval)) w := by
  have := run_callFunc hcal (us.map a.eval) w
  simp [execOp, ho, resolve, Deferred.ofValue, invoke, Act.eval, this]
 have e2 : us.map a.eval = #[a.tmps.getD s undef] := by apply Array.toList_inj.1; simp [hus, hev]
 rw [e2] at hrun
 refine wp_enter hrun (Calls.mono hcall ?_)
 rintro en w' ⟨rfl, cells', hcl, hel', hrw⟩
 have hC' := Conc.rewr hC hl hlen hrow hob hcl (fun w2 G2 => Elems.scal hb.1 B w2 G2 hel') hrw
 exact ⟨_, rfl, fin0 (e := .tup []) hC' hK hd (Grows.refl w') ⟨by simp, #[], rfl, rfl, rfl⟩ h⟩
end
end Go.Fw
/- Soundness: slices that are made. -/
namespace Go.Fw
open Go Go.RowKit
theorem repM_get (zs : List Value) : ∀ (l j : Nat), (repM l zs)[j]? = if j < l * zs.length then zs[j % zs.length]? else none
 | 0, j => by simp [repM]
 | l + 1, j => by
   simp only [repM]
   by_cases hj : j < zs.length
   ·rw [List.getElem?_append_left hj, if_pos (by rw [Nat.succ_mul]; omega), Nat.mod_eq_of_lt hj]
   ·rw [List.getElem?_append_right (by omega), repM_get zs l]
    have hm : (j - zs.length) % zs.length = j % zs.length := by
     conv => rhs; rw [← Nat.sub_add_cancel (Nat.le_of_not_lt hj)]
     simp
    rw [hm]
    by_cases h2 : j < (l + 1) * zs.length
    ·rw [if_pos h2, if_pos (by rw [Nat.succ_mul] at h2; omega)]
    ·rw [if_neg h2, if_neg (by rw [Nat.succ_mul] at h2; omega)]
theorem made_take (zs : List Value) (l c : Nat) (h : l ≤ c) : (madeCells zs.toArray (c * zs.length)).toList.take (l * zs.length) = repM l zs := by
 have hle : l * zs.length ≤ c * zs.length := Nat.mul_le_mul_right _ h
 apply List.ext_getElem?
 intro j
 rw [repM_get]
 by_cases hj : j < l * zs.length
 ·rw [if_pos hj, List.getElem?_take_of_lt hj]
  have hc : j < c * zs.length := Nat.lt_of_lt_of_le hj hle
  have hz : 0 < zs.length := by
   rcases Nat.eq_zero_or_pos zs.length with h0 | h0
   ·rw [h0] at hj; simp at hj
   ·exact h0
  have hm : j % zs.length < zs.length := Nat.mod_lt _ hz
  simp only [madeCells, Array.toList_map, Array.toList_range, List.getElem?_map, List.getElem?_range hc, Option.map_some, List.size_toArray]
  rw [List.getElem?_eq_getElem hm]
  simp [hm]
 ·rw [if_neg hj, List.getElem?_take_eq_none (by omega)]
section
variable {P : Program} {B : Nat} {G0 : Nat → Nat → Prop} {W0 : World} {n : Nat} {env : Env} {a : Act} {w : World} {ob : Nat → OB}
variable {R : Type} {K : Kont R} {r : R} {next : Act → World → Prop} {Q : Exit → Act → World → Prop} {o : Oper} {i : AI} {cl : Cal}
theorem repM_elems {T : Ty} {x : den T} {zs : List Value} {G : Nat → Nat → Prop} (h : Flat P T w G B .no x zs []) : ∀ l, Elems (Flat P T w G B .no) (List.replicate l x) (repM l zs) []
 | 0 => ⟨rfl, rfl⟩
 | l + 1 => ⟨zs, repM l zs, [], [], rfl, rfl, h, repM_elems h l⟩
theorem mk_core {t e : TypeId} {T : Ty} {lim : Nat} {x y : Operand} {it : TypeInfo} {l c : Int} (hC : Conc P B G0 W0 n env a.tmps w ob) (hK : KOk P B G0 W0 n a K r next) (hd : ∀ k, o.dst = some k → k < n)
  (ho : o.op = .makeSlice t x y) (hu : P.underlying t = some (.slice e)) (hT : TyR P e T) (hz : ZeroOk P e T) (h1 : a.eval x = .int .i64 l) (h2 : a.eval y = .int .i64 c) (hinfo : P.info? e = some it)
  (hb : lim * it.bytes ≤ 140737488355328) (hm : lim ≤ maxLen) (hb2 : 0 ≤ l ∧ l ≤ c ∧ c ≤ (lim : Int)) (h : K (putO env o.dst (.own true e T .no (List.replicate l.toNat (zero T)))) = some r) : o.wp P a w next Q := by
 obtain ⟨it', z, zs, k1, k2, k3, k4⟩ := hz.ok
 rw [hinfo] at k1; cases k1
 obtain ⟨it2, g1, g2⟩ := hT.size
 rw [hinfo] at g1; cases g1
 have hzl := constV_len k3
 have hzc : z.cells = zs.toArray := by rw [k4]; exact cells_asVal hzl (constV_one k3)
 have hbm : (it.bytes : Int) * c ≤ 281474976710656 := by
  have e1 : c = (c.toNat : Int) := by omega
  have e2 : c.toNat ≤ lim := by omega
  have e3 : c.toNat * it.bytes ≤ 140737488355328 := Nat.le_trans (Nat.mul_le_mul_right _ e2) hb
  rw [e1, ← Int.natCast_mul, Nat.mul_comm]
  omega
 have hmx : c ≤ 9223372036854775807 := by
  have : (lim : Int) ≤ (maxLen : Int) := by omega
  simp [maxLen] at this; omega
 have hrun := run_make (P := P) w t e it z hu hinfo k2 .i64 .i64 l c hb2.1 hb2.2.1 hbm hmx
 refine wp_value (v := .slice (some ⟨w.heap.size, 0, none⟩) l.toNat c.toNat) (w' := w.alloc (.cells (madeCells z.cells (c.toNat * it.size)) e)) ?_ ?_
 ·simp only [execOp, ho, h1, h2, Sem.run_bind, hrun, Result.andThen_ok, Sem.run_pure]
 ·have hF : Flat P T w (Gd B G0 ob) B .no (zero T) zs [] := constV_flat P T w _ B .no (constV_flat.annOk_no T) k3
  have hlr : (List.replicate l.toNat (zero T)).length = l.toNat := List.length_replicate
  have := own_new (e := e) (T := T) (xs := List.replicate l.toNat (zero T)) (css := repM l.toNat zs) (cur := madeCells z.cells (c.toNat * it.size)) (cap := c.toNat) hC hK hd (repM_elems hF _) (by
   rw [hlr, hzc, g2, ← hzl]; exact made_take zs _ _ (by omega)) (by rw [size_madeCells, g2]) (by rw [hlr]; omega) (by omega) h
  rw [hlr] at this
  exact this
theorem st_mkSlice {t e : TypeId} {T : Ty} {lim : Nat} {x y : Operand} {x' y' : Od} {it : TypeInfo} (hC : Conc P B G0 W0 n env a.tmps w ob) (hK : KOk P B G0 W0 n a K r next) (hd : ∀ k, o.dst = some k → k < n) (hdst : i.dst = o.dst)
  (ho : o.op = .makeSlice t x y) (hi : i.op = .mkSlice e T lim x' y') (hu : P.underlying t = some (.slice e)) (hT : TyR P e T) (hz : ZeroOk P e T) (hx : okOd x x' = true) (hy : okOd y y' = true) (hinfo : P.info? e = some it)
  (hb : lim * it.bytes ≤ 140737488355328) (hm : lim ≤ maxLen) (h : step cl i env K = some r) : o.wp P a w next Q := by
 unfold step at h; rw [hi] at h; simp only [hdst] at h
 split at h
 case h_2 => simp at h
 rename_i l c hl hc
 split at h
 case isFalse => simp at h
 rename_i hb2
 exact mk_core hC hK hd ho hu hT hz (int_rep' hC hx hl).1 (int_rep' hC hy hc).1 hinfo hb hm hb2 h
end
end Go.Fw
/- Soundness, part 21: a region's operations, checked against the program's. -/
namespace Go.Fw
open Go Go.RowKit
def tyB (P : Program) (t : TypeId) (T : Ty) : Bool := tyOk P 64 t T
theorem tyB_ok {P : Program} {t : TypeId} {T : Ty} (h : tyB P t T = true) : TyR P t T := ⟨⟨64, h⟩⟩
def zeroB (P : Program) (t : TypeId) (T : Ty) : Bool :=
 match P.info? t with
 | some i => match i.zero with
   | some z => match constV T (zero T) with
     | some vs => eqV T vs z
     | none => false
   | none => false
 | none => false
theorem zeroB_ok {P : Program} {t : TypeId} {T : Ty} (h : zeroB P t T = true) : ZeroOk P t T := by
 unfold zeroB at h
 split at h
 ·rename_i i hi
  split at h
  ·rename_i z hz
   split at h
   ·rename_i vs hv
    exact ⟨⟨i, z, vs, hi, hz, hv, eqV_eq h⟩⟩
   ·simp at h
  ·simp at h
 ·simp at h
def slB (P : Program) (t e : TypeId) : Bool := match P.underlying t with | some (.slice e') => e' == e | _ => false
theorem slB_ok {P : Program} {t e : TypeId} (h : slB P t e = true) : P.underlying t = some (.slice e) := by
 unfold slB at h
 split at h
 ·rename_i e' he; rw [beq_iff_eq] at h; rw [he, h]
 ·simp at h
def elemOf (P : Program) (t : TypeId) : Option TypeId := match P.underlying t with | some (.slice e) => some e | _ => none
theorem elemOf_ok {P : Program} {t e : TypeId} (h : elemOf P t = some e) : P.underlying t = some (.slice e) := by
 unfold elemOf at h
 split at h
 ·rename_i e' he; cases h; exact he
 ·simp at h
def arrOf (P : Program) (t : TypeId) : Option (Nat × TypeId) := match P.underlying t with | some (.array m e) => some (m, e) | _ => none
theorem arrOf_ok {P : Program} {t : TypeId} {q : Nat × TypeId} (h : arrOf P t = some q) : P.underlying t = some (.array q.1 q.2) := by
 unfold arrOf at h
 split at h
 ·rename_i m e he; cases h; exact he
 ·simp at h
def flsOf (P : Program) (t : TypeId) : Option (Array Field) := match P.underlying t with | some (.struct fs) => some fs | _ => none
theorem flsOf_ok {P : Program} {t : TypeId} {fs : Array Field} (h : flsOf P t = some fs) : P.underlying t = some (.struct fs) := by
 unfold flsOf at h
 split at h
 ·rename_i m he; cases h; exact he
 ·simp at h
def okOp (P : Program) (o : Oper) (i : AI) : Bool :=
 match i.op with
 | .mv y => (match o.op with | .move x => okOd x y | _ => false)
 | .asg y => (match o.op with | .assign x => okOd x y | _ => false)
 | .pick c' x' y' => (match o.op with | .pick c x y => okOd c c' && okOd x x' && okOd y y' | _ => false)
 | .alloc T oa => (match o.op with | .alloc t => zeroB P t T && annOk T oa | _ => false)
 | .box _ y => (match o.op with | .box _ x => okOd x y | _ => false)
 | .build T ys => (match o.op with
   | .build t us => zeroB P t T && isAggT T && tyB P t T && (match flsOf P t with
     | some fs => (match fs.toList.mapM (fun f => (P.info? f.type).map fun i => (f.offset, i.size)) with
       | some places => okParts T (places.toArray[·]?) us.toList ys
       | none => false)
     | none => (match arrOf P t with
       | some q => (match T with
         | .arr _ T' => tyB P q.2 T' && okParts T (fun i => some (i * cellsN T', cellsN T')) us.toList ys
         | _ => false)
       | none => false))
   | _ => false)
 | .buildN T oa ys => (match o.op with
   | .build t us => zeroB P t T && isAggT T && tyB P t T && annOk T oa && (match flsOf P t with
     | some fs => (match fs.toList.mapM (fun f => (P.info? f.type).map fun i => (f.offset, i.size)) with
       | some places => okParts T (places.toArray[·]?) us.toList ys
       | none => false)
     | none => false)
   | _ => false)
 | .buildSlice e T ys => (match o.op with
   | .buildSlice t m us => slB P t e && tyB P e T && zeroB P e T && us.size == m && okIdx us.toList 0 && okOds (us.toList.map (·.2)) ys && decide (m * cellsN T ≤ 2 ^ 24) && decide (m ≤ 2 ^ 24)
   | _ => false)
 | .load T y => (match o.op with | .load t x => tyB P t T && okOd x y | _ => false)
 | .store T y yv => (match o.op with | .store t x xv => tyB P t T && okOd x y && okOd xv yv && o.dst.isNone | _ => false)
 | .bin op' x' y' => (match o.op with | .binOp op _ x y _ => decide (op = op') && okOd x x' && okOd y y' | _ => false)
 | .un op' x' => (match o.op with | .unOp op _ x => decide (op = op') && okOd x x' | _ => false)
 | .convI k x' => (match o.op with | .convert s d x => okOd x x' && tyB P d (.int k) && (match P.underlying s with | some (.int ks) => tyB P s (.int ks) | _ => false) | _ => false)
 | .fieldAddr S p y => (match o.op with
   | .fieldAddr t x f => tyB P t S && okOd x y && decide (p = fpath f) && (match flsOf P t with | some fs => (fs[f]?).isSome | none => false) && (match subT S (fpath f) with | some A => !(cellsN A == 0) | none => false)
   | _ => false)
 | .field S p y => (match o.op with
   | .field t x f => tyB P t S && okOd x y && decide (p = fpath f) && (match flsOf P t with | some fs => (fs[f]?).isSome | none => false) && scalarT S
   | _ => false)
 | .indexAddr T y iy => (match o.op with | .indexAddr t x ix => okOd x y && okOd ix iy && (match elemOf P t with | some e => tyB P e T | none => false) | _ => false)
 | .indexArr m T y iy => (match o.op with | .indexAddr t x ix => okOd x y && okOd ix iy && (match arrOf P t with | some q => q.1 == m && tyB P q.2 T | none => false) | _ => false)
 | .indexS y iy => (match o.op with | .index t x ix => okOd x y && okOd ix iy && tyB P t .str | _ => false)
 | .indexA m T y iy => (match o.op with | .index t x ix => okOd x y && okOd ix iy && (match arrOf P t with | some q => q.1 == m && tyB P q.2 T | none => false) | _ => false)
 | .sliceS y lo' hi' => (match o.op with | .slice t x lo hi none => tyB P t .str && okOd x y && okOdO lo lo' && okOdO hi hi' | _ => false)
 | .sliceL T y lo' hi' mx' => (match o.op with | .slice t x lo hi mx => okOd x y && okOdO lo lo' && okOdO hi hi' && okOdO mx mx' && (!mx.isSome || hi.isSome) && (match elemOf P t with | some e => tyB P e T | none => false) | _ => false)
 | .mkSlice e T lim x' y' => (match o.op with
   | .makeSlice t x y => slB P t e && tyB P e T && zeroB P e T && okOd x x' && okOd y y' && (match P.info? e with | some it => decide (lim * it.bytes ≤ 140737488355328) && decide (lim ≤ maxLen) | none => false)
   | _ => false)
 | .lenS y => (match o.op with | .call { callee := .builtin .len, args := us, argTypes := ts } => (match us.toList, ts.toList with | [x], [t] => tyB P t .str && okOd x y | _, _ => false) | _ => false)
 | .lenL y => (match o.op with | .call { callee := .builtin .len, args := us, argTypes := ts } => (match us.toList, ts.toList with | [x], [t] => (elemOf P t).isSome && okOd x y | _, _ => false) | _ => false)
 | .lenA m => (match o.op with | .call { callee := .builtin .len, args := us, argTypes := ts } => (match us.toList, ts.toList with | [_], [t] => (match arrOf P t with | some q => q.1 == m | none => false) && decide (m ≤ maxLen) | _, _ => false) | _ => false)
 | .mm true x' y' => (match o.op with | .call { callee := .builtin .max, args := us, argTypes := _ } => (match us.toList with | [x, y] => okOd x x' && okOd y y' | _ => false) | _ => false)
 | .mm false x' y' => (match o.op with | .call { callee := .builtin .min, args := us, argTypes := _ } => (match us.toList with | [x, y] => okOd x x' && okOd y y' | _ => false) | _ => false)
 | .append e T lim sy y => (match o.op with
   | .call { callee := .builtin .append, args := us, argTypes := ts } => (match us.toList, ts.toList with
     | [s, x], [t, t'] => t == t' && slB P t e && tyB P e T && okOd x y && okOd s sy && (match P.info? e with
       | some it => (match it.zero with | some z => z.cells.size == cellsN T | none => false) && decide (lim * it.bytes ≤ 140737488355328) && decide (lim ≤ maxLen) && decide (e ≠ BUF)
       | none => false)
     | _, _ => false)
   | _ => false)
 | .call f ys => (match o.op with | .call { callee := .value (.func g), args := us, argTypes := _ } => g == f && okOds us.toList ys | _ => false)
 | .callv y ys => (match o.op with | .call { callee := .value x, args := us, argTypes := _ } => okOd x y && okOds us.toList ys | _ => false)
 | .extract k j => (match o.op with | .extract (.tmp k') j' => k == k' && j == j' && (match o.dst with | some d => !(d == k) | none => false) | _ => false)
 | .mkfn f _ _ ys => (match o.op with | .makeFunc (.func g) first us => g == f && first.size == 0 && okOds us.toList ys | _ => false)
 | .rng y => (match o.op with | .range t x => tyB P t .str && okOd x y | _ => false)
 | .bad => true
 | .toSl y => (match o.op with | .convert s d x => okOd x y && tyB P s .str && (match elemOf P d with | some e => tyB P e (.int .u8) | none => false) | _ => false)
 | .toStr y => (match o.op with | .convert s d x => okOd x y && tyB P d .str && (match elemOf P s with | some e => tyB P e (.int .u8) | none => false) | _ => false)
 | .nilck y => (match o.op with | .nilCheck x => okOd x y | _ => false)
 | .nxt k => (match o.op with | .next (.tmp k') true => k == k' | _ => false)
 | .eqT neg .bool x' y' => (match o.op with | .binOp op t x y _ => decide (op = if neg then .neq else .eql) && boolTy P t && okOd x x' && okOd y y' | _ => false)
 | .eqT neg T x' y' => (match o.op with | .binOp op t x y _ => decide (op = if neg then .neq else .eql) && eqStr P t T && okOd x x' && okOd y y' | _ => false)
 | .callN f ys => (match o.op with | .call { callee := .value (.func g), args := us, argTypes := _ } => (match us.toList with | .const v :: us' => eq1 v (.slice none 0 0) && g == f && okOds us' ys | _ => false) | _ => false)
 | .callF f ys => (match o.op with | .call { callee := .value (.func g), args := us, argTypes := _ } => g == f && okOds us.toList ys | _ => false)
 | .cp y => (match o.op with | .move x => okOd x y | .assign x => okOd x y | _ => false)
 | .wrl f y => (match o.op with | .call { callee := .value (.func g), args := us, argTypes := _ } => (match us.toList with | [x] => g == f && okOd x y | _ => false) | _ => false)
def okAI (P : Program) (n : Nat) (o : Oper) (i : AI) : Bool := decide (i.dst = o.dst) && (match o.dst with | some d => decide (d < n) | none => true) && okOp P o i
theorem arr1 {α : Type} {us : Array α} {x : α} (h : us.toList = [x]) : us = #[x] := Array.toList_inj.1 (by simpa using h)
theorem arr2 {α : Type} {us : Array α} {x y : α} (h : us.toList = [x, y]) : us = #[x, y] := Array.toList_inj.1 (by simpa using h)
section
variable {P : Program} {B : Nat} {G0 : Nat → Nat → Prop} {W0 : World} {n : Nat} {env : Env} {tm : Array Value} {a : Act} {w : World} {ob : Nat → OB} {cl : Cal}
variable {R : Type} {K : Kont R} {r : R} {next : Act → World → Prop} {Q : Exit → Act → World → Prop} {o : Oper} {i : AI}
theorem st_ok (hgood : Good P cl) (hC : Conc P B G0 W0 n env a.tmps w ob) (hK : KOk P B G0 W0 n a K r next) (hok : okAI P n o i = true) (h : step cl i env K = some r) : o.wp P a w next Q := by
 simp only [okAI, Bool.and_eq_true, decide_eq_true_eq] at hok
 obtain ⟨⟨hdst, hdn⟩, hop⟩ := hok
 have hd : ∀ k, o.dst = some k → k < n := by
  intro k hk; rw [hk] at hdn; simpa using hdn
 unfold okOp at hop
 split at hop
 case h_1 y hi => split at hop; · rename_i x ho; exact st_mv hC hK hd hdst ho hi hop h
                  ·simp at hop
 case h_2 y hi => split at hop; · rename_i x ho; exact st_asg hC hK hd hdst ho hi hop h
                  ·simp at hop
 case h_3 c' x' y' hi =>
  split at hop
  ·rename_i c x y ho; simp only [Bool.and_eq_true] at hop; exact st_pick hC hK hd hdst ho hi hop.1.1 hop.1.2 hop.2 h
  ·simp at hop
 case h_4 T oa hi =>
  split at hop
  ·rename_i t ho; simp only [Bool.and_eq_true] at hop; exact st_alloc hC hK hd hdst ho hi (zeroB_ok hop.1) hop.2 h
  ·simp at hop
 case h_5 T y hi =>
  split at hop
  ·rename_i t x ho; exact st_box hC hK hd hdst ho hi hop h
  ·simp at hop
 case h_6 T ys hi =>
  split at hop
  ·rename_i t us ho
   simp only [Bool.and_eq_true] at hop
   refine st_build hC hK hd hdst ho hi (zeroB_ok hop.1.1.1) hop.1.1.2 (tyB_ok hop.1.2) ?_ h
   have h2 := hop.2
   split at h2
   ·rename_i fs hfs
    split at h2
    ·rename_i places hp; exact .inl ⟨fs, places, flsOf_ok hfs, hp, h2⟩
    ·simp at h2
   ·split at h2
    ·rename_i q hq
     split at h2
     ·rename_i m' T'
      simp only [Bool.and_eq_true] at h2
      exact .inr ⟨q.1, q.2, T', arrOf_ok hq, tyB_ok h2.1, h2.2⟩
     ·simp at h2
    ·simp at h2
  ·simp at hop
 case h_7 T oa ys hi =>
  split at hop
  ·rename_i t us ho
   simp only [Bool.and_eq_true] at hop
   refine st_buildN hC hK hd hdst ho hi hop.1.2 (zeroB_ok hop.1.1.1.1) hop.1.1.1.2 (tyB_ok hop.1.1.2) ?_ h
   have h2 := hop.2
   split at h2
   ·rename_i fs hfs
    split at h2
    ·rename_i places hp; exact .inl ⟨fs, places, flsOf_ok hfs, hp, h2⟩
    ·simp at h2
   ·simp at h2
  ·simp at hop
 case h_8 e T ys hi =>
  split at hop
  ·rename_i t m us ho
   simp only [Bool.and_eq_true, decide_eq_true_eq, beq_iff_eq] at hop
   obtain ⟨⟨⟨⟨⟨⟨⟨h1, h2⟩, h3⟩, h4⟩, h5⟩, h6⟩, h7⟩, h8⟩ := hop
   exact st_buildSlice hC hK hd hdst ho hi (slB_ok h1) (tyB_ok h2) (zeroB_ok h3) h4 h5 h6 h7 h8 h
  ·simp at hop
 case h_9 T y hi =>
  split at hop
  ·rename_i t x ho; simp only [Bool.and_eq_true] at hop; exact st_load hC hK hd hdst ho hi (tyB_ok hop.1) hop.2 h
  ·simp at hop
 case h_10 T y yv hi =>
  split at hop
  ·rename_i t x xv ho; simp only [Bool.and_eq_true, Option.isNone_iff_eq_none] at hop; exact st_store hC hK hop.2 ho hi (tyB_ok hop.1.1.1) hop.1.1.2 hop.1.2 h
  ·simp at hop
 case h_11 op' x' y' hi =>
  split at hop
  ·rename_i op xt x y yt ho; simp only [Bool.and_eq_true, decide_eq_true_eq] at hop
   obtain ⟨⟨rfl, h1⟩, h2⟩ := hop
   exact st_bin hC hK hd hdst ho hi h1 h2 h
  ·simp at hop
 case h_12 op' x' hi =>
  split at hop
  ·rename_i op xt x ho; simp only [Bool.and_eq_true, decide_eq_true_eq] at hop
   obtain ⟨rfl, h1⟩ := hop
   exact st_un hC hK hd hdst ho hi h1 h
  ·simp at hop
 case h_13 k x' hi =>
  split at hop
  ·rename_i s d x ho; simp only [Bool.and_eq_true] at hop
   obtain ⟨⟨h1, h2⟩, h3⟩ := hop
   split at h3
   ·exact st_convI hC hK hd hdst ho hi h1 (tyB_ok h3) (tyB_ok h2) h
   ·simp at h3
  ·simp at hop
 case h_14 S p y hi =>
  split at hop
  ·rename_i t x f ho; simp only [Bool.and_eq_true, decide_eq_true_eq] at hop
   obtain ⟨⟨⟨⟨h1, h2⟩, rfl⟩, h4⟩, h5⟩ := hop
   split at h4
   ·rename_i fs hfs
    obtain ⟨fd, hfd⟩ := Option.isSome_iff_exists.1 h4
    split at h5
    ·rename_i A hA
     exact st_fieldAddr hC hK hd hdst ho hi (tyB_ok h1) (flsOf_ok hfs) hfd hA (by simpa using h5) h2 h
    ·simp at h5
   ·simp at h4
  ·simp at hop
 case h_15 S p y hi =>
  split at hop
  ·rename_i t x f ho; simp only [Bool.and_eq_true, decide_eq_true_eq] at hop
   obtain ⟨⟨⟨⟨h1, h2⟩, rfl⟩, h4⟩, h5⟩ := hop
   split at h4
   ·rename_i fs hfs
    obtain ⟨fd, hfd⟩ := Option.isSome_iff_exists.1 h4
    exact st_field (A := .bool) hC hK hd hdst ho hi (tyB_ok h1) (flsOf_ok hfs) hfd h5 h2 h
   ·simp at h4
  ·simp at hop
 case h_16 T y iy hi =>
  split at hop
  ·rename_i t x ix ho; simp only [Bool.and_eq_true] at hop
   obtain ⟨⟨h1, h2⟩, h3⟩ := hop
   split at h3
   ·rename_i e he; exact st_indexAddr hC hK hd hdst ho hi (elemOf_ok he) (tyB_ok h3) h1 h2 h
   ·simp at h3
  ·simp at hop
 case h_17 m T y iy hi =>
  split at hop
  ·rename_i t x ix ho; simp only [Bool.and_eq_true] at hop
   obtain ⟨⟨h1, h2⟩, h3⟩ := hop
   split at h3
   ·rename_i q hq
    simp only [Bool.and_eq_true, beq_iff_eq] at h3
    obtain ⟨rfl, h4⟩ := h3
    exact st_indexArr hC hK hd hdst ho hi (arrOf_ok hq) (tyB_ok h4) h1 h2 h
   ·simp at h3
  ·simp at hop
 case h_18 y iy hi =>
  split at hop
  ·rename_i t x ix ho; simp only [Bool.and_eq_true] at hop
   exact st_indexS hC hK hd hdst ho hi (tyB_ok hop.2) hop.1.1 hop.1.2 h
  ·simp at hop
 case h_19 m T y iy hi =>
  split at hop
  ·rename_i t x ix ho; simp only [Bool.and_eq_true] at hop
   obtain ⟨⟨h1, h2⟩, h3⟩ := hop
   split at h3
   ·rename_i q hq
    simp only [Bool.and_eq_true, beq_iff_eq] at h3
    obtain ⟨rfl, h4⟩ := h3
    exact st_indexA hC hK hd hdst ho hi (arrOf_ok hq) (tyB_ok h4) h1 h2 h
   ·simp at h3
  ·simp at hop
 case h_20 y lo' hi' hi =>
  split at hop
  ·rename_i t x lo hh ho; simp only [Bool.and_eq_true] at hop
   exact st_sliceS hC hK hd hdst ho hi (tyB_ok hop.1.1.1) hop.1.1.2 hop.1.2 hop.2 h
  ·simp at hop
 case h_21 T y lo' hi' mx' hi =>
  split at hop
  ·rename_i t x lo hh mx ho; simp only [Bool.and_eq_true, Bool.or_eq_true, Bool.not_eq_true'] at hop
   obtain ⟨⟨⟨⟨⟨h1, h2⟩, h3⟩, h4⟩, h5⟩, h6⟩ := hop
   split at h6
   ·rename_i e he
    exact st_sliceL hC hK hd hdst ho hi (elemOf_ok he) (tyB_ok h6) h1 h2 h3 h4 (fun hm => h5.resolve_left (by rw [hm]; simp)) h
   ·simp at h6
  ·simp at hop
 case h_22 e T lim x' y' hi =>
  split at hop
  ·rename_i t x y ho
   simp only [Bool.and_eq_true] at hop
   obtain ⟨⟨⟨⟨⟨h1, h2⟩, h3⟩, h4⟩, h5⟩, h6⟩ := hop
   split at h6
   ·rename_i it hit
    simp only [Bool.and_eq_true, decide_eq_true_eq] at h6
    exact st_mkSlice hC hK hd hdst ho hi (slB_ok h1) (tyB_ok h2) (zeroB_ok h3) h4 h5 hit h6.1 h6.2 h
   ·simp at h6
  ·simp at hop
 case h_23 y hi =>
  split at hop
  ·rename_i us ts ho
   split at hop
   ·rename_i x t hu ht
    simp only [Bool.and_eq_true] at hop
    rw [arr1 hu, arr1 ht] at ho
    exact st_lenS hC hK hd hdst ho hi (tyB_ok hop.1) hop.2 h
   ·simp at hop
  ·simp at hop
 case h_24 y hi =>
  split at hop
  ·rename_i us ts ho
   split at hop
   ·rename_i x t hu ht
    simp only [Bool.and_eq_true] at hop
    rw [arr1 hu, arr1 ht] at ho
    obtain ⟨e, he⟩ := Option.isSome_iff_exists.1 hop.1
    exact st_lenL hC hK hd hdst ho hi (elemOf_ok he) hop.2 h
   ·simp at hop
  ·simp at hop
 case h_25 m hi =>
  split at hop
  ·rename_i us ts ho
   split at hop
   ·rename_i x t hu ht
    simp only [Bool.and_eq_true, decide_eq_true_eq] at hop
    rw [arr1 hu, arr1 ht] at ho
    obtain ⟨h1, h2⟩ := hop
    split at h1
    ·rename_i q hq
     rw [beq_iff_eq] at h1
     have := arrOf_ok hq
     rw [h1] at this
     exact st_lenA hC hK hd hdst ho hi this h2 h
    ·simp at h1
   ·simp at hop
  ·simp at hop
 case h_26 x' y' hi =>
  split at hop
  ·rename_i us ts ho
   split at hop
   ·rename_i x y hu
    simp only [Bool.and_eq_true] at hop
    rw [arr2 hu] at ho
    exact st_mm (mx := true) hC hK hd hdst ho hi hop.1 hop.2 h
   ·simp at hop
  ·simp at hop
 case h_27 x' y' hi =>
  split at hop
  ·rename_i us ts ho
   split at hop
   ·rename_i x y hu
    simp only [Bool.and_eq_true] at hop
    rw [arr2 hu] at ho
    exact st_mm (mx := false) hC hK hd hdst ho hi hop.1 hop.2 h
   ·simp at hop
  ·simp at hop
 case h_28 e T lim sy y hi =>
  split at hop
  ·rename_i us ts ho
   split at hop
   ·rename_i s x t t' hu ht
    simp only [Bool.and_eq_true, beq_iff_eq] at hop
    obtain ⟨⟨⟨⟨⟨rfl, h2⟩, h3⟩, h4⟩, h5⟩, h6⟩ := hop
    rw [arr2 hu, arr2 ht] at ho
    split at h6
    ·rename_i it hit
     simp only [Bool.and_eq_true, decide_eq_true_eq] at h6
     obtain ⟨⟨⟨h7, h8⟩, h9⟩, h10⟩ := h6
     split at h7
     ·rename_i z hz
      rw [beq_iff_eq] at h7
      exact st_append hC hK hd hdst ho hi (slB_ok h2) (tyB_ok h3) hit hz h7 h8 h9 h10 h4 h5 h
     ·simp at h7
    ·simp at h6
   ·simp at hop
  ·simp at hop
 case h_29 f ys hi =>
  split at hop
  ·rename_i g us ts ho
   simp only [Bool.and_eq_true, beq_iff_eq] at hop
   obtain ⟨rfl, h1⟩ := hop
   exact st_call hgood hC hK hd hdst ho hi h1 h
  ·simp at hop
 case h_30 y ys hi =>
  split at hop
  ·rename_i x us ts ho
   simp only [Bool.and_eq_true] at hop
   exact st_callv hgood hC hK hd hdst ho hi hop.1 hop.2 h
  ·simp at hop
 case h_31 k j hi =>
  split at hop
  ·rename_i k' j' ho
   simp only [Bool.and_eq_true, beq_iff_eq] at hop
   obtain ⟨⟨rfl, rfl⟩, h1⟩ := hop
   split at h1
   ·rename_i d hdd
    exact st_extract hC hK hd hdst ho hi ⟨d, hdd, by simpa using h1⟩ h
   ·simp at h1
  ·simp at hop
 case h_32 f A C ys hi =>
  split at hop
  ·rename_i g first us ho
   simp only [Bool.and_eq_true, beq_iff_eq] at hop
   obtain ⟨⟨rfl, h1⟩, h2⟩ := hop
   have : first = #[] := Array.eq_empty_of_size_eq_zero h1
   subst this
   exact st_mkfn hC hK hd hdst ho hi h2 h
  ·simp at hop
 case h_33 y hi =>
  split at hop
  ·rename_i t x ho
   simp only [Bool.and_eq_true] at hop
   exact st_rng hC hK hd hdst ho hi (tyB_ok hop.1) hop.2 h
  ·simp at hop
 case h_34 hi =>
  unfold step at h; rw [hi] at h; simp at h
 case h_35 y hi =>
  split at hop
  ·rename_i s d x ho
   simp only [Bool.and_eq_true] at hop
   obtain ⟨⟨h1, h2⟩, h3⟩ := hop
   split at h3
   ·rename_i e he; exact st_toSl hC hK hd hdst ho hi (tyB_ok h2).str (elemOf_ok he) (tyB_ok h3).int h1 h
   ·simp at h3
  ·simp at hop
 case h_36 y hi =>
  split at hop
  ·rename_i s d x ho
   simp only [Bool.and_eq_true] at hop
   obtain ⟨⟨h1, h2⟩, h3⟩ := hop
   split at h3
   ·rename_i e he; exact st_toStr hC hK hd hdst ho hi (elemOf_ok he) (tyB_ok h3).int (tyB_ok h2).str h1 h
   ·simp at h3
  ·simp at hop
 case h_37 y hi =>
  split at hop
  ·rename_i x ho
   exact st_nilck hC hK hd hdst ho hi hop h
  ·simp at hop
 case h_38 k hi =>
  split at hop
  ·rename_i k' ho
   rw [beq_iff_eq] at hop
   subst hop
   exact st_nxt hC hK hd hdst ho hi h
  ·simp at hop
 case h_39 neg x' y' hi =>
  split at hop
  ·rename_i op t x y yt ho
   simp only [Bool.and_eq_true, decide_eq_true_eq] at hop
   obtain ⟨⟨⟨rfl, h2⟩, h3⟩, h4⟩ := hop
   exact st_eqB hC hK hd hdst ho hi h2 h3 h4 h
  ·simp at hop
 case h_40 neg T x' y' _ hi =>
  split at hop
  ·rename_i op t x y yt ho
   simp only [Bool.and_eq_true, decide_eq_true_eq] at hop
   obtain ⟨⟨⟨rfl, h2⟩, h3⟩, h4⟩ := hop
   exact st_eqS hC hK hd hdst ho hi h2 h3 h4 h
  ·simp at hop
 case h_41 f ys hi =>
  split at hop
  ·rename_i g us ats ho
   split at hop
   ·rename_i v us' hus
    simp only [Bool.and_eq_true, beq_iff_eq] at hop
    obtain ⟨⟨h0, rfl⟩, h1⟩ := hop
    exact st_callN hgood hC hK hd hdst ho hi hus (show v = _ from eq1_eq h0) h1 h
   ·simp at hop
  ·simp at hop
 case h_42 f ys hi =>
  split at hop
  ·rename_i g us ats ho
   simp only [Bool.and_eq_true, beq_iff_eq] at hop
   obtain ⟨rfl, h1⟩ := hop
   exact st_callF hgood hC hK hd hdst ho hi h1 h
  ·simp at hop
 case h_43 y hi =>
  split at hop
  ·rename_i x ho; exact st_cp hC hK hd hdst (.inl ho) hi hop h
  ·rename_i x ho; exact st_cp hC hK hd hdst (.inr ho) hi hop h
  ·simp at hop
 case h_44 f y hi =>
  split at hop
  ·rename_i g us ats ho
   split at hop
   ·rename_i x hus
    simp only [Bool.and_eq_true, beq_iff_eq] at hop
    obtain ⟨rfl, h1⟩ := hop
    exact st_wrl hgood hC hK hd hdst ho hi hus h1 h
   ·simp at hop
  ·simp at hop
end
end Go.Fw
/- Soundness, part 22: regions, code. -/
namespace Go.Fw
open Go Go.RowKit
def okGuard (ops : Array Oper) : Option (Nat × Bool) → Option (Nat × Bool) → Bool
 | none, none => true
 | some (j, b), some (s, b') => b == b' && (match ops[j]? with | some o => decide (o.dst = some s) | none => false)
 | _, _ => false
def okOps (P : Program) (n : Nat) (ops : Array Oper) : Nat → List AI → Bool
 | j, [] => j == ops.size
 | j, i :: r => (match ops[j]? with | some o => okGuard ops o.guard i.guard && okAI P n o i | none => false) && okOps P n ops (j + 1) r
section
variable {P : Program} {B : Nat} {G0 : Nat → Nat → Prop} {W0 : World} {n : Nat} {env env' : Env} {tm : Array Value} {a : Act} {w : World} {ob : Nat → OB} {cl : Cal}
variable {R : Type} {r : R} {Q : Exit → Act → World → Prop}
theorem Conc.ext (hC : Conc P B G0 W0 n env tm w ob) (h : ∀ k, look env' k = look env k) : ∃ ob', Conc P B G0 W0 n env' tm w ob' := Conc.forget hC (fun k => .inl (h k))
theorem Conc.keep (hC : Conc P B G0 W0 n env tm w ob) (live : List Nat) : ∃ ob', Conc P B G0 W0 n (Fw.keep live env) tm w ob' := by
 refine Conc.forget hC (fun k => ?_)
 rw [look_keep]
 have gone : ∀ j, leads k (look (Fw.keep live env) j) = true → k ∈ live ∧ (look env k).home = true := by
  intro j hj
  rw [look_keep] at hj
  split at hj
  ·rcases keepE_or live (look env j) with ⟨h1, h2⟩ | h1
   ·rw [h1] at hj; exact ⟨h2 k hj, (ERep.leads hj (hC.rep j)).1⟩
   ·rw [h1] at hj; simp [leads] at hj
  ·simp [leads] at hj
 by_cases hk : k ∈ live
 ·rw [if_pos hk]
  rcases keepE_or live (look env k) with ⟨h1, _⟩ | h1
  ·exact .inl h1
  ·by_cases hh : (look env k).home = true
   ·left
    have : ledTo (look env k) = [] := by
     cases he : look env k <;> rw [he] at hh <;> first | rfl | (exfalso; simp [E.home] at hh; done)
    unfold keepE; rw [this]; rfl
   ·exact .inr ⟨h1, fun j hj => hh (gone j hj).2⟩
 ·rw [if_neg hk]
  exact .inr ⟨rfl, fun j hj => hk (gone j hj).1⟩
theorem kept (hC : Conc P B G0 W0 n env a.tmps w ob) {o : Oper} {j : Nat} {ops : Array Oper} {s : Nat} {b : Bool} (hj : ops[j]? = some o) (hd : o.dst = some s) (hs : look env s = .v .bool b) : yielded ops a.tmps j = some b := by
 have hr := hC.rep s
 rw [hs] at hr
 obtain ⟨_, vs, h1, h2⟩ := hr
 unfold Flat at h1
 obtain ⟨rfl, _⟩ := h1
 have h3 : a.tmps.getD s undef = .bool b := h2
 unfold yielded
 simp only [hj, Option.bind_some, hd]
 cases h4 : a.tmps[s]? with
 | none =>
   have : a.tmps.getD s undef = undef := by simp [Array.getD_eq_getD_getElem?, h4]
   rw [this] at h3; exact absurd h3 (by simp [undef])
 | some v =>
   have : a.tmps.getD s undef = v := by simp [Array.getD_eq_getD_getElem?, h4]
   rw [this] at h3; subst h3; rfl
theorem kept_und (hC : Conc P B G0 W0 n env a.tmps w ob) {o : Oper} {j : Nat} {ops : Array Oper} {s : Nat} (hj : ops[j]? = some o) (hd : o.dst = some s) (hs : look env s = .und) : yielded ops a.tmps j = none := by
 have hr := hC.rep s
 rw [hs] at hr
 have h3 : a.tmps.getD s undef = undef := hr.1
 unfold yielded
 simp only [hj, Option.bind_some, hd]
 cases h4 : a.tmps[s]? with
 | none => rfl
 | some v =>
   have : a.tmps.getD s undef = v := by simp [Array.getD_eq_getD_getElem?, h4]
   rw [this] at h3; subst h3; rfl
theorem ops_sound {K : Kont R} (hgood : Good P cl) {ops : Array Oper} : ∀ (l : List AI) (j : Nat) (env : Env) (a : Act) (w : World) (ob : Nat → OB), okOps P n ops j l = true → Conc P B G0 W0 n env a.tmps w ob → Fw.ops cl l env K = some r →
  KOk P B G0 W0 n a K r (fun a' w' => Q .normal a' w') → wpOps P ops Q (List.range' j (ops.size - j)) a w
 | [], j, env, a, w, ob, hok, hC, h, hK => by
   simp only [okOps, beq_iff_eq] at hok
   rw [hok, Nat.sub_self]
   have := hK env a.tmps w ob hC h
   exact this
 | i :: l, j, env, a, w, ob, hok, hC, h, hK => by
   simp only [okOps, Bool.and_eq_true] at hok
   obtain ⟨h1, h2⟩ := hok
   split at h1
   case h_2 => simp at h1
   rename_i o hj
   simp only [Bool.and_eq_true] at h1
   obtain ⟨hg, hai⟩ := h1
   have hlt : j < ops.size := (Array.getElem?_eq_some_iff.1 hj).1
   have hr : List.range' j (ops.size - j) = j :: List.range' (j + 1) (ops.size - (j + 1)) := by
    rw [show ops.size - j = (ops.size - (j + 1)) + 1 by omega, List.range'_succ]
   rw [hr]
   simp only [wpOps, hj]
   have hdst : i.dst = o.dst := by simp only [okAI, Bool.and_eq_true, decide_eq_true_eq] at hai; exact hai.1.1
   have hd : ∀ k, o.dst = some k → k < n := by
    simp only [okAI, Bool.and_eq_true, decide_eq_true_eq] at hai
    intro k hk
    have := hai.1.2
    rw [hk] at this; simpa using this
   have yes : ∀ (env : Env) (ob : Nat → OB), Conc P B G0 W0 n env a.tmps w ob → step cl i env (fun env => Fw.ops cl l env K) = some r → o.wp P a w (wpOps P ops Q (List.range' (j + 1) (ops.size - (j + 1)))) Q := by
    intro env ob hC h
    exact st_ok hgood hC (fun env' tm' w' ob' hC' h' => ops_sound hgood l (j + 1) env' { a with tmps := tm' } w' ob' h2 hC' h' (fun e2 t2 w2 o2 h3 h4 => hK e2 t2 w2 o2 h3 h4)) hai h
   have no : ∀ (env : Env) (ob : Nat → OB), Conc P B G0 W0 n env a.tmps w ob → Fw.ops cl l (putO env i.dst .und) K = some r → wpOps P ops Q (List.range' (j + 1) (ops.size - (j + 1))) (a.put o.dst undef) w := by
    intro env ob hC h
    rw [hdst] at h
    obtain ⟨ob', hC'⟩ := Conc.putO (e := .und) (v := undef) hC hd (Grows.refl w) ⟨rfl, rfl⟩ a rfl
    refine ops_sound hgood l (j + 1) _ _ w ob' h2 hC' h (fun e2 t2 w2 o2 h3 h4 => ?_)
    have := hK e2 t2 w2 o2 h3 h4
    have e : ({ (a.put o.dst undef) with tmps := t2 } : Act) = { a with tmps := t2 } := by cases o.dst <;> rfl
    rw [e]; exact this
   unfold Fw.ops guardX at h
   cases hog : o.guard with
   | none =>
     cases hig : i.guard with
     | some q => rw [hog, hig] at hg; simp [okGuard] at hg
     | none =>
       rw [hig] at h
       have hw : Region.wanted o (yielded ops a.tmps) = true := by simp [Region.wanted, hog]
       rw [if_pos hw]
       exact .inl (yes env ob hC h)
   | some q =>
     obtain ⟨gj, gb⟩ := q
     cases hig : i.guard with
     | none => rw [hog, hig] at hg; simp [okGuard] at hg
     | some q' =>
       obtain ⟨s, pol⟩ := q'
       rw [hog, hig] at hg
       simp only [okGuard, Bool.and_eq_true, beq_iff_eq] at hg
       obtain ⟨rfl, hg⟩ := hg
       split at hg
       case h_2 => simp at hg
       rename_i og hgj
       simp only [decide_eq_true_eq] at hg
       rw [hig] at h
       simp only at h
       split at h
       ·rename_i b hs
        have hy := kept hC hgj hg hs
        have hw : Region.wanted o (yielded ops a.tmps) = (b == gb) := by
         simp only [Region.wanted, hog, hy]
         cases b <;> cases gb <;> rfl
        have ext : ∀ b', b = b' → ∃ ob', Conc P B G0 W0 n ((s, .v .bool b') :: env) a.tmps w ob' := by
         rintro b' rfl
         refine Conc.ext hC (fun k => ?_)
         rw [look_cons]
         split
         ·rename_i e; subst e; exact hs.symm
         ·rfl
        cases b with
        | true =>
          obtain ⟨ob', hC'⟩ := ext true rfl
          simp only [brB] at h
          cases gb with
          | true =>
            rw [if_pos (by rw [hw]; rfl)]
            exact .inl (yes _ _ hC' h)
          | false =>
            rw [if_neg (by rw [hw]; decide)]
            exact no _ _ hC' h
        | false =>
          obtain ⟨ob', hC'⟩ := ext false rfl
          simp only [brB] at h
          cases gb with
          | true =>
            rw [if_neg (by rw [hw]; decide)]
            exact no _ _ hC' h
          | false =>
            rw [if_pos (by rw [hw]; rfl)]
            exact .inl (yes _ _ hC' h)
       ·rename_i hs
        have hy := kept_und hC hgj hg hs
        rw [if_neg (by simp [Region.wanted, hog, hy])]
        exact no _ _ hC h
       ·simp at h
theorem loop_rounds {c : Code} (J : Nat → Act → World → Prop) (h0 : ∀ a w, ¬ J 0 a w) (hs : ∀ m a w, J (m + 1) a w → c.wp P (Exit.then (J m) Q) a w) : ∀ (m : Nat) (a : Act) (w : World), J m a w → (Code.loop c).wp P Q a w := by
 have key : ∀ m a w, J m a w → ∀ (b : Frame) (k : List Item) (cs : List Frame), ∃ e a' w', Q e a' w' ∧ Arrives P (lone (b.at a (.code c :: .inLoop c :: k)) cs w) b k cs e a' w' := by
  intro m
  induction m with
  | zero => intro a w h; exact absurd h (h0 a w)
  | succ m ih =>
    intro a w h b k cs
    obtain ⟨e, a₁, w₁, hq, harr⟩ := hs m a w h b (.inLoop c :: k) cs
    cases e with
    | normal =>
      obtain ⟨e₂, a₂, w₂, hq₂, harr₂⟩ := ih a₁ w₁ hq b k cs
      exact ⟨e₂, a₂, w₂, hq₂, .of_steps (Steps.trans harr (.one step_inLoop)) harr₂⟩
    | exit id => exact ⟨_, a₁, w₁, hq, .pass (x := .inLoop c) rfl (fun _ _ => .inl (by simp)) harr⟩
    | goto l => exact ⟨_, a₁, w₁, hq, .pass (x := .inLoop c) rfl (fun _ _ => .inl (by simp)) harr⟩
    | ret => exact ⟨_, a₁, w₁, hq, .pass (x := .inLoop c) rfl (fun _ _ => .inl (by simp)) harr⟩
    | panic ch => exact ⟨_, a₁, w₁, hq, .pass (x := .inLoop c) rfl (fun _ _ => .inl (by simp)) harr⟩
    | outgrown => exact ⟨_, a₁, w₁, hq, .pass (x := .inLoop c) rfl (fun _ _ => .inl (by simp)) harr⟩
 intro m a w h b k cs
 obtain ⟨e, a', w', hq, harr⟩ := key m a w h b k cs
 exact ⟨e, a', w', hq, .of_steps (.one step_loop) harr⟩
end
end Go.Fw
