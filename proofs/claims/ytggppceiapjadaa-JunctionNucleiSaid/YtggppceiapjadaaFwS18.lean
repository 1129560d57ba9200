/- Soundness, part 18: calls. -/
import Derived.Test.YtggppceiapjadaaFwS17
set_option linter.unusedVariables false
set_option linter.unusedSimpArgs false
namespace Go.Fw
open Go Go.RowKit

section
variable {P : Program} {B : Nat} {G0 : Nat → Nat → Prop} {W0 : World} {n : Nat} {env env' : Env} {a : Act} {w : World} {ob : Nat → OB} {cl : Cal}
variable {G' : Nat → Nat → Prop} {S : Nat → Prop}
variable {R : Type} {K : Kont R} {r : R} {next : Act → World → Prop} {Q : Exit → Act → World → Prop} {o : Oper} {i : AI}

/-- a function literal as a function's value -/
theorem clo_rep (hgood : Good P cl) (hC : Conc P B G0 W0 n env a.tmps w ob) {f : FuncId} {A C : Ty} {caps : List E} {v : Value} {x : E} {obe : OB} (hr : ERep P w (Gd B G0 ob) B a.tmps env (.clo f A C caps) v obe) (h : cloV cl env f A C caps = some x) : ARep P w G' x v := by
  unfold cloV at h
  split at h
  · rename_i hs
    simp only [Option.bind_eq_some_iff, Option.some.injEq] at h
    obtain ⟨cs, hcs, rfl⟩ := h
    obtain ⟨_, cv, rfl, hcap⟩ := hr
    refine ⟨[.func (.func f) #[] cv], ?_, rfl⟩
    unfold Flat
    refine ⟨rfl, hs, f, cv, rfl, fun w' G2 y vals hL hargs r hr => ?_⟩
    simp only [Option.bind_eq_some_iff] at hr
    obtain ⟨res, h1, h2⟩ := hr
    have := unE_some h2
    subst this
    have hT : OkG P B G0 env ob w (fun _ _ => True) (fun _ => True) := ⟨fun _ _ _ _ => trivial, .inl fun _ _ => trivial⟩
    have hA := (ArgsRep.later (Later.refl _ _) (fun _ _ _ _ => trivial) (FArgs.args A hargs)).append (ArgsRep.later (G' := fun _ _ => True) hL (fun _ _ _ _ => trivial) (argsS_rep hC hT hcap hcs (fun _ _ => trivial)))
    have hcall := hgood f _ _ h1 w' (fun _ _ => True) _ hA
    refine ⟨hcall.1, ?_⟩
    have e : (vals ++ cv.toList).toArray = vals.toArray ++ cv := by apply Array.toList_inj.1; simp
    rw [← e]
    refine Calls.mono hcall.2 ?_
    rintro e w'' ⟨v, rob, rfl, hb, hres⟩
    obtain ⟨rs, rfl, h3⟩ := hres.scal hs
    exact ⟨rs, h3 _ _ _, rfl, hb⟩
  · simp at h

/-- the arguments of a call -/
theorem argList_rep (hgood : Good P cl) (hC : Conc P B G0 W0 n env a.tmps w ob) : ∀ {us : List Operand} {ys : List Od} {as : List E}, okOds us ys = true → argList cl env ys = some as →
    OkG P B G0 env ob w G' (fun s => ∃ y ∈ ys, homeOf y (ent env y) = some s) → ArgsRep P w G' as (us.map a.eval)
  | [], [], as, _, h, _ => by simp only [argList, Option.some.injEq] at h; subst h; exact .nil
  | [], _ :: _, _, h, _, _ => by simp [okOds] at h
  | _ :: _, [], _, h, _, _ => by simp [okOds] at h
  | u :: us, y :: ys, as, ho, h, hG => by
    simp only [okOds, Bool.and_eq_true] at ho
    simp only [argList, Option.bind_eq_some_iff, Option.some.injEq] at h
    obtain ⟨x, h1, z, h2, rfl⟩ := h
    have hG2 : OkG P B G0 env ob w G' (fun s => ∃ y ∈ ys, homeOf y (ent env y) = some s) := ⟨hG.sub, hG.froz.imp id fun hf s hs => hf s (by obtain ⟨y', hy, hh⟩ := hs; exact ⟨y', List.mem_cons_of_mem _ hy, hh⟩)⟩
    refine .cons ?_ (argList_rep hgood hC ho.2 h2 hG2)
    have hr := ent_rep hC ho.1
    split at h1
    · rename_i T oa x' he
      split at h1
      · rename_i hw
        simp only [Option.some.injEq] at h1; subst h1
        cases y with
        | t k =>
          simp only [ent] at he
          obtain ⟨b, vs, k1, k2, k3⟩ := loc_share (p := []) hC hG (s := k) ⟨.t k, by simp, by simp [ent, he, homeOf]⟩ he hw (y := x') (by cases T <;> rfl)
          have e0 : offT T [] = 0 := by cases T <;> rfl
          rw [e0] at k3
          exact ⟨b, 0, vs, by rw [okOd_t ho.1 a]; exact k1, k2, k3⟩
        | c T x => simp [ent] at he
        | nil e T => simp [ent] at he
        | fn f A C => simp [ent] at he
      · simp at h1
    · rename_i f A C caps he
      rw [he] at hr
      exact clo_rep hgood hC hr h1
    · rename_i hn1 hn2
      by_cases hown : ∃ wr ed T oa xs, ent env y = .own wr ed T oa xs
      · obtain ⟨wr, ed, T, oa, xs, he⟩ := hown
        rw [he] at hr h1
        simp only [argS] at h1
        split at h1
        · rename_i hp
          simp only [Option.some.injEq] at h1; subst h1
          refine ⟨[a.eval u], Flat.up P _ hC.base (own_imm hr hp hG.sub ?_), rfl⟩
          intro g j hg hB hj
          rcases hG.froz with ht | hf
          · exact ht _ _
          · cases y with
            | t k =>
              simp only [ent] at he
              have hwr := (hf k ⟨.t k, by simp, by simp [ent, he, homeOf]⟩).1 _ _ _ _ _ he
              subst hwr
              have hr' := hr
              change Flat P (.sl T) w (Gd B G0 ob) B (.own false ed oa) xs [a.eval u] (ob k) at hr'
              unfold Flat at hr'
              obtain ⟨v', cells, ob', e1, _, _, e2⟩ := hr'
              simp only [List.cons.injEq, and_true] at e1
              subst e1
              have hm : (g, xs.length * cellsN T) ∈ ob k := by rw [e2]; exact List.mem_append_left _ (by simp [obOf, hg])
              exact hG.sub g j (hC.low k g (mem_blocks.2 ⟨_, hm⟩)).2 (Gd_of_rec hC hm hj hB)
            | c T x => simp [ent] at he
            | nil e T => simp only [ent] at he; cases he; simp at hj
            | fn f A C => simp [ent] at he
        · simp at h1
      · have hr1 : ERep1 P w (Gd B G0 ob) B a.tmps env (ent env y) (a.eval u) (obOd ob y) := ERep.one (fun es he => by rw [he] at h1; simp [argS] at h1) (fun f A C c he => hn2 f A C c he) hr
        refine argS_rep hC hr1 h1 (.inr fun wr ed T oa xs he => hown ⟨wr, ed, T, oa, xs, he⟩) hG (fun s hs => ⟨y, by simp, ?_⟩)
        rw [← hs]
        cases he : ent env y <;> first | rfl | exact absurd he (hn1 _ _ _) | exact (hown ⟨_, _, _, _, _, he⟩).elim

/-! ### What comes back -/
theorem back_rep1 {w' : World} {G1 G2 : Nat → Nat → Prop} {B1 B2 : Nat} {tm1 tm2 : Array Value} {env1 env2 : Env} {e : E} {v : Value} {b : OB} (hB : B2 ≤ B1) (hb : e.back = true)
    (hG : (∀ b i, b < w'.heap.size → G1 b i → G2 b i) ∨ e.plain = true) (h : ERep1 P w' G1 B1 tm1 env1 e v b) : ERep1 P w' G2 B2 tm2 env2 e v b := by
  cases e with
  | v T x =>
    obtain ⟨h0, vs, h1, h2⟩ := h
    refine ⟨h0, vs, ?_, h2⟩
    rcases hG with hG | hG
    · exact Flat.mono P T (fun b i hb h => ⟨hG b i hb h, rfl⟩) (Later.refl _ _) (by simp) (Flat.down P T hb hB h1)
    · exact (Flat.scal P T hG h1).2 _ _ _ _
  | own wr ed T o xs =>
    simp only [E.back, Bool.and_eq_true] at hb
    have h1 : Flat P (.sl T) w' G1 B2 (.own wr ed o) xs [v] b := Flat.down P (.sl T) (by simpa only [noFnT] using hb.1) hB h
    change Flat P (.sl T) w' G2 B2 (.own wr ed o) xs [v] b
    rcases hG with hG | hG
    · exact Flat.mono P (.sl T) (fun b i hb h => ⟨hG b i hb h, rfl⟩) (Later.refl _ _) (fun _ _ => rfl) h1
    · unfold Flat at h1 ⊢
      obtain ⟨v', cells, ob', k1, k2, k3, k4⟩ := h1
      refine ⟨v', cells, ob', k1, k2, Elems.imp (fun x u c _ hx => ?_) k3, k4⟩
      obtain ⟨e1, hx2⟩ := Flat.scal P T hG hx
      subst e1
      exact hx2 _ _ _ _
  | _ => simp [E.back] at hb

theorem back_rep {w' : World} {G1 G2 : Nat → Nat → Prop} {B1 B2 : Nat} {tm1 tm2 : Array Value} {env1 env2 : Env} {es : List E} {v : Value} {b : OB} (hB : B2 ≤ B1) (hb : es.all E.back = true)
    (hG : (∀ b i, b < w'.heap.size → G1 b i → G2 b i) ∨ es.all E.plain = true) (h : ERep P w' G1 B1 tm1 env1 (resE es) v b) : ERep P w' G2 B2 tm2 env2 (resE es) v b := by
  have key : ∀ {es : List E} {vs : List Value} {b : OB}, es.all E.back = true → ((∀ b i, b < w'.heap.size → G1 b i → G2 b i) ∨ es.all E.plain = true) → TupRep (ERep1 P w' G1 B1 tm1 env1) es vs b → TupRep (ERep1 P w' G2 B2 tm2 env2) es vs b := by
    intro es
    induction es with
    | nil => intro vs b _ _ h; exact h
    | cons e es ih =>
      rintro vs b hb hG ⟨v, rr, b1, b2, rfl, rfl, h1, h2⟩
      simp only [List.all_cons, Bool.and_eq_true] at hb hG
      exact ⟨v, rr, b1, b2, rfl, rfl, back_rep1 hB hb.1 (hG.imp id And.left) h1, ih hb.2 (hG.imp id And.right) h2⟩
  match es, hb, hG, h with
  | [e], hb, hG, h =>
    simp only [List.all_cons, List.all_nil, Bool.and_true] at hb hG
    cases e with
    | v T x => exact back_rep1 (tm1 := tm1) (tm2 := tm2) (env1 := env1) (env2 := env2) (e := .v T x) hB hb hG h
    | own wr ed T o xs => exact back_rep1 (tm1 := tm1) (tm2 := tm2) (env1 := env1) (env2 := env2) (e := .own wr ed T o xs) hB hb hG h
    | _ => simp [E.back] at hb
  | [], hb, hG, h => obtain ⟨h0, vs, h1, h2⟩ := h; exact ⟨h0, vs, h1, key hb hG h2⟩
  | e1 :: e2 :: es, hb, hG, h => obtain ⟨h0, vs, h1, h2⟩ := h; exact ⟨h0, vs, h1, key hb hG h2⟩

theorem back_leads {es : List E} (hb : es.all E.back = true) (k : Nat) : leads k (resE es) = false := by
  match es, hb with
  | [e], hb =>
    simp only [List.all_cons, List.all_nil, Bool.and_true] at hb
    cases e <;> simp_all [E.back, resE, leads]
  | [], _ => rfl
  | _ :: _ :: _, _ => rfl

theorem Below.grows {w' : World} (h : Below w.heap.size w w') : Grows w w' := ⟨h.os, h.tape, h.output, h.size, fun k hk => h.block k hk⟩

/-- what came back goes into its slot -/
theorem fin_res {w' : World} {res : List E} {v : Value} {rob : OB} {d : Option Nat} {G : Nat → Nat → Prop} (hC : Conc P B G0 W0 n env a.tmps w ob) (hK : KOk P B G0 W0 n a K r next) (hd : ∀ k, d = some k → k < n)
    (hb : Below w.heap.size w w') (hres : ResRep P w w' G res v rob) (hG : (∀ b i, G b i → Gd B G0 ob b i) ∨ res.all E.plain = true) (hk : K (putO env d (resE res)) = some r) : next (a.put d v) w' := by
  cases d with
  | none => exact fin0 (e := .dead) hC hK (by simp) (Below.grows hb) rfl hk
  | some k =>
    have h := Conc.putG (e := resE res) (v := v) (bk := rob) hC (hd k rfl) (Below.grows hb) ?_ hres.new hres.nodup
    · have := hK _ _ _ _ h hk
      exact this
    · rw [if_neg (by rw [back_leads hres.back k]; simp)]
      refine back_rep hC.base hres.back ?_ hres.rep
      refine hG.imp (fun hG b i hb' hg => ?_) id
      rcases hg with ⟨h1, h2⟩ | ⟨h1, h2⟩
      · exact Gd_upd (fun lim hl => by have := (hres.new b (mem_blocks.2 ⟨_, hl⟩)).1; omega) (hG b i h2)
      · refine .inr ⟨Nat.le_trans hC.base h1, fun j lim hj => ?_⟩
        by_cases hjk : j = k
        · subst hjk; rw [updO_same] at hj; exact h2 lim hj
        · rw [updO_other _ _ hjk] at hj
          have := (hC.low j b (mem_blocks.2 ⟨_, hj⟩)).2
          omega

theorem run_callFunc {f : FuncId} (h : Callable P f) (args : Array Value) (w : World) : (callFunc f args).run P w = .ok (.enter f args) w := by
  obtain ⟨fn, h1, h2, h3⟩ := h
  have h2' : ¬ fn.name = "runtime.NumGoroutine" := by simpa using h2
  have h3' : ¬ fn.body = none := by intro e; rw [e] at h3; simp at h3
  simp [callFunc, h1, h2', h3']

theorem wp_enter {f : FuncId} {args : Array Value} (hrun : (execOp a.eval o).run P w = .ok (.enter f args) w) (h : Calls P f args w fun e w' => ∃ v, e = .returned v ∧ next (a.put o.dst v) w') : o.wp P a w next Q := by
  unfold Oper.wp; rw [hrun]; exact Calls.mono h (by rintro e w' ⟨v, rfl, h⟩; exact h)

theorem st_call {f : FuncId} {us : Array Operand} {ats : Array TypeId} {ys : List Od} (hgood : Good P cl) (hC : Conc P B G0 W0 n env a.tmps w ob) (hK : KOk P B G0 W0 n a K r next) (hd : ∀ k, o.dst = some k → k < n) (hdst : i.dst = o.dst)
    (ho : o.op = .call { callee := .value (.func f), args := us, argTypes := ats }) (hi : i.op = .call f ys) (hx : okOds us.toList ys = true) (h : step cl i env K = some r) : o.wp P a w next Q := by
  unfold step at h; rw [hi] at h; simp only [hdst, Cal.eqn, Option.bind_eq_some_iff] at h
  obtain ⟨as, h1, res, h2, h3⟩ := h
  have hrun : Callable P f → (execOp a.eval o).run P w = .ok (.enter f (us.map a.eval)) w := by
    intro hc
    have := run_callFunc hc (us.map a.eval) w
    simp [execOp, ho, resolve, Deferred.ofValue, invoke, Act.eval, this]
  have e : (us.toList.map a.eval).toArray = us.map a.eval := by apply Array.toList_inj.1; simp
  by_cases hp : res.all E.plain = true
  · rw [if_pos hp] at h3
    have hA := argList_rep (G' := fun _ _ => True) hgood hC hx h1 ⟨fun _ _ _ _ => trivial, .inl fun _ _ => trivial⟩
    have hcall := hgood f _ _ h2 w _ _ hA
    rw [e] at hcall
    refine wp_enter (hrun hcall.1) (Calls.mono hcall.2 ?_)
    rintro e w' ⟨v, rob, rfl, hb, hres⟩
    exact ⟨v, rfl, fin_res hC hK hd hb hres (.inr hp) h3⟩
  · rw [if_neg hp] at h3
    obtain ⟨ob', hf, hC'⟩ := freezeAll_conc (a := a) ys hC
    have hz := freezeAll_fz ys env
    have hA := argList_rep (G' := Gd B G0 ob') hgood hC' hx (Fz.argList hz.1 h1) ⟨fun _ _ _ h => h, .inr fun s ⟨y, hy, hs⟩ => hz.2 y hy s (by rw [← homeOf_fz (FzE.ent hz.1 y)]; exact hs)⟩
    have hcall := hgood f _ _ h2 w _ _ hA
    rw [e] at hcall
    refine wp_enter (hrun hcall.1) (Calls.mono hcall.2 ?_)
    rintro e w' ⟨v, rob, rfl, hb, hres⟩
    exact ⟨v, rfl, fin_res hC' hK hd hb hres (.inl fun _ _ h => h) h3⟩

theorem st_callv {x : Operand} {y : Od} {us : Array Operand} {ats : Array TypeId} {ys : List Od} (hgood : Good P cl) (hC : Conc P B G0 W0 n env a.tmps w ob) (hK : KOk P B G0 W0 n a K r next) (hd : ∀ k, o.dst = some k → k < n) (hdst : i.dst = o.dst)
    (ho : o.op = .call { callee := .value x, args := us, argTypes := ats }) (hi : i.op = .callv y ys) (hxy : okOd x y = true) (hx : okOds us.toList ys = true) (h : step cl i env K = some r) : o.wp P a w next Q := by
  unfold step at h; rw [hi] at h; simp only [hdst] at h
  have hr := ent_rep hC hxy
  have hrun : ∀ {f : FuncId} {cv : Array Value}, Callable P f → a.eval x = .func (.func f) #[] cv → (execOp a.eval o).run P w = .ok (.enter f (us.map a.eval ++ cv)) w := by
    intro f cv hc hv
    have := run_callFunc hc (us.map a.eval ++ cv) w
    simp [execOp, ho, resolve, Deferred.ofValue, invoke, hv, this]
  have e : (us.toList.map a.eval).toArray = us.map a.eval := by apply Array.toList_inj.1; simp
  split at h
  · rename_i A C g he
    simp only [Option.bind_eq_some_iff] at h
    obtain ⟨as, h1, x', h2, z, h3, h4⟩ := h
    split at h4
    · rename_i hs
      have hA := argList_rep (G' := fun _ _ => True) hgood hC hx h1 ⟨fun _ _ _ _ => trivial, .inl fun _ _ => trivial⟩
      have hF := tuple_args A h2 hA
      rw [he] at hr
      obtain ⟨_, vs, hr1, hr2⟩ := hr
      unfold Flat at hr1
      obtain ⟨_, _, f, cv, rfl, hfn⟩ := hr1
      have hcall := hfn w _ _ _ (Later.refl _ _) hF z h3
      refine wp_enter (hrun hcall.1 hr2) ?_
      rw [e] at hcall
      refine Calls.mono hcall.2 ?_
      rintro e w' ⟨rs, k1, rfl, k2⟩
      refine ⟨_, rfl, fin0 (e := .v C z) hC hK hd (Below.grows k2) ?_ h4⟩
      exact ⟨rfl, rs, (Flat.scal P C hs k1).2 _ _ _ _, rfl⟩
    · simp at h4
  · rename_i f A C caps he
    simp only [Cal.eqn, Option.bind_eq_some_iff] at h
    obtain ⟨as, h1, cs, h2, res, h3, h4⟩ := h
    split at h4
    · rename_i hp
      rw [he] at hr
      obtain ⟨_, cv, hv, hcap⟩ := hr
      have hT : OkG P B G0 env ob w (fun _ _ => True) (fun _ => True) := ⟨fun _ _ _ _ => trivial, .inl fun _ _ => trivial⟩
      have hA := (argList_rep (G' := fun _ _ => True) hgood hC hx h1 ⟨fun _ _ _ _ => trivial, .inl fun _ _ => trivial⟩).append (argsS_rep hC hT hcap h2 (fun _ _ => trivial))
      have hcall := hgood f _ _ h3 w _ _ hA
      have e2 : (us.toList.map a.eval ++ cv.toList).toArray = us.map a.eval ++ cv := by apply Array.toList_inj.1; simp
      rw [e2] at hcall
      refine wp_enter (hrun hcall.1 hv) (Calls.mono hcall.2 ?_)
      rintro e w' ⟨v, rob, rfl, hb, hres⟩
      exact ⟨v, rfl, fin_res hC hK hd hb hres (.inr hp) h4⟩
    · simp at h4
  · exact absurd h (by simp)

end
end Go.Fw
