/- Soundness, part 23: code; what a function hands back. -/
import Derived.Test.YtggppceiapjadaaFwO
set_option linter.unusedVariables false
set_option linter.unusedSimpArgs false
namespace Go.Fw
open Go Go.RowKit

def okC (P : Program) (n : Nat) (c : Code) : AC → Bool
  | .out _ x => okC P n c x
  | .skip => (match c with | .skip => true | _ => false)
  | .reg _ l => (match c with | .region _ ops false => okOps P n ops 0 l | _ => false)
  | .draw _ l => (match c with | .region _ ops true => okD P n ops l | _ => false)
  | .seq x' y' => (match c with | .seq x y => okC P n x x' && okC P n y y' | _ => false)
  | .cond d x' y' => (match c with | .cond e x y => okOd e d && okC P n x x' && okC P n y y' | _ => false)
  | .block id' x' => (match c with | .block id x => id == id' && okC P n x x' | _ => false)
  | .loop _ x' => (match c with | .loop x => okC P n x x' | _ => false)
  | .exit id' => (match c with | .exit id => id == id' | _ => false)
  | .ret => (match c with | .ret => true | _ => false)

def exOf : Ex → Exit
  | .normal => .normal
  | .exit id => .exit id
  | .ret => .ret

section
variable {P : Program} {B : Nat} {G0 : Nat → Nat → Prop} {W0 : World} {n : Nat} {cl : Cal}
variable {R : Type} {r : R}

def KEOk (P : Program) (B : Nat) (G0 : Nat → Nat → Prop) (W0 : World) (n : Nat) (a : Act) (K : KE R) (r : R) (Q : Exit → Act → World → Prop) : Prop :=
  ∀ e env' tm' w' ob', Conc P B G0 W0 n env' tm' w' ob' → K e env' = some r → Q (exOf e) { a with tmps := tm' } w'

theorem exec_sound (hgood : Good P cl) (N : Nat) : ∀ (ac : AC) (c : Code) (env : Env) (a : Act) (w : World) (ob : Nat → OB) (K : KE R) (Q : Exit → Act → World → Prop), okC P n c ac = true → Conc P B G0 W0 n env a.tmps w ob →
    exec cl N ac env K = some r → KEOk P B G0 W0 n a K r Q → c.wp P Q a w := by
  intro ac
  induction ac with
  | skip =>
    intro c env a w ob K Q hok hC h hK
    cases c <;> simp only [okC, Bool.false_eq_true] at hok
    exact wp_skip (hK .normal env a.tmps w ob hC h)
  | ret =>
    intro c env a w ob K Q hok hC h hK
    cases c <;> simp only [okC, Bool.false_eq_true] at hok
    exact wp_ret (hK .ret env a.tmps w ob hC h)
  | exit id =>
    intro c env a w ob K Q hok hC h hK
    cases c <;> simp only [okC, Bool.false_eq_true, beq_iff_eq] at hok
    subst hok
    exact wp_exit (hK (.exit _) env a.tmps w ob hC h)
  | reg live l =>
    intro c env a w ob K Q hok hC h hK
    have hc : ∃ id ops, c = .region id ops false ∧ okOps P n ops 0 l = true := by
      unfold okC at hok
      split at hok
      · exact ⟨_, _, rfl, hok⟩
      · simp at hok
    obtain ⟨id, ops, rfl, hok⟩ := hc
    simp only [exec] at h
    obtain ⟨ob', hC'⟩ := Conc.keep hC live
    have := ops_sound (Q := Q) hgood l 0 _ a w ob' hok hC' h (fun env' tm' w' ob' hC' hk => hK .normal env' tm' w' ob' hC' hk)
    rw [Nat.sub_zero] at this
    refine wp_region ?_
    rw [List.range_eq_range']
    exact this
  | draw live l =>
    intro c env a w ob K Q hok hC h hK
    have hc : ∃ id ops, c = .region id ops true ∧ okD P n ops l = true := by
      unfold okC at hok
      split at hok
      · exact ⟨_, _, rfl, hok⟩
      · simp at hok
    obtain ⟨id, ops, rfl, hok⟩ := hc
    simp only [exec] at h
    obtain ⟨ob', hC'⟩ := Conc.keep hC live
    exact draws_sound hgood hok hC' h (fun env' tm' w' ob' hC' hk => hK .normal env' tm' w' ob' hC' hk)
  | out live x ih =>
    intro c env a w ob K Q hok hC h hK
    simp only [exec] at h
    simp only [okC] at hok
    refine ih c env a w ob _ Q hok hC h (fun e env' tm' w' ob' hC' hk => ?_)
    obtain ⟨ob2, hC2⟩ := Conc.keep hC' live
    exact hK e _ tm' w' ob2 hC2 hk
  | seq x y ihx ihy =>
    intro c env a w ob K Q hok hC h hK
    cases c <;> simp only [okC, Bool.false_eq_true] at hok
    simp only [Bool.and_eq_true] at hok
    simp only [exec] at h
    refine wp_seq (ihx _ env a w ob _ _ hok.1 hC h (fun e env' tm' w' ob' hC' hk => ?_))
    cases e with
    | normal =>
      simp only [seqK] at hk
      exact ihy _ env' { a with tmps := tm' } w' ob' K Q hok.2 hC' hk hK
    | exit id => exact hK (.exit id) env' tm' w' ob' hC' hk
    | ret => exact hK .ret env' tm' w' ob' hC' hk
  | cond c' x y ihx ihy =>
    intro c env a w ob K Q hok hC h hK
    cases c <;> simp only [okC, Bool.false_eq_true] at hok
    simp only [Bool.and_eq_true] at hok
    simp only [exec, Option.bind_eq_some_iff] at h
    obtain ⟨b, hb, h⟩ := h
    have hv := bool_rep hC hok.1.1 hb
    cases b with
    | true => exact wp_cond_true hv (ihx _ env a w ob K Q hok.1.2 hC h hK)
    | false => exact wp_cond_false hv (ihy _ env a w ob K Q hok.2 hC h hK)
  | block id x ih =>
    intro c env a w ob K Q hok hC h hK
    cases c <;> simp only [okC, Bool.false_eq_true] at hok
    simp only [Bool.and_eq_true, beq_iff_eq] at hok
    obtain ⟨rfl, hok⟩ := hok
    simp only [exec] at h
    refine wp_block (ih _ env a w ob _ _ hok hC h (fun e env' tm' w' ob' hC' hk => ?_))
    cases e with
    | normal => exact hK .normal env' tm' w' ob' hC' hk
    | ret => exact hK .ret env' tm' w' ob' hC' hk
    | exit j =>
      simp only [blockK] at hk
      simp only [exOf, Exit.inBlock]
      split at hk
      · rename_i hj _; subst hj; rw [if_pos rfl]; exact hK .normal env' tm' w' ob' hC' hk
      · rename_i hj _; rw [if_neg hj]; exact hK (.exit j) env' tm' w' ob' hC' hk
  | loop live x ih =>
    intro c env a w ob K Q hok hC h hK
    cases c <;> simp only [okC, Bool.false_eq_true] at hok
    rename_i c
    simp only [exec] at h
    obtain ⟨ob', hC'⟩ := Conc.keep hC live
    refine loop_rounds (fun m a' w' => ∃ env ob tm, a' = { a with tmps := tm } ∧ Conc P B G0 W0 n env tm w' ob ∧ iter live (fun env K => exec cl N x env K) K m env = some r) ?_ ?_ N a w ⟨_, ob', a.tmps, rfl, hC', h⟩
    · rintro a' w' ⟨env, ob, tm, _, _, h⟩
      simp [iter] at h
    · rintro m a' w' ⟨env, ob, tm, rfl, hC, h⟩
      simp only [iter] at h
      refine ih _ env { a with tmps := tm } w' ob _ _ hok hC h (fun e env' tm' w2 ob' hC' hk => ?_)
      cases e with
      | normal =>
        obtain ⟨ob2, hC2⟩ := Conc.keep hC' live
        exact ⟨_, ob2, tm', rfl, hC2, hk⟩
      | exit id => exact hK (.exit id) env' tm' w2 ob' hC' hk
      | ret => exact hK .ret env' tm' w2 ob' hC' hk

/-! ### What comes back -/
inductive Each {α β : Type} (R : α → β → Prop) : List α → List β → Prop
  | nil : Each R [] []
  | cons {x : α} {y : β} {xs : List α} {ys : List β} : R x y → Each R xs ys → Each R (x :: xs) (y :: ys)

theorem run_mapM {α β : Type} {f : α → Sem β} {w : World} {as : Array α} {vs : List β} (h : Each (fun x v => (f x).run P w = .ok v w) as.toList vs) : (as.mapM f).run P w = .ok vs.toArray w := by
  rw [Array.mapM_eq_mapM_toList]
  have key : ∀ {l : List α} {vs : List β}, Each (fun x v => (f x).run P w = .ok v w) l vs → (l.mapM f).run P w = .ok vs w := by
    intro l vs h
    induction h with
    | nil => rw [List.mapM_nil]; rfl
    | cons h _ ih =>
      rw [List.mapM_cons]
      simp only [Sem.run_bind, h, Result.andThen_ok, ih]
      rfl
  have := key h
  rw [← bind_pure_comp]
  simp only [Sem.run_bind, this, Result.andThen_ok]
  rfl

def okRes (P : Program) : List ResultVar → List RV → Bool
  | [], [] => true
  | .tmp t :: rs, .t k :: vs => t == k && okRes P rs vs
  | .cell t ty :: rs, .cell k T :: vs => t == k && tyB P ty T && okRes P rs vs
  | .tmp t :: rs, .p k :: vs => t == k && okRes P rs vs
  | _, _ => false

theorem pure_whole' : ∀ {o : Ann}, o.pure = true → o.whole = true
  | .no, _ => rfl
  | .pair a b, h => by
    simp only [Ann.pure, Bool.and_eq_true] at h
    simp only [Ann.whole, Bool.and_eq_true]
    exact ⟨pure_whole' h.1, pure_whole' h.2⟩
  | .hole, h => by simp [Ann.pure] at h
  | .own .., h => by simp [Ann.pure] at h

def runVar (tmps : Array Value) : ResultVar → Sem Value
  | .tmp t => pure (tmps.getD t undef)
  | .cell a t => do loadVar t (← asAddr (tmps.getD a undef))

theorem distinct_append : ∀ (l m : List Nat), distinct (l ++ m) = true → distinct l = true ∧ distinct m = true ∧ ∀ x ∈ l, x ∉ m
  | [], m, h => ⟨rfl, h, by simp⟩
  | x :: l, m, h => by
    simp only [List.cons_append, distinct, Bool.and_eq_true, Bool.not_eq_true', List.any_append, Bool.or_eq_false_iff] at h
    obtain ⟨⟨h1, h2⟩, h3⟩ := h
    obtain ⟨h4, h5, h6⟩ := distinct_append l m h3
    refine ⟨by simp only [distinct, Bool.and_eq_true, Bool.not_eq_true']; exact ⟨h1, h4⟩, h5, fun y hy => ?_⟩
    rcases List.mem_cons.1 hy with rfl | hy
    · intro hm
      have := List.any_eq_false.1 h2 _ hm
      simp at this
    · exact h6 y hy


theorem run_load_loc {t : TypeId} {T : Ty} (hT : TyR P t T) {env : Env} {tm : Array Value} {w : World} {ob : Nat → OB} {k : Nat} (hC : Conc P B G0 W0 n env tm w ob) {o : Ann} {x : den T} (hk : look env k = .loc T o x) :
    ∃ vs c b, (runVar tm (.cell k t)).run P w = .ok (asVal T vs) w ∧ Flat P T w (Gd B G0 ob) B o x vs c ∧ ob k = (b, 0) :: c := by
  have hr := hC.rep k
  rw [hk] at hr
  obtain ⟨b, cur, e, ob', h1, h2, h3, h4, h5⟩ := hr
  refine ⟨cur.toList, ob', b, ?_, h4, h5⟩
  have := run_loadT hT w (b := b) (off := 0) (Flat.len P T h4) (fun j u hj => by
    rw [Nat.zero_add, cell_of_row w b _ cur e (0, 0) h3, ← Array.getElem?_toList]; exact hj)
  simp [runVar, h1, asAddr, this]

theorem retL_sound {env : Env} {tm : Array Value} {w : World} {ob : Nat → OB} (hC : Conc P B G0 W0 n env tm w ob) : ∀ (rvs : List ResultVar) (res : List RV) (es : List E) (ks : List Nat), okRes P rvs res = true → retL env res = some (es, ks) →
    ∃ (vs : List Value) (rob : OB), Each (fun x v => (runVar tm x).run P w = .ok v w) rvs vs ∧ (∀ q ∈ rob, ∃ k ∈ ks, q ∈ ob k) ∧ (distinct ks = true → (blocks rob).Nodup) ∧
      (∀ G' : Nat → Nat → Prop, (∀ b i, b < w.heap.size → Gd B G0 ob b i → G' b i) → (∀ k ∈ ks, ∀ g ∈ blocks (ob k), B ≤ g → g ∉ blocks rob → ∀ i, G' g i) → distinct ks = true → TupRep (ERep1 P w G' B #[] []) es vs rob)
  | [], [], es, ks, _, h => by
    simp only [retL, Option.some.injEq, Prod.mk.injEq] at h
    obtain ⟨rfl, rfl⟩ := h
    exact ⟨[], [], .nil, by simp, fun _ => by simp, fun _ _ _ _ => ⟨rfl, rfl⟩⟩
  | [], _ :: _, _, _, h, _ => by simp [okRes] at h
  | .tmp _ :: _, [], _, _, h, _ => by simp [okRes] at h
  | .cell _ _ :: _, [], _, _, h, _ => by simp [okRes] at h
  | rv :: rvs, re :: res, es, ks, hok, h => by
    simp only [retL, Option.bind_eq_some_iff, Option.some.injEq, Prod.mk.injEq] at h
    obtain ⟨⟨e1, ks1⟩, h1, ⟨es2, ks2⟩, h2, h3, h4⟩ := h
    simp only at h3 h4
    subst h3; subst h4
    have hok2 : okRes P rvs res = true := by
      cases rv <;> cases re <;> simp only [okRes, Bool.and_eq_true, Bool.false_eq_true] at hok
      all_goals exact hok.2
    obtain ⟨vs2, rob2, i1, i2, i3, i4⟩ := retL_sound hC rvs res es2 ks2 hok2 h2
    -- the first
    have first : ∃ v b, (runVar tm rv).run P w = .ok v w ∧ (∀ q ∈ b, ∃ k ∈ ks1, q ∈ ob k) ∧ (blocks b).Nodup ∧
        (∀ G' : Nat → Nat → Prop, (∀ b i, b < w.heap.size → Gd B G0 ob b i → G' b i) → (∀ k ∈ ks1, ∀ g ∈ blocks (ob k), B ≤ g → g ∉ blocks b → ∀ i, G' g i) → ERep1 P w G' B #[] [] e1 v b) := by
      match rv, re, hok, h1 with
      | .tmp t, .t k, hok, h1 =>
        simp only [okRes, Bool.and_eq_true, beq_iff_eq] at hok
        obtain ⟨rfl, _⟩ := hok
        have hrun : (runVar tm (.tmp t)).run P w = .ok (tm.getD t undef) w := rfl
        have hr := hC.rep t
        simp only [retE] at h1
        split at h1
        · rename_i T x hl
          simp only [Option.some.injEq, Prod.mk.injEq] at h1
          obtain ⟨rfl, rfl⟩ := h1
          rw [hl] at hr
          obtain ⟨_, vs, k1, k2⟩ := hr
          refine ⟨_, [], hrun, by simp, by simp, fun G' hG _ => ⟨rfl, vs, Flat.mono P T (fun b i hb h => ⟨hG b i hb h, rfl⟩) (Later.refl _ _) (by simp) k1, k2⟩⟩
        · rename_i wr ed T o xs hl
          split at h1
          · rename_i hp
            simp only [Option.some.injEq, Prod.mk.injEq] at h1
            obtain ⟨rfl, rfl⟩ := h1
            rw [hl] at hr
            refine ⟨_, ob t, hrun, fun q hq => ⟨t, by simp, hq⟩, hC.nodup t, fun G' hG _ => ?_⟩
            exact Flat.mono P (.sl T) (o := .own wr ed o) (fun b i hb h => ⟨hG b i hb h, rfl⟩) (Later.refl _ _) (fun _ _ => rfl) hr
          · simp at h1
        · rename_i s p hl
          simp only [Option.bind_eq_some_iff] at h1
          obtain ⟨hh, hhe, h1⟩ := h1
          split at h1
          · rename_i hp
            simp only [Option.some.injEq, Prod.mk.injEq] at h1
            obtain ⟨rfl, rfl⟩ := h1
            rw [hl] at hr
            obtain ⟨_, hhd, _⟩ := hr
            obtain ⟨cells, b2, k1, k2, k3⟩ := held_row (a := ⟨tm, []⟩) hC hhe hhd
            obtain ⟨rfl, _⟩ := Elems.pure P (o' := .no) hp rfl k2
            refine ⟨_, obOf (tm.getD t undef) (if hh.wr = true then 0 else hh.xs.length * cellsN hh.T), hrun, fun q hq => ⟨s, by simp, k3 q (by simpa using hq)⟩, obOf_nodup _ _, fun G' hG _ => ?_⟩
            have : Flat P (.sl hh.T) w (Gd B G0 ob) B (.own hh.wr hh.e hh.o) hh.xs [tm.getD t undef] (obOf (tm.getD t undef) (if hh.wr = true then 0 else hh.xs.length * cellsN hh.T)) := by
              unfold Flat
              exact ⟨_, cells, [], rfl, k1, k2, by simp⟩
            exact Flat.mono P (.sl hh.T) (o := .own hh.wr hh.e hh.o) (fun b i hb h => ⟨hG b i hb h, rfl⟩) (Later.refl _ _) (fun _ _ => rfl) this
          · simp at h1
        · simp at h1
      | .cell t ty, .cell k T, hok, h1 =>
        simp only [okRes, Bool.and_eq_true, beq_iff_eq] at hok
        obtain ⟨⟨rfl, hT⟩, _⟩ := hok
        simp only [retE] at h1
        split at h1
        · rename_i T' o x hl
          split at h1
          · rename_i hw
            simp only [Option.bind_eq_some_iff, Option.some.injEq, Prod.mk.injEq] at h1
            obtain ⟨y, hy, rfl, rfl⟩ := h1
            have := cast?_some hy; cases this
            obtain ⟨vs, c, b, k1, k2, k3⟩ := run_load_loc (tyB_ok hT) hC hl
            refine ⟨_, [], k1, by simp, by simp, fun G' hG hcell => ⟨rfl, vs, ?_, rfl⟩⟩
            by_cases hp : o.pure = true
            · obtain ⟨_, k4⟩ := Flat.pure P T hp (o' := .no) rfl k2
              exact Flat.mono P T (fun b i hb h => ⟨hG b i hb h, rfl⟩) (Later.refl _ _) (by simp) k4
            · obtain ⟨c2, k4, k5⟩ := Flat.frz P T k2
              refine Flat.shared P T hw (fun b' lim i hb' _ hB => ?_) hG k4
              refine hcell t (by simp [hp]) b' ?_ hB (by simp) i
              rw [k3]; simp only [blocks_cons, List.mem_cons]
              right
              rw [← k5.1]; exact mem_blocks.2 ⟨_, hb'⟩
          · simp at h1
        · simp at h1
      | .tmp t, .p k, hok, h1 =>
        simp only [okRes, Bool.and_eq_true, beq_iff_eq] at hok
        obtain ⟨rfl, _⟩ := hok
        have hrun : (runVar tm (.tmp t)).run P w = .ok (tm.getD t undef) w := rfl
        have hr := hC.rep t
        simp only [retE] at h1
        split at h1
        · rename_i T x hl
          simp only [Option.some.injEq, Prod.mk.injEq] at h1
          obtain ⟨rfl, rfl⟩ := h1
          rw [hl] at hr
          obtain ⟨_, vs, k1, k2⟩ := hr
          refine ⟨_, [], hrun, by simp, by simp, fun G' hG _ => ⟨rfl, vs, Flat.mono P T (fun b i hb h => ⟨hG b i hb h, rfl⟩) (Later.refl _ _) (by simp) k1, k2⟩⟩
        · rename_i wr ed T o xs hl
          split at h1
          · rename_i hp
            simp only [Option.some.injEq, Prod.mk.injEq] at h1
            obtain ⟨rfl, rfl⟩ := h1
            rw [hl] at hr
            have hr' : Flat P (.sl T) w (Gd B G0 ob) B (.own wr ed o) xs [tm.getD t undef] (ob t) := hr
            refine ⟨_, [], hrun, by simp, by simp, fun G' hG hcell => ⟨rfl, [tm.getD t undef], ?_, rfl⟩⟩
            obtain ⟨c2, k4, k5⟩ := Flat.frz P (.sl T) hr'
            refine Flat.shared P (.sl T) (o := .own wr ed o) (show o.whole = true from pure_whole' hp) (fun b' lim i hb' _ hB => ?_) hG k4
            exact hcell t (by simp) b' (by rw [← k5.1]; exact mem_blocks.2 ⟨_, hb'⟩) hB (by simp) i
          · simp at h1
        · rename_i s p hl
          simp only [Option.bind_eq_some_iff] at h1
          obtain ⟨hh, hhe, h1⟩ := h1
          split at h1
          · rename_i hp
            simp only [Option.some.injEq, Prod.mk.injEq] at h1
            obtain ⟨rfl, rfl⟩ := h1
            rw [hl] at hr
            obtain ⟨_, hhd, _⟩ := hr
            obtain ⟨cells, b2, k1, k2, k3⟩ := held_row (a := ⟨tm, []⟩) hC hhe hhd
            have this : Flat P (.sl hh.T) w (Gd B G0 ob) B (.own hh.wr hh.e hh.o) hh.xs [tm.getD t undef] (obOf (tm.getD t undef) (if hh.wr = true then 0 else hh.xs.length * cellsN hh.T) ++ b2) := by
              unfold Flat
              exact ⟨_, cells, b2, rfl, k1, k2, rfl⟩
            refine ⟨_, [], hrun, by simp, by simp, fun G' hG hcell => ⟨rfl, [tm.getD t undef], ?_, rfl⟩⟩
            obtain ⟨c2, k4, k5⟩ := Flat.frz P (.sl hh.T) this
            refine Flat.shared P (.sl hh.T) (o := .own hh.wr hh.e hh.o) (show hh.o.whole = true from pure_whole' hp) (fun b' lim i hb' _ hB => ?_) hG k4
            have hb2 : b' ∈ blocks (obOf (tm.getD t undef) (if hh.wr = true then 0 else hh.xs.length * cellsN hh.T) ++ b2) := by rw [← k5.1]; exact mem_blocks.2 ⟨_, hb'⟩
            obtain ⟨l, hl'⟩ := mem_blocks.1 hb2
            exact hcell s (by simp) b' (mem_blocks.2 ⟨_, k3 _ hl'⟩) hB (by simp) i
          · simp at h1
        · simp at h1
      | .cell _ _, .p _, hok, _ => simp [okRes] at hok
      | .tmp _, .cell _ _, hok, _ => simp [okRes] at hok
      | .cell _ _, .t _, hok, _ => simp [okRes] at hok
    obtain ⟨v, b, j1, j2, j3, j4⟩ := first
    refine ⟨v :: vs2, b ++ rob2, .cons j1 i1, fun q hq => ?_, fun hd => ?_, fun G' hG hc hd => ?_⟩
    · rcases List.mem_append.1 hq with hq | hq
      · obtain ⟨k, m1, m2⟩ := j2 q hq; exact ⟨k, List.mem_append_left _ m1, m2⟩
      · obtain ⟨k, m1, m2⟩ := i2 q hq; exact ⟨k, List.mem_append_right _ m1, m2⟩
    · obtain ⟨d1, d2, d3⟩ := distinct_append _ _ hd
      rw [blocks_append, List.nodup_append]
      refine ⟨j3, i3 d2, fun x hx y hy hxy => ?_⟩
      subst hxy
      obtain ⟨l1, hx⟩ := mem_blocks.1 hx
      obtain ⟨l2, hy⟩ := mem_blocks.1 hy
      obtain ⟨k, m1, m2⟩ := j2 _ hx
      obtain ⟨k', m3, m4⟩ := i2 _ hy
      have := hC.dist k k' x (mem_blocks.2 ⟨_, m2⟩) (mem_blocks.2 ⟨_, m4⟩)
      subst this
      exact d3 k m1 m3
    · obtain ⟨d1, d2, d3⟩ := distinct_append _ _ hd
      refine ⟨v, vs2, b, rob2, rfl, rfl, j4 G' hG (fun k hk g hg hB hgb i => hc k (List.mem_append_left _ hk) g hg hB ?_ i), i4 G' hG (fun k hk g hg hB hgb i => hc k (List.mem_append_right _ hk) g hg hB ?_ i) d2⟩
      · rw [blocks_append, List.mem_append]
        rintro (hx | hx)
        · exact hgb hx
        · obtain ⟨l, hx⟩ := mem_blocks.1 hx
          obtain ⟨k', m3, m4⟩ := i2 _ hx
          have := hC.dist k k' g hg (mem_blocks.2 ⟨_, m4⟩)
          subst this
          exact d3 k hk m3
      · rw [blocks_append, List.mem_append]
        rintro (hx | hx)
        · obtain ⟨l, hx⟩ := mem_blocks.1 hx
          obtain ⟨k', m3, m4⟩ := j2 _ hx
          have := hC.dist k' k g (mem_blocks.2 ⟨_, m4⟩) hg
          subst this
          exact d3 k' m3 hk
        · exact hgb hx

end
end Go.Fw
