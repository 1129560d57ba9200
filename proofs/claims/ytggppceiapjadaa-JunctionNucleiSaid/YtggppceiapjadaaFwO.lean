/- Soundness: regions whose order is open. -/
import Derived.Test.YtggppceiapjadaaFwV
import Derived.Test.YtggppceiapjadaaFwBind
import Derived.Test.YtggppceiapjadaaFwS22
import Derived.Orders
set_option linter.unusedVariables false
set_option linter.unusedSimpArgs false
namespace Go.Fw
open Go Go.RowKit

abbrev Ch := List (Nat × E)
def Ch.ks (δ : Ch) : List Nat := δ.map (·.1)

theorem look_app_mem {δ : Ch} {env : Env} {k : Nat} (h : k ∈ Ch.ks δ) : look (δ ++ env) k = look δ k := by
  induction δ with
  | nil => simp [Ch.ks] at h
  | cons q δ ih =>
    obtain ⟨j, e⟩ := q
    rw [List.cons_append, look_cons, look_cons]
    split
    · rfl
    · rename_i hj
      apply ih
      simp only [Ch.ks, List.map_cons, List.mem_cons] at h
      rcases h with h | h
      · exact absurd h.symm hj
      · exact h

theorem look_app_not {δ : Ch} {env : Env} {k : Nat} (h : k ∉ Ch.ks δ) : look (δ ++ env) k = look env k := by
  induction δ with
  | nil => rfl
  | cons q δ ih =>
    obtain ⟨j, e⟩ := q
    simp only [Ch.ks, List.map_cons, List.mem_cons, not_or] at h
    rw [List.cons_append, look_cons, if_neg (fun e => h.1 e.symm)]
    exact ih h.2

/-- the state that the changes of the listed ones make -/
def Inv (D : Nat → Ch) (env0 : Env) (S : Nat → Prop) (env : Env) : Prop :=
  ∀ k, (∃ m, S m ∧ k ∈ (D m).ks ∧ (∀ m', m < m' → S m' → k ∉ (D m').ks) ∧ look env k = look (D m) k) ∨ ((∀ m, S m → k ∉ (D m).ks) ∧ look env k = look env0 k)

theorem Inv.start {D : Nat → Ch} {env0 : Env} {S : Nat → Prop} (h : ∀ m, ¬ S m) : Inv D env0 S env0 := fun _ => .inr ⟨fun m hm => absurd hm (h m), rfl⟩

theorem Inv.add {D : Nat → Ch} {env0 env : Env} {S : Nat → Prop} {i : Nat} (h : Inv D env0 S env) (hi : ∀ k ∈ (D i).ks, ∀ m', i < m' → S m' → k ∉ (D m').ks) : Inv D env0 (fun m => S m ∨ m = i) (D i ++ env) := by
  intro k
  by_cases hk : k ∈ (D i).ks
  · refine .inl ⟨i, .inr rfl, hk, fun m' hm hs => ?_, look_app_mem hk⟩
    rcases hs with hs | rfl
    · exact hi k hk m' hm hs
    · omega
  · rw [look_app_not hk]
    rcases h k with ⟨m, h1, h2, h3, h4⟩ | ⟨h1, h2⟩
    · refine .inl ⟨m, .inl h1, h2, fun m' hm hs => ?_, h4⟩
      rcases hs with hs | rfl
      · exact h3 m' hm hs
      · exact hk
    · refine .inr ⟨fun m hm => ?_, h2⟩
      rcases hm with hm | rfl
      · exact h1 m hm
      · exact hk

theorem Inv.set {D : Nat → Ch} {env0 env : Env} {S S' : Nat → Prop} (h : Inv D env0 S env) (hs : ∀ m, S m ↔ S' m) : Inv D env0 S' env := by
  intro k
  rcases h k with ⟨m, h1, h2, h3, h4⟩ | ⟨h1, h2⟩
  · exact .inl ⟨m, (hs m).1 h1, h2, fun m' hm hs' => h3 m' hm ((hs m').2 hs'), h4⟩
  · exact .inr ⟨fun m hm => h1 m ((hs m).2 hm), h2⟩

theorem Inv.ext {D : Nat → Ch} {env0 e1 e2 : Env} {S : Nat → Prop} (h : Inv D env0 S e1) (he : ∀ k, look e2 k = look e1 k) : Inv D env0 S e2 := by
  intro k
  rcases h k with ⟨m, h1, h2, h3, h4⟩ | ⟨h1, h2⟩
  · exact .inl ⟨m, h1, h2, h3, by rw [he]; exact h4⟩
  · exact .inr ⟨h1, by rw [he]; exact h2⟩

theorem Inv.same {D : Nat → Ch} {env0 e1 e2 : Env} {S S' : Nat → Prop} {k : Nat} (h : Inv D env0 S e1) (h' : Inv D env0 S' e2) (hk : ∀ m, k ∈ (D m).ks → (S m ↔ S' m)) : look e1 k = look e2 k := by
  rcases h k with ⟨m, h1, h2, h3, h4⟩ | ⟨h1, h2⟩
  · rcases h' k with ⟨m', h1', h2', h3', h4'⟩ | ⟨h1', _⟩
    · have : m = m' := by
        rcases Nat.lt_trichotomy m m' with hl | hl | hl
        · exact absurd h2' (h3 m' hl ((hk m' h2').2 h1'))
        · exact hl
        · exact absurd h2 (h3' m hl ((hk m h2).1 h1))
      subst this
      rw [h4, h4']
    · exact absurd h2 (h1' m ((hk m h2).1 h1))
  · rcases h' k with ⟨m', h1', h2', _, _⟩ | ⟨_, h2'⟩
    · exact absurd h2' (h1 m' ((hk m' h2').2 h1'))
    · rw [h2, h2']

/-! ### One operation -/
section
variable {cl : Cal} {env : Env} {R : Type} {K : Kont R}

theorem free_putO {d : Option Nat} {e : E} (h : free env d = true) : putO env d e = one d e ++ env := by
  cases d with
  | none => rfl
  | some d =>
    simp only [free, Bool.not_eq_true'] at h
    simp only [putO, put, h, one, leadsOff]
    rfl

theorem wrR_step {d : Option Nat} {op : AOp} {g : Option (Nat × Bool)} {δ : Ch} (h : (wrR cl d op).run (look env) = some δ) (hf : free env d = true) : step cl ⟨d, op, g⟩ env K = K (δ ++ env) := by
  have pure : ((valE cl d op).bind fun e => Rd.ok (one d e)).run (look env) = some δ → step cl ⟨d, op, g⟩ env K = K (δ ++ env) := by
    intro h
    rw [Rd.run_bind] at h
    obtain ⟨e, he, h⟩ := Option.bind_eq_some_iff.1 h
    cases h
    rw [valE_step (i := ⟨d, op, g⟩) he, free_putO hf]
  cases op
  case store T a x =>
    simp only [wrR] at h
    rw [Rd.run_bind, val_run] at h
    obtain ⟨y, hy, h⟩ := Option.bind_eq_some_iff.1 h
    rw [Rd.run_bind, Rd.run_of] at h
    obtain ⟨z, hz, h⟩ := Option.bind_eq_some_iff.1 h
    rw [Rd.run_bind, ent_run] at h
    have h := notDead_bind h
    have hpub := pub_val hy
    have hx := valOf_some hy
    have himm : imm env (ent env x) = some y := by rw [hx]; rfl
    have loc : ∀ s p, locPlace env a = some (s, p) → (stoR T z s p (look env s)).run (look env) = some δ → step cl ⟨d, .store T a x, g⟩ env K = K (δ ++ env) := by
      intro s p h0 h
      have h1 : ∀ T0 o x0, look env s = .loc T0 o x0 → (scalarT T || (annAt o p).pure) = true → step cl ⟨d, .store T a x, g⟩ env K = (setP T0 p x0 ⟨T, z⟩).bind fun x1 => K ((s, .loc T0 o x1) :: env) := by
        intro T0 o x0 hl hsc
        unfold locPlace at h0
        by_cases hs1 : scalarT T = true
        case neg =>
          have hp : (annAt o p).pure = true := by simpa [hs1] using hsc
          cases he : ent env a <;> rw [he] at h0 <;> first | (exfalso; simp at h0; done) | skip
          · simp only [step, he, locPlace, h0, hl, if_neg hs1, hx, hpub, Option.bind_some, hz, hp]
          · simp only [Option.some.injEq, Prod.mk.injEq] at h0
            obtain ⟨rfl, rfl⟩ := h0
            simp only [step, he, locPlace, hl, if_neg hs1, hx, hpub, Option.bind_some, hz, hp]
        replace hsc := hs1
        cases he : ent env a <;> rw [he] at h0 <;> first | (exfalso; simp at h0; done) | skip
        · simp only [step, he, locPlace, h0, hl, hsc, if_true, himm, Option.bind_some, hz]
        · simp only [Option.some.injEq, Prod.mk.injEq] at h0
          obtain ⟨rfl, rfl⟩ := h0
          simp only [step, he, locPlace, hl, hsc, if_true, himm, Option.bind_some, hz]
      cases hl : look env s <;> rw [hl] at h <;> simp only [stoR, Rd.run_no] at h <;> first | (exfalso; simp at h; done) | skip
      rename_i T0 o x0
      rw [Rd.run_if] at h
      split at h
      · rename_i hsc
        rw [Rd.run_bind, Rd.run_of] at h
        obtain ⟨x1, hx1, h⟩ := Option.bind_eq_some_iff.1 h
        cases h
        rw [h1 T0 o x0 hl hsc, hx1]
        rfl
      · simp [Rd.run_no] at h
    split at h
    · rename_i s j q he
      rw [Rd.run_bind, Rd.run_get] at h
      have h := notDead_bind h
      cases hl : look env s <;> rw [hl] at h <;> simp only [stoH, Rd.run_no] at h <;> first | (exfalso; simp at h; done) | skip
      rename_i wr ed T0 o xs
      cases wr
      · simp [Rd.run_no] at h
      · simp only [Rd.run_ite] at h
        split at h
        · rename_i hj
          rw [Rd.run_bind, Rd.run_of] at h
          obtain ⟨u, hu, h⟩ := Option.bind_eq_some_iff.1 h
          rw [Rd.run_if] at h
          split at h
          · rename_i ho
            cases h
            simp only [step, he, hl, hpub, Option.bind_some, hz, if_pos hj, hu, if_pos ho]
            rfl
          · simp [Rd.run_no] at h
        · simp [Rd.run_no] at h
    · rename_i s p he
      rw [Rd.run_bind, Rd.run_get] at h
      exact loc s p (by simp only [locPlace, he]) (notDead_bind h)
    · rename_i T0 o x0 he
      split at h
      · rename_i k _ _ _
        have hl : look env k = .loc T0 o x0 := he
        rw [he, ← hl] at h
        exact loc k [] (by simp only [locPlace, he, Od.slot, Option.map_some]) h
      · simp [Rd.run_no] at h
    · simp [Rd.run_no] at h
  case sliceL T x lo hi mx =>
    simp only [wrR] at h
    rw [Rd.run_bind, ent_run] at h
    have h := notDead_bind h
    split at h
    · rename_i s p he
      split at h
      · rw [Rd.run_bind, Rd.run_get] at h
        have h := notDead_bind h
        split at h
        · rename_i wr ed T' o xs hl
          rw [Rd.run_if] at h
          split at h
          · rename_i ho
            rw [Rd.run_bind] at h
            obtain ⟨v, hv, h⟩ := Option.bind_eq_some_iff.1 h
            cases h
            unfold slcR at hv
            rw [Rd.run_bind, optInt_run] at hv
            obtain ⟨q1, hq1, hv⟩ := Option.bind_eq_some_iff.1 hv
            rw [Rd.run_bind, optInt_run] at hv
            obtain ⟨q2, hq2, hv⟩ := Option.bind_eq_some_iff.1 hv
            rw [Rd.run_bind, optInt_run] at hv
            obtain ⟨q3, hq3, hv⟩ := Option.bind_eq_some_iff.1 hv
            rw [Rd.run_bind, Rd.run_of] at hv
            obtain ⟨ys, hys, hv⟩ := Option.bind_eq_some_iff.1 hv
            rw [Rd.run_ite] at hv
            split at hv
            · rename_i hb
              cases hv
              have hpub : pub env x = some (freeze env s, ⟨.sl T', xs⟩) := by simp [pub, he, imm, heldAt, hl, ho, homeOf]
              have hfr : freeze env s = (s, .own false ed T' o.frz xs) :: env := by simp [freeze, hl]
              have hf2 : free ((s, .own false ed T' o.frz xs) :: env) d = true := by
                cases d with
                | none => rfl
                | some d =>
                  simp only [free] at hf ⊢
                  rw [look_cons]
                  by_cases hsd : s = d
                  · subst hsd; rw [hl] at hf; simp [E.home] at hf
                  · rw [if_neg hsd]; exact hf
              simp only [step, hq1, hq2, hq3, Option.bind_some, hpub, hys, if_pos hb, hfr, free_putO hf2, List.append_assoc, List.cons_append, List.nil_append]
            · simp [Rd.run_no] at hv
          · simp [Rd.run_no] at h
        · simp [Rd.run_no] at h
      · simp [Rd.run_no] at h
    · exact pure h
  all_goals exact pure h

end

/-! ### What is checked of the order -/
def inB (l : List Nat) (k : Nat) : Bool := l.any fun j => j == k
theorem inB_iff {l : List Nat} {k : Nat} : inB l k = true ↔ k ∈ l := by simp [inB]

def okEdge (ops : Array Oper) (l : List DI) (j : Nat) (i : DI) : Bool :=
  match ops[j]? with
  | some o => (o.after.toList.all fun e => !Region.binds .any e || decide (e.on < j)) &&
      i.pre.all fun p => decide (p < j) && o.after.toList.any fun e => Region.binds .any e && (e.on == p || (match l[e.on]? with | some u => inB u.pre p | none => false))
  | none => false

def okPair (i j : Nat) (a b : DI) : Bool := i == j || inB a.pre j || inB b.pre i || (!a.piv && !b.piv && b.wr.all fun k => inB a.hide k && !inB a.wr k)

def okD (P : Program) (n : Nat) (ops : Array Oper) (l : List DI) : Bool :=
  P.follows .mixedOrders && okOps P n ops 0 (l.map (·.ai)) &&
  (l.zipIdx.all fun q => okEdge ops l q.2 q.1 && (match q.1.ai.dst with | some d => inB q.1.wr d | none => true) && (!q.1.piv || q.1.ai.guard.isNone)) &&
  l.zipIdx.all fun q => l.zipIdx.all fun u => okPair q.2 u.2 q.1 u.1

theorem zipIdx_get {α : Type} {l : List α} {i : Nat} {x : α} (h : l[i]? = some x) : (x, i) ∈ l.zipIdx := by
  rw [List.mem_zipIdx_iff_getElem?]; exact h

theorem okOps_get {P : Program} {n : Nat} {ops : Array Oper} : ∀ (l : List AI) (j : Nat), okOps P n ops j l = true → j + l.length = ops.size ∧ ∀ (m : Nat) (i : AI), l[m]? = some i → ∃ o, ops[j + m]? = some o ∧ okGuard ops o.guard i.guard = true ∧ okAI P n o i = true
  | [], j, h => by simp only [okOps, beq_iff_eq] at h; exact ⟨by simpa using h, fun m i hm => by simp at hm⟩
  | i :: r, j, h => by
    simp only [okOps, Bool.and_eq_true] at h
    obtain ⟨h1, h2⟩ := h
    obtain ⟨h3, h4⟩ := okOps_get r (j + 1) h2
    refine ⟨by simp only [List.length_cons]; omega, fun m i' hm => ?_⟩
    cases m with
    | zero =>
      simp only [List.getElem?_cons_zero, Option.some.injEq] at hm
      subst hm
      split at h1
      · rename_i o ho
        simp only [Bool.and_eq_true] at h1
        exact ⟨o, by simpa using ho, h1.1, h1.2⟩
      · simp at h1
    | succ m =>
      simp only [List.getElem?_cons_succ] at hm
      obtain ⟨o, ho, h5⟩ := h4 m i' hm
      exact ⟨o, by rw [← ho]; congr 1; omega, h5⟩

theorem countP_lt {α : Type} {p q : α → Bool} : ∀ {l : List α}, (∀ x ∈ l, p x = true → q x = true) → (∃ x ∈ l, q x = true ∧ p x = false) → l.countP p < l.countP q
  | [], _, h => by obtain ⟨x, hx, _⟩ := h; simp at hx
  | y :: l, h1, h2 => by
    have hle : l.countP p ≤ l.countP q := List.countP_mono_left fun x hx => h1 x (List.mem_cons_of_mem _ hx)
    rw [List.countP_cons, List.countP_cons]
    by_cases hy : q y = true ∧ p y = false
    · simp only [hy.1, hy.2, if_true, Bool.false_eq_true, if_false]; omega
    · have h3 : ∃ x ∈ l, q x = true ∧ p x = false := by
        obtain ⟨x, hx, hq⟩ := h2
        rcases List.mem_cons.1 hx with rfl | hx
        · exact absurd hq hy
        · exact ⟨x, hx, hq⟩
      have := countP_lt (fun x hx => h1 x (List.mem_cons_of_mem _ hx)) h3
      have h4 : (if p y = true then 1 else 0) ≤ (if q y = true then 1 else 0) := by
        split
        · rw [if_pos (h1 y (by simp) (by assumption))]; exact Nat.le_refl _
        · split <;> omega
      omega

/-! ### The text order -/
section
variable {P : Program} {B : Nat} {G0 : Nat → Nat → Prop} {W0 : World} {n : Nat} {cl : Cal}
variable {R : Type} {r : R} {Q : Exit → Act → World → Prop}

/-- what one operation did -/
def Did (cl : Cal) (i : DI) (L : Nat → E) (δ : Ch) : Prop :=
  match i.ai.guard with
  | none => (wrR cl i.ai.dst i.ai.op).run (hid i.hide L) = some δ
  | some (s, pol) => (hid i.hide L s = .v .bool pol ∧ (wrR cl i.ai.dst i.ai.op).run (hid i.hide L) = some δ) ∨
      ((hid i.hide L s = .v .bool (!pol) ∨ hid i.hide L s = .und) ∧ δ = one i.ai.dst .und)

/-- the states ahead of each operation, in text order, with what each one writes -/
structure Text (cl : Cal) (l : List DI) (env0 : Env) (D : Nat → Ch) (T : Nat → Env) : Prop where
  start : T 0 = env0
  next : ∀ m k, look (T (m + 1)) k = look (D m ++ T m) k
  at' : ∀ (m : Nat) (i : DI), l[m]? = some i → i.piv = false → Did cl i (look (T m)) (D m) ∧ free (T m) i.ai.dst = true ∧ ∀ k ∈ (D m).ks, k ∈ i.wr
  piv : ∀ (m : Nat) (i : DI), l[m]? = some i → i.piv = true → step cl i.ai (T m) (some : Kont Env) = some (T (m + 1))
  out : ∀ m, l[m]? = none → D m = []

theorem look_app_ext {δ : Ch} {e1 e2 : Env} (h : ∀ k, look e1 k = look e2 k) (k : Nat) : look (δ ++ e1) k = look (δ ++ e2) k := by
  by_cases hk : k ∈ Ch.ks δ
  · rw [look_app_mem hk, look_app_mem hk]
  · rw [look_app_not hk, look_app_not hk, h]

theorem Text.cons {l : List DI} {i : DI} {env0 env' : Env} {δ : Ch} {D : Nat → Ch} {T : Nat → Env} (ht : Text cl l (δ ++ env') D T) (he : ∀ k, look env' k = look env0 k) (hp : i.piv = false) (hd : Did cl i (look env0) δ) (hw : okW i env0 δ = true) :
    Text cl (i :: l) env0 (fun m => match m with | 0 => δ | m + 1 => D m) (fun m => match m with | 0 => env0 | m + 1 => T m) := by
  simp only [okW, Bool.and_eq_true, List.all_eq_true] at hw
  refine ⟨rfl, fun m k => ?_, fun m i' hm hpi => ?_, fun m i' hm hpi => ?_, fun m hm => ?_⟩
  · cases m with
    | zero => simp only [ht.start]; exact look_app_ext he k
    | succ m => exact ht.next m k
  · cases m with
    | zero =>
      simp only [List.getElem?_cons_zero, Option.some.injEq] at hm
      subst hm
      refine ⟨hd, hw.1, fun k hk => ?_⟩
      obtain ⟨q, hq, rfl⟩ := List.mem_map.1 hk
      exact inB_iff.1 (hw.2 q hq)
    | succ m => exact ht.at' m i' (by simpa using hm) hpi
  · cases m with
    | zero =>
      simp only [List.getElem?_cons_zero, Option.some.injEq] at hm
      subst hm
      rw [hp] at hpi; cases hpi
    | succ m => exact ht.piv m i' (by simpa using hm) hpi
  · cases m with
    | zero => simp at hm
    | succ m => exact ht.out m (by simpa using hm)

/-- all that a state says, as changes of another -/
def allOf (env' env : Env) : Ch := env' ++ env.map fun q => (q.1, look env' q.1)

theorem look_allOf (env' env : Env) (k : Nat) : look (allOf env' env ++ env) k = look env' k := by
  unfold allOf
  by_cases h1 : k ∈ Ch.ks env'
  · rw [List.append_assoc, look_app_mem h1]
  · rw [List.append_assoc, look_app_not h1]
    have hd : look env' k = .dead := by
      have := look_app_not (env := []) h1
      rw [List.append_nil] at this
      exact this
    have key : ∀ (e2 : Env), look (e2.map (fun q => (q.1, look env' q.1)) ++ env) k = if k ∈ Ch.ks e2 then look env' k else look env k := by
      intro e2
      induction e2 with
      | nil => simp [Ch.ks]
      | cons q e2 ih =>
        rw [List.map_cons, List.cons_append, look_cons]
        by_cases hq : q.1 = k
        · rw [if_pos hq, hq]; simp [Ch.ks, hq]
        · have hk : k ∈ Ch.ks (q :: e2) ↔ k ∈ Ch.ks e2 := by simp [Ch.ks, Ne.symm hq]
          rw [if_neg hq, ih]
          by_cases h3 : k ∈ Ch.ks e2
          · rw [if_pos h3, if_pos (hk.2 h3)]
          · rw [if_neg h3, if_neg (fun h => h3 (hk.1 h))]
    rw [key]
    split
    · rfl
    · rename_i h2
      have := look_app_not (env := []) h2
      rw [List.append_nil] at this
      rw [hd, this]; rfl

theorem Text.consP {l : List DI} {i : DI} {env0 env' : Env} {D : Nat → Ch} {T : Nat → Env} (ht : Text cl l env' D T) (hp : i.piv = true) (hs : step cl i.ai env0 (some : Kont Env) = some env') :
    Text cl (i :: l) env0 (fun m => match m with | 0 => allOf env' env0 | m + 1 => D m) (fun m => match m with | 0 => env0 | m + 1 => T m) := by
  refine ⟨rfl, fun m k => ?_, fun m i' hm hpi => ?_, fun m i' hm hpi => ?_, fun m hm => ?_⟩
  · cases m with
    | zero => simp only [ht.start]; exact (look_allOf env' env0 k).symm
    | succ m => exact ht.next m k
  · cases m with
    | zero =>
      simp only [List.getElem?_cons_zero, Option.some.injEq] at hm
      subst hm
      rw [hp] at hpi; cases hpi
    | succ m => exact ht.at' m i' (by simpa using hm) hpi
  · cases m with
    | zero =>
      simp only [List.getElem?_cons_zero, Option.some.injEq] at hm
      subst hm
      simp only [ht.start]; exact hs
    | succ m => exact ht.piv m i' (by simpa using hm) hpi
  · cases m with
    | zero => simp at hm
    | succ m => exact ht.out m (by simpa using hm)

theorem draws_text {K : Kont R} : ∀ (l : List DI) (env0 : Env), draws cl l env0 K = some r → ∃ D T, Text cl l env0 D T ∧ K (T l.length) = some r
  | [], env0, h => ⟨fun _ => [], fun _ => env0, ⟨rfl, fun _ _ => rfl, fun m i hm => by simp at hm, fun m i hm => by simp at hm, fun _ _ => rfl⟩, h⟩
  | i :: l, env0, h => by
    simp only [draws] at h
    cases hpv : i.piv with
    | true =>
      rw [hpv] at h
      simp only at h
      rw [step_bind] at h
      obtain ⟨env', h1, h2⟩ := Option.bind_eq_some_iff.1 h
      obtain ⟨D, T, ht, hk⟩ := draws_text l _ h2
      exact ⟨_, _, ht.consP hpv h1, hk⟩
    | false =>
    rw [hpv] at h
    simp only at h
    have yes : ∀ env', (∀ k, look env' k = look env0 k) → (∀ δ, (wrR cl i.ai.dst i.ai.op).run (hid i.hide (look env0)) = some δ → Did cl i (look env0) δ) →
        ((wrR cl i.ai.dst i.ai.op).runK (hid i.hide (look env0)) fun δ => match okW i env0 δ with
          | true => draws cl l (δ ++ env') K
          | false => none) = some r → ∃ D T, Text cl (i :: l) env0 D T ∧ K (T (i :: l).length) = some r := by
      intro env' he hd h
      rw [Rd.eqn] at h
      obtain ⟨δ, hδ, h⟩ := Option.bind_eq_some_iff.1 h
      split at h
      · rename_i hc
        obtain ⟨D, T, ht, hk⟩ := draws_text l _ h
        exact ⟨_, _, ht.cons he hpv (hd δ hδ) hc, hk⟩
      · simp at h
    have nope : ∀ env', (∀ k, look env' k = look env0 k) → Did cl i (look env0) (one i.ai.dst .und) →
        (match okW i env0 (one i.ai.dst .und) with
          | true => draws cl l (one i.ai.dst .und ++ env') K
          | false => none) = some r → ∃ D T, Text cl (i :: l) env0 D T ∧ K (T (i :: l).length) = some r := by
      intro env' he hd h
      split at h
      · rename_i hc
        obtain ⟨D, T, ht, hk⟩ := draws_text l _ h
        exact ⟨_, _, ht.cons he hpv hd hc, hk⟩
      · simp at h
    cases hg : i.ai.guard with
    | none =>
      rw [hg] at h
      exact yes env0 (fun _ => rfl) (fun δ hδ => by simp only [Did, hg]; exact hδ) h
    | some q =>
      obtain ⟨s, pol⟩ := q
      rw [hg] at h
      simp only at h
      split at h
      · rename_i b hs
        have hls : look env0 s = .v .bool b := by
          unfold hid at hs
          split at hs
          · cases hs
          · exact hs
        have he : ∀ k, look ((s, .v .bool b) :: env0) k = look env0 k := by
          intro k
          rw [look_cons]
          split
          · rename_i e; subst e; exact hls.symm
          · rfl
        have y2 : b = pol → ∀ δ, (wrR cl i.ai.dst i.ai.op).run (hid i.hide (look env0)) = some δ → Did cl i (look env0) δ := by
          intro e δ hδ; simp only [Did, hg]; exact .inl ⟨by rw [hs, e], hδ⟩
        have n2 : b = !pol → Did cl i (look env0) (one i.ai.dst .und) := by
          intro e; simp only [Did, hg]; exact .inr ⟨.inl (by rw [hs, e]), trivial⟩
        cases b with
        | true =>
          simp only [brB] at h
          cases pol with
          | true => exact yes _ he (y2 rfl) h
          | false => exact nope _ he (n2 rfl) h
        | false =>
          simp only [brB] at h
          cases pol with
          | true => exact nope _ he (n2 rfl) h
          | false => exact yes _ he (y2 rfl) h
      · rename_i hs
        exact nope env0 (fun _ => rfl) (by simp only [Did, hg]; exact .inr ⟨.inr hs, trivial⟩) h
      · simp at h

theorem Text.inv {l : List DI} {env0 : Env} {D : Nat → Ch} {T : Nat → Env} (h : Text cl l env0 D T) : ∀ m, Inv D env0 (fun j => j < m) (T m)
  | 0 => by rw [h.start]; exact Inv.start fun m => by omega
  | m + 1 => by
    refine Inv.ext ?_ (h.next m)
    refine (Inv.add (i := m) (h.inv m) (fun k _ m' h1 h2 => by omega)).set fun j => ?_
    constructor
    · rintro (h | rfl) <;> omega
    · intro h; by_cases hj : j = m
      · exact .inr hj
      · exact .inl (by omega)

theorem hid_sub {l : List Nat} {L L' : Nat → E} (h : ∀ k, k ∉ l → L k = .dead ∨ L' k = L k) : Sub (hid l L) L' := by
  intro k
  unfold hid
  split
  · exact .inl rfl
  · rename_i hk
    exact h k (fun hm => by rw [← inB_iff] at hm; simp only [inB] at hm; rw [hm] at hk; cases hk)

theorem any_sound (hgood : Good P cl) {ops : Array Oper} {l : List DI} (hok : okD P n ops l = true) {env0 : Env} {D : Nat → Ch} {T : Nat → Env} (ht : Text cl l env0 D T) :
    ∀ (fuel : Nat) (listed : Array Bool) (env : Env) (a : Act) (w : World) (ob : Nat → OB), listed.size = ops.size → (List.range ops.size).countP (fun i => !listed.getD i true) ≤ fuel →
      (∀ (i : Nat) (di : DI), l[i]? = some di → listed.getD i false = true → ∀ p ∈ di.pre, listed.getD p false = true) →
      Inv D env0 (fun m => listed.getD m false = true) env → Conc P B G0 W0 n env a.tmps w ob →
      (∀ env' tm' w' ob', Conc P B G0 W0 n env' tm' w' ob' → (∀ k, look env' k = look (T l.length) k) → Q .normal { a with tmps := tm' } w') →
      wpAny P .any ops Q fuel listed a w := by
  simp only [okD, Bool.and_eq_true, List.all_eq_true] at hok
  obtain ⟨⟨⟨_, h1⟩, h2⟩, h3⟩ := hok
  obtain ⟨hlen, hget⟩ := okOps_get _ _ h1
  simp only [Nat.zero_add, List.length_map] at hlen hget
  have hedge : ∀ (i : Nat) (di : DI), l[i]? = some di → ∃ o, ops[i]? = some o ∧ okGuard ops o.guard di.ai.guard = true ∧ okAI P n o di.ai = true ∧ (∀ e ∈ o.after, Region.binds .any e = true → e.on < i) ∧
      (∀ p ∈ di.pre, p < i ∧ ∃ e ∈ o.after, Region.binds .any e = true ∧ (e.on = p ∨ ∃ u, l[e.on]? = some u ∧ p ∈ u.pre)) ∧ (∀ d, di.ai.dst = some d → d ∈ di.wr) ∧ (di.piv = true → di.ai.guard = none) := by
    intro i di hi
    obtain ⟨o, ho, hg, ha⟩ := hget i di.ai (by rw [List.getElem?_map, hi]; rfl)
    have := h2 _ (zipIdx_get hi)
    simp only [Bool.and_eq_true] at this
    obtain ⟨⟨he, hd⟩, hpg⟩ := this
    simp only [okEdge, ho, Bool.and_eq_true, List.all_eq_true, Bool.or_eq_true, Bool.not_eq_true', decide_eq_true_eq, List.any_eq_true, Array.mem_toList_iff] at he
    refine ⟨o, ho, hg, ha, fun e hm hb => ?_, fun p hp => ⟨(he.2 p hp).1, ?_⟩, fun d hd' => ?_, fun hp => by rw [hp] at hpg; simpa using hpg⟩
    · rcases he.1 e hm with h | h
      · rw [h] at hb; cases hb
      · exact h
    · obtain ⟨e, hm, hb, hc⟩ := (he.2 p hp).2
      refine ⟨e, hm, hb, ?_⟩
      rcases hc with hc | hc
      · exact .inl (by simpa using hc)
      · right
        split at hc
        · rename_i u hu; exact ⟨u, hu, inB_iff.1 hc⟩
        · simp at hc
    · rw [hd'] at hd; exact inB_iff.1 hd
  have hpair : ∀ (i j : Nat) (di dj : DI), l[i]? = some di → l[j]? = some dj → i ≠ j → j ∉ di.pre → i ∉ dj.pre → di.piv = false ∧ dj.piv = false ∧ ∀ k ∈ dj.wr, k ∈ di.hide ∧ k ∉ di.wr := by
    intro i j di dj hi hj hne hp1 hp2
    have := h3 _ (zipIdx_get hi) _ (zipIdx_get hj)
    simp only [okPair, Bool.or_eq_true, beq_iff_eq, List.all_eq_true, Bool.and_eq_true, Bool.not_eq_true', inB_iff] at this
    rcases this with ((h | h) | h) | h
    · exact absurd h hne
    · exact absurd h hp1
    · exact absurd h hp2
    · refine ⟨h.1.1, h.1.2, fun k hk => ⟨(h.2 k hk).1, fun hw => ?_⟩⟩
      have := (h.2 k hk).2
      rw [← inB_iff, this] at hw; cases hw
  intro fuel
  induction fuel with
  | zero =>
    intro listed env a w ob hsz hcount hcl hinv hC hK
    have hno : ∀ j, j < ops.size → listed.getD j true = true := by
      intro j hj
      have := List.countP_eq_zero.1 (Nat.le_zero.1 hcount) j (List.mem_range.2 hj)
      simpa using this
    refine ⟨?_, hK env a.tmps w ob hC fun k => hinv.same (ht.inv l.length) fun m hm => ?_⟩
    · cases hr : Region.ready .any ops listed with
      | nil => rfl
      | cons j js =>
        have hj : j ∈ Region.ready .any ops listed := by rw [hr]; simp
        obtain ⟨h4, o, ho, _⟩ := mem_ready.1 hj
        rw [hno j (Array.getElem?_eq_some_iff.1 ho).1] at h4; cases h4
    · have hlt : m < l.length := by
        rcases Nat.lt_or_ge m l.length with h | h
        · exact h
        · rw [ht.out m (List.getElem?_eq_none h)] at hm; simp [Ch.ks] at hm
      refine ⟨fun _ => hlt, fun _ => ?_⟩
      have := hno m (by omega)
      have hms : m < listed.size := by omega
      simpa [hms] using this
  | succ fuel ih =>
    intro listed env a w ob hsz hcount hcl hinv hC hK
    refine ⟨fun hr => ?_, fun i hi => ?_⟩
    · have hall : ∀ N j, j < N → j < ops.size → listed.getD j true = true := by
        intro N
        induction N with
        | zero => intro j hj; omega
        | succ N ihN =>
          intro j hj hjs
          by_cases hl : listed.getD j true = true
          · exact hl
          · exfalso
            obtain ⟨o, ho, _, _, he, _, _, _⟩ := hedge j (l[j]'(by omega)) (List.getElem?_eq_getElem (by omega))
            have : j ∈ Region.ready .any ops listed := mem_ready.2 ⟨by simpa using hl, o, ho, fun e hm hb => by
              have h5 := he e hm hb
              have h6 := ihN e.on (by omega) (by omega)
              have : e.on < listed.size := by omega
              simpa [this] using h6⟩
            rw [hr] at this; simp at this
      refine hK env a.tmps w ob hC fun k => hinv.same (ht.inv l.length) fun m hm => ?_
      have hlt : m < l.length := by
        rcases Nat.lt_or_ge m l.length with h | h
        · exact h
        · rw [ht.out m (List.getElem?_eq_none h)] at hm; simp [Ch.ks] at hm
      refine ⟨fun _ => hlt, fun _ => ?_⟩
      have := hall (m + 1) m (by omega) (by omega)
      have hms : m < listed.size := by omega
      simpa [hms] using this
    · obtain ⟨hun, o, ho, hrd⟩ := mem_ready.1 hi
      have hlt : i < ops.size := (Array.getElem?_eq_some_iff.1 ho).1
      obtain ⟨di, hdi⟩ : ∃ di, l[i]? = some di := ⟨_, List.getElem?_eq_getElem (by omega)⟩
      obtain ⟨o', ho', hg, hai, he, hpre, hdw, hpg⟩ := hedge i di hdi
      rw [ho] at ho'; cases ho'
      have hunf : listed.getD i false = false := by
        have hms : i < listed.size := by omega
        simpa [hms] using hun
      have hpl : ∀ p ∈ di.pre, listed.getD p false = true := by
        intro p hp
        obtain ⟨_, e, hm, hb, hc⟩ := hpre p hp
        have hon := hrd e hm hb
        rcases hc with rfl | ⟨u, hu, hc⟩
        · exact hon
        · exact hcl e.on u hu hon p hc
      have wrof : ∀ m k, k ∈ (D m).ks → ∃ dm, l[m]? = some dm ∧ (dm.piv = false → k ∈ dm.wr) := by
        intro m k hk
        cases hm : l[m]? with
        | none => rw [ht.out m hm] at hk; simp [Ch.ks] at hk
        | some dm => exact ⟨dm, rfl, fun hp => (ht.at' m dm hm hp).2.2 k hk⟩
      have agree : ∀ k, (di.piv = true ∨ k ∉ di.hide ∨ k ∈ di.wr) → look env k = look (T i) k := by
        intro k hk
        refine hinv.same (ht.inv i) fun m hm => ?_
        obtain ⟨dm, hdm, hw⟩ := wrof m k hm
        by_cases hmi : m = i
        · subst hmi; rw [hunf]; simp
        · by_cases hp1 : m ∈ di.pre
          · exact ⟨fun _ => (hpre m hp1).1, fun _ => hpl m hp1⟩
          · by_cases hp2 : i ∈ dm.pre
            · obtain ⟨_, _, _, _, _, hpm, _, _⟩ := hedge m dm hdm
              have := (hpm i hp2).1
              refine ⟨fun hs => ?_, fun hl => by omega⟩
              have := hcl m dm hdm hs i hp2
              rw [hunf] at this; cases this
            · obtain ⟨hv1, hv2, this⟩ := hpair i m di dm hdi hdm (Ne.symm hmi) hp1 hp2
              have this := this k (hw hv2)
              rcases hk with hk | hk | hk
              · rw [hv1] at hk; cases hk
              · exact absurd this.1 hk
              · exact absurd hk this.2
      -- behind it
      have behind : ∀ (env' : Env) (tm' : Array Value) (w' : World) (ob' : Nat → OB), Conc P B G0 W0 n env' tm' w' ob' → (∀ k, look env' k = look (D i ++ env) k) → wpAny P .any ops Q fuel (listed.setIfInBounds i true) { a with tmps := tm' } w' := by
        intro env' tm' w' ob' hC' hl'
        have hset : ∀ m, (listed.setIfInBounds i true).getD m false = true ↔ (listed.getD m false = true ∨ m = i) := by
          intro m
          by_cases hm : m = i
          · subst hm
            have hms : m < listed.size := by omega
            simp [hms]
          · rw [getD_set_ne false (Ne.symm hm)]
            simp [hm]
        refine ih _ env' { a with tmps := tm' } w' ob' (by simpa using hsz) ?_ ?_ ?_ hC' (fun e2 t2 w2 o2 h4 h5 => hK e2 t2 w2 o2 h4 h5)
        · have := countP_lt (p := fun j => !(listed.setIfInBounds i true).getD j true) (q := fun j => !listed.getD j true) (l := List.range ops.size) (fun x hx hp => by
            by_cases hxi : x = i
            · subst hxi
              have hms : x < listed.size := by omega
              simp [hms] at hp
            · rw [getD_set_ne true (Ne.symm hxi)] at hp; exact hp) ⟨i, List.mem_range.2 hlt, by simpa using hun, by
              have hms : i < listed.size := by omega
              simp [hms]⟩
          omega
        · intro m dm hm hs p hp
          rw [hset] at hs ⊢
          rcases hs with hs | rfl
          · exact .inl (hcl m dm hm hs p hp)
          · rw [hdi] at hm; cases hm
            exact .inl (hpl p hp)
        · have hadd := Inv.add (i := i) hinv (fun k hk m' hm' hs hk' => by
            obtain ⟨dm, hdm, hw'⟩ := wrof m' k hk'
            by_cases hp2 : i ∈ dm.pre
            · have := hcl m' dm hdm hs i hp2
              rw [hunf] at this; cases this
            · have hp1 : m' ∉ di.pre := fun hp => by have := (hpre m' hp).1; omega
              obtain ⟨hv1, hv2, hv3⟩ := hpair i m' di dm hdi hdm (by omega) hp1 hp2
              exact (hv3 k (hw' hv2)).2 ((ht.at' i di hdi hv1).2.2 k hk))
          intro k
          rcases (hadd.set fun m => (hset m).symm) k with h | h
          · left
            obtain ⟨m, g1, g2, g3, g4⟩ := h
            exact ⟨m, g1, g2, g3, by rw [hl' k]; exact g4⟩
          · exact .inr ⟨h.1, by rw [hl' k]; exact h.2⟩
      have hd : ∀ k, o.dst = some k → k < n := by
        simp only [okAI, Bool.and_eq_true, decide_eq_true_eq] at hai
        intro k hk
        have := hai.1.2
        rw [hk] at this; simpa using this
      cases hpv : di.piv with
      | true =>
        have hwant : Region.wanted o (yielded ops a.tmps) = true := by
          have hig := hpg hpv
          cases hog : o.guard with
          | none => simp [Region.wanted, hog]
          | some q => rw [hog, hig] at hg; simp [okGuard] at hg
        obtain ⟨ob1, hC1⟩ := Conc.ext hC (env' := T i) fun k => (agree k (.inl hpv)).symm
        unfold wpOp
        simp only [ho]
        rw [if_pos hwant]
        refine .inl (st_ok (R := Env) (r := T (i + 1)) hgood hC1 (fun env' tm' w' ob' hC' hk => ?_) hai (ht.piv i di hdi hpv))
        cases hk
        exact behind _ tm' w' ob' hC' fun k => (ht.next i k).trans (look_app_ext (fun k => (agree k (.inl hpv)).symm) k)
      | false =>
      obtain ⟨hd1, hd2, hd3⟩ := ht.at' i di hdi hpv
      have hsub : Sub (hid di.hide (look (T i))) (look env) := hid_sub fun k hk => .inr (agree k (.inr (.inl hk)))
      have hfree : free env di.ai.dst = true := by
        cases hdd : di.ai.dst with
        | none => rfl
        | some d =>
          rw [hdd] at hd2
          simp only [free] at hd2 ⊢
          rw [agree d (.inr (.inr (hdw d hdd)))]; exact hd2
      have hdst : di.ai.dst = o.dst := by simp only [okAI, Bool.and_eq_true, decide_eq_true_eq] at hai; exact hai.1.1
      have yes : (wrR cl di.ai.dst di.ai.op).run (hid di.hide (look (T i))) = some (D i) → o.wp P a w (wpAny P .any ops Q fuel (listed.setIfInBounds i true)) Q := by
        intro hw
        have hw2 := (wrR cl di.ai.dst di.ai.op).mono _ _ _ hsub hw
        have hst : step cl di.ai env (some : Kont Env) = some (D i ++ env) := wrR_step (g := di.ai.guard) hw2 hfree
        exact st_ok (R := Env) (r := D i ++ env) hgood hC (fun env' tm' w' ob' hC' hk => by
          cases hk; exact behind _ tm' w' ob' hC' fun _ => rfl) hai hst
      have nope : D i = one di.ai.dst .und → wpAny P .any ops Q fuel (listed.setIfInBounds i true) (a.put o.dst undef) w := by
        intro hD
        obtain ⟨ob', hC'⟩ := Conc.putO (e := .und) (v := undef) hC hd (Grows.refl w) ⟨rfl, rfl⟩ a rfl
        have := behind _ _ w ob' hC' (fun k => by rw [← hdst, free_putO hfree, hD])
        have e : ({ a with tmps := (a.put o.dst undef).tmps } : Act) = a.put o.dst undef := by cases o.dst <;> rfl
        rw [e] at this; exact this
      unfold wpOp
      simp only [ho]
      cases hog : o.guard with
      | none =>
        cases hig : di.ai.guard with
        | some q => rw [hog, hig] at hg; simp [okGuard] at hg
        | none =>
          simp only [Did, hig] at hd1
          have hw : Region.wanted o (yielded ops a.tmps) = true := by simp [Region.wanted, hog]
          rw [if_pos hw]
          exact .inl (yes hd1)
      | some q =>
        obtain ⟨gj, gb⟩ := q
        cases hig : di.ai.guard with
        | none => rw [hog, hig] at hg; simp [okGuard] at hg
        | some q' =>
          obtain ⟨s, pol⟩ := q'
          rw [hog, hig] at hg
          simp only [okGuard, Bool.and_eq_true, beq_iff_eq] at hg
          obtain ⟨rfl, hg⟩ := hg
          split at hg
          case h_2 => simp at hg
          rename_i og hgj
          simp only [decide_eq_true_eq] at hg
          simp only [Did, hig] at hd1
          have lk : ∀ e, hid di.hide (look (T i)) s = e → e ≠ .dead → look env s = e := by
            intro e he hne
            rcases hsub s with h | h
            · rw [h] at he; exact absurd he.symm hne
            · rw [h, he]
          have wan : ∀ b, look env s = .v .bool b → Region.wanted o (yielded ops a.tmps) = (b == gb) := by
            intro b hs2
            have hy := kept hC hgj hg hs2
            simp only [Region.wanted, hog, hy]
            cases b <;> cases gb <;> rfl
          rcases hd1 with ⟨hs, hd1⟩ | ⟨hs | hs, hd1⟩
          · rw [wan _ (lk _ hs (by simp))]
            simp only [beq_self_eq_true, if_true]
            exact .inl (yes hd1)
          · rw [wan _ (lk _ hs (by simp))]
            have : ((!gb) == gb) = false := by cases gb <;> rfl
            rw [this]
            simp only [Bool.false_eq_true, if_false]
            exact nope hd1
          · have hy := kept_und hC hgj hg (lk _ hs (by simp))
            rw [if_neg (by simp [Region.wanted, hog, hy])]
            exact nope hd1

theorem draws_sound (hgood : Good P cl) {ops : Array Oper} {l : List DI} (hok : okD P n ops l = true) {env : Env} {a : Act} {w : World} {ob : Nat → OB} {K : Kont R} (hC : Conc P B G0 W0 n env a.tmps w ob) (h : draws cl l env K = some r)
    (hK : ∀ env' tm' w' ob', Conc P B G0 W0 n env' tm' w' ob' → K env' = some r → Q .normal { a with tmps := tm' } w') {id : Nat} : (Code.region id ops true).wp P Q a w := by
  have hm : P.follows .mixedOrders = true := by simp only [okD, Bool.and_eq_true] at hok; exact hok.1.1.1
  obtain ⟨D, T, ht, hk⟩ := draws_text l env h
  refine wp_region_any hm ?_
  obtain ⟨ob2, hC2⟩ : ∃ ob2, Conc P B G0 W0 n env a.tmps { w with drawn := w.drawn + 1 } ob2 :=
    Conc.putO (d := none) (e := .und) (v := undef) (w' := { w with drawn := w.drawn + 1 }) hC (fun k hk => by cases hk) ⟨rfl, rfl, rfl, Nat.le_refl _, fun _ _ => rfl⟩ ⟨rfl, rfl⟩ a rfl
  refine any_sound hgood hok ht _ _ env a _ ob2 (by simp) ?_ ?_ (Inv.start fun m => ?_) hC2 (fun env' tm' w' ob' hC' hl' => ?_)
  · exact Nat.le_trans List.countP_le_length (by simp)
  · intro i di _ hs
    simp only [Array.getD_eq_getD_getElem?] at hs
    by_cases hi : i < ops.size <;> simp [hi] at hs
  · intro hs
    simp only [Array.getD_eq_getD_getElem?] at hs
    by_cases hi : m < ops.size <;> simp [hi] at hs
  · obtain ⟨ob3, hC3⟩ := Conc.ext hC' (env' := T l.length) (fun k => (hl' k).symm)
    exact hK _ tm' w' ob3 hC3 hk
end
end Go.Fw
