/- Contracts of functions, put into what calls answer; keeps of environments. -/
import Derived.Test.YtggppceiapjadaaFwC
set_option linter.unusedVariables false
set_option linter.unusedSimpArgs false
namespace Go.Fw
open Go Go.RowKit

theorem Cal.ext' {a b : Cal} (h : ∀ f es, a.run f es = b.run f es) : a = b := by
  obtain ⟨r1, k1, e1⟩ := a
  obtain ⟨r2, k2, e2⟩ := b
  have : r1 = r2 := by funext f es; exact h f es
  subst this
  have : @k1 = @k2 := by funext R f es k; rw [e1, e2]
  subst this
  rfl

/-- a function's contract: from arguments of type A comes what S says, of type B -/
structure Ctr where
  A : Type
  B : Type
  f : FuncId
  enc : A → List E
  dec : List E → Option A
  S : A → Option B
  ent : B → List E
  ok : ∀ es a, dec es = some a → es = enc a

def Ctr.holds (c : Ctr) (cl : Cal) : Prop := ∀ a, cl c.f (c.enc a) = (c.S a).bind fun b => some (c.ent b)

def Cal.put (cl : Cal) (c : Ctr) : Cal where
  run f es := match Nat.decEq f c.f with
    | .isTrue _ => (match c.dec es with | some a => (c.S a).bind fun b => some (c.ent b) | none => cl f es)
    | .isFalse _ => cl f es
  runK f es k := match Nat.decEq f c.f with
    | .isTrue _ => (match c.dec es with | some a => (c.S a).bind fun b => k (c.ent b) | none => cl.runK f es k)
    | .isFalse _ => cl.runK f es k
  eqn f es k := by
    cases Nat.decEq f c.f with
    | isFalse _ => exact cl.eqn f es k
    | isTrue _ =>
      simp only
      cases c.dec es with
      | none => exact cl.eqn f es k
      | some a => simp only [Option.bind_assoc, Option.bind_some]

theorem put_eq {c : Ctr} {cl : Cal} (h : c.holds cl) : cl.put c = cl := by
  apply Cal.ext'
  intro f es
  simp only [Cal.put]
  cases Nat.decEq f c.f with
  | isFalse _ => rfl
  | isTrue hf =>
    simp only
    cases hd : c.dec es with
    | none => rfl
    | some a =>
      have := c.ok es a hd
      subst this; subst hf
      exact (h a).symm

theorem acall_succ {tb : Table} {pr : Prims} {N D : Nat} {f : FuncId} {fd : FD} {es : List E} (hp : pr f = none) (ht : tb f = some fd) (hl : es.length = fd.nargs) :
    acall tb pr N (D + 1) f es = exec (acall tb pr N D) N fd.body (params 0 es) (retK fd) := by
  show (match pr f with
    | some p => p es
    | none => match tb f with
      | some fd => match Nat.decEq es.length fd.nargs with
        | .isTrue _ => exec (acall tb pr N D) N fd.body (params 0 es) (retK fd)
        | .isFalse _ => none
      | none => none) = _
  rw [hp, ht]
  simp only
  cases Nat.decEq es.length fd.nargs with
  | isTrue _ => rfl
  | isFalse h => exact absurd hl h

theorem acall_prim {tb : Table} {pr : Prims} {N D : Nat} {f : FuncId} {p : List E → Option (List E)} {es : List E} (hp : pr f = some p) : acall tb pr N (D + 1) f es = p es := by
  show (match pr f with
    | some p => p es
    | none => match tb f with
      | some fd => match Nat.decEq es.length fd.nargs with
        | .isTrue _ => exec (acall tb pr N D) N fd.body (params 0 es) (retK fd)
        | .isFalse _ => none
      | none => none) = _
  rw [hp]

/-- reading an argument -/
def decV (T : Ty) : E → Option (den T)
  | .v T' x => cast? T ⟨T', x⟩
  | _ => none
def decA (T : Ty) : E → Option (den T)
  | .at T' x => cast? T ⟨T', x⟩
  | _ => none
theorem cast_some {T : Ty} {y : TV} {x : den T} (h : cast? T y = some x) : y = ⟨T, x⟩ := by
  obtain ⟨T', z⟩ := y
  unfold cast? at h
  split at h
  · rename_i hT
    simp only at hT
    subst hT
    simp only [Option.some.injEq] at h
    subst h; rfl
  · simp at h
theorem decV_some {T : Ty} {e : E} {x : den T} (h : decV T e = some x) : e = .v T x := by
  cases e <;> simp only [decV] at h <;> first | (exfalso; simp at h; done) | (have := cast_some h; cases this; rfl)
theorem decA_some {T : Ty} {e : E} {x : den T} (h : decA T e = some x) : e = .at T x := by
  cases e <;> simp only [decA] at h <;> first | (exfalso; simp at h; done) | (have := cast_some h; cases this; rfl)

theorem brB_ite {α : Type} (b : Bool) (x y : α) : brB b x y = if b then x else y := by cases b <;> rfl

def loopK {R : Type} (live : List Nat) (body : Env → KE R → Option R) (K : KE R) (m : Nat) : KE R := fun e env => match e with
  | .normal => iter live body K m (keep live env)
  | .exit id => K (.exit id) env
  | .ret => K .ret env
theorem iter_succ {R : Type} (live : List Nat) (body : Env → KE R → Option R) (K : KE R) (m : Nat) (env : Env) : iter live body K (m + 1) env = body env (loopK live body K m) := Eq.trans rfl rfl
theorem iter_zero {R : Type} (live : List Nat) (body : Env → KE R → Option R) (K : KE R) (env : Env) : iter live body K 0 env = none := Eq.trans rfl rfl

theorem loopK_normal {R : Type} (live : List Nat) (body : Env → KE R → Option R) (K : KE R) (m : Nat) (env : Env) : loopK live body K m .normal env = iter live body K m (keep live env) := Eq.trans rfl rfl
theorem loopK_exit {R : Type} (live : List Nat) (body : Env → KE R → Option R) (K : KE R) (m id : Nat) (env : Env) : loopK live body K m (.exit id) env = K (.exit id) env := Eq.trans rfl rfl
theorem loopK_ret {R : Type} (live : List Nat) (body : Env → KE R → Option R) (K : KE R) (m : Nat) (env : Env) : loopK live body K m .ret env = K .ret env := Eq.trans rfl rfl
theorem seqK_normal {R : Type} (y : Env → Option R) (K : KE R) (env : Env) : seqK y K .normal env = y env := Eq.trans rfl rfl
theorem seqK_exit {R : Type} (y : Env → Option R) (K : KE R) (id : Nat) (env : Env) : seqK y K (.exit id) env = K (.exit id) env := Eq.trans rfl rfl
theorem seqK_ret {R : Type} (y : Env → Option R) (K : KE R) (env : Env) : seqK y K .ret env = K .ret env := Eq.trans rfl rfl
theorem blockK_normal {R : Type} (id : Nat) (K : KE R) (env : Env) : blockK id K .normal env = K .normal env := Eq.trans rfl rfl
theorem blockK_ret {R : Type} (id : Nat) (K : KE R) (env : Env) : blockK id K .ret env = K .ret env := Eq.trans rfl rfl
theorem blockK_eq {R : Type} (id : Nat) (K : KE R) (env : Env) : blockK id K (.exit id) env = K .normal env := by
  unfold blockK; simp only
  cases Nat.decEq id id with
  | isTrue _ => rfl
  | isFalse h => exact absurd rfl h
theorem blockK_ne {R : Type} (id j : Nat) (h : Nat.beq j id = false) (K : KE R) (env : Env) : blockK id K (.exit j) env = K (.exit j) env := by
  unfold blockK; simp only
  cases Nat.decEq j id with
  | isTrue e => subst e; rw [Nat.beq_refl] at h; cases h
  | isFalse _ => rfl
section
variable {cl : Cal} {N : Nat} {R : Type} (env : Env) (K : KE R)
theorem exec_skip : exec cl N .skip env K = K .normal env := Eq.trans rfl rfl
theorem exec_ret : exec cl N .ret env K = K .ret env := Eq.trans rfl rfl
theorem exec_exit (id : Nat) : exec cl N (.exit id) env K = K (.exit id) env := Eq.trans rfl rfl
theorem exec_seq (a b : AC) : exec cl N (.seq a b) env K = exec cl N a env (seqK (fun env => exec cl N b env K) K) := Eq.trans rfl rfl
theorem exec_out (l : List Nat) (b : AC) : exec cl N (.out l b) env K = exec cl N b env (fun e env => K e (keep l env)) := Eq.trans rfl rfl
theorem exec_block (id : Nat) (b : AC) : exec cl N (.block id b) env K = exec cl N b env (blockK id K) := Eq.trans rfl rfl
theorem exec_loop (l : List Nat) (b : AC) : exec cl N (.loop l b) env K = iter l (fun env K => exec cl N b env K) K N (keep l env) := Eq.trans rfl rfl
theorem exec_cond' (c : Od) (x y : AC) : exec cl N (.cond c x y) env K = (boolOf? (ent env c)).bind fun q => brB q (exec cl N x env K) (exec cl N y env K) := Eq.trans rfl rfl
theorem exec_cond (c : Od) (x y : AC) (b : Bool) (h : boolOf? (ent env c) = some b) : exec cl N (.cond c x y) env K = brB b (exec cl N x env K) (exec cl N y env K) := by
  show (boolOf? (ent env c)).bind (fun q => brB q (exec cl N x env K) (exec cl N y env K)) = _
  rw [h]; rfl
end
theorem brB_true {α : Type} (x y : α) : brB true x y = x := Eq.trans rfl rfl
theorem brB_false {α : Type} (x y : α) : brB false x y = y := Eq.trans rfl rfl

theorem bind_brB {α β : Type} (b : Bool) (x y : Option α) (h : α → Option β) : (brB b x y).bind h = brB b (x.bind h) (y.bind h) := by cases b <;> rfl
theorem bind_ite {α β : Type} (c : Prop) [Decidable c] (x y : Option α) (h : α → Option β) : (if c then x else y).bind h = if c then x.bind h else y.bind h := by split <;> rfl
theorem bind_none' {α β : Type} (h : α → Option β) : (none : Option α).bind h = none := rfl
theorem bind_some' {α β : Type} (a : α) (h : α → Option β) : (some a).bind h = h a := rfl
def Ctr.prim (c : Ctr) : List E → Option (List E) := fun es => (c.dec es).bind fun a => (c.S a).bind fun b => some (c.ent b)
theorem prim_holds {tb : Table} {pr : Prims} {N D : Nat} {c : Ctr} (hp : pr c.f = some c.prim) (hd : ∀ a, c.dec (c.enc a) = some a) : c.holds (acall tb pr N (D + 1)) := by
  intro a
  rw [acall_prim hp]
  simp only [Ctr.prim, hd, Option.bind_some]

/-- two ways of arguments: none left, one more -/
def dec0 : List E → Option Unit
  | [] => some ()
  | _ => none
def decC {A B : Type} (d : E → Option A) (r : List E → Option B) : List E → Option (A × B)
  | [] => none
  | e :: es => match d e, r es with
    | some a, some b => some (a, b)
    | _, _ => none
theorem dec0_some {es : List E} {a : Unit} (h : dec0 es = some a) : es = [] := by
  cases es <;> simp [dec0] at h; rfl
theorem decC_some {A B : Type} {d : E → Option A} {r : List E → Option B} {es : List E} {q : A × B} (h : decC d r es = some q) : ∃ e es', es = e :: es' ∧ d e = some q.1 ∧ r es' = some q.2 := by
  cases es with
  | nil => simp [decC] at h
  | cons e es =>
    simp only [decC] at h
    split at h
    · rename_i a b ha hb; cases h; exact ⟨e, es, rfl, ha, hb⟩
    · simp at h
theorem decV_cons {T : Ty} {B : Type} {r : List E → Option B} {enc : B → List E} (hr : ∀ es b, r es = some b → es = enc b) (es : List E) (q : den T × B) (h : decC (decV T) r es = some q) : es = .v T q.1 :: enc q.2 := by
  obtain ⟨e, es', rfl, h1, h2⟩ := decC_some h
  rw [decV_some h1, hr _ _ h2]
theorem decA_cons {T : Ty} {B : Type} {r : List E → Option B} {enc : B → List E} (hr : ∀ es b, r es = some b → es = enc b) (es : List E) (q : den T × B) (h : decC (decA T) r es = some q) : es = .at T q.1 :: enc q.2 := by
  obtain ⟨e, es', rfl, h1, h2⟩ := decC_some h
  rw [decA_some h1, hr _ _ h2]

end Go.Fw
