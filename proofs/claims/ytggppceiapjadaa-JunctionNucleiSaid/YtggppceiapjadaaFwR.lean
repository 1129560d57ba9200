/- The abstract value machine: operations whose order is open, read through a reader that fails on what is dead. -/
import Derived.Test.YtggppceiapjadaaFwB
set_option linter.unusedVariables false
set_option linter.unusedSimpArgs false
namespace Go.Fw
open Go Go.RowKit

/-- L' knows what L knows -/
def Sub (L L' : Nat → E) : Prop := ∀ k, L k = .dead ∨ L' k = L k

structure Rd (α : Type) where
  run : (Nat → E) → Option α
  runK : {R : Type} → (Nat → E) → (α → Option R) → Option R
  mono : ∀ L L' x, Sub L L' → run L = some x → run L' = some x
  eqn : ∀ {R : Type} (L : Nat → E) (k : α → Option R), runK L k = (run L).bind k

namespace Rd
def ok {α : Type} (x : α) : Rd α := ⟨fun _ => some x, fun _ k => k x, fun _ _ _ _ h => h, fun _ _ => rfl⟩
def no {α : Type} : Rd α := ⟨fun _ => none, fun _ _ => none, fun _ _ _ _ h => h, fun _ _ => rfl⟩
def of {α : Type} (x : Option α) : Rd α := ⟨fun _ => x, fun _ k => x.bind k, fun _ _ _ _ h => h, fun _ _ => rfl⟩
def notDead : E → Option E
  | .dead => none
  | e => some e
def get (k : Nat) : Rd E := ⟨fun L => notDead (L k), fun L c => (notDead (L k)).bind c, fun L L' x hs h => by
  rcases hs k with h1 | h1
  · rw [h1] at h; simp [notDead] at h
  · rw [h1]; exact h, fun _ _ => rfl⟩
def bind {α β : Type} (a : Rd α) (f : α → Rd β) : Rd β := ⟨fun L => (a.run L).bind fun x => (f x).run L, fun L k => a.runK L fun x => (f x).runK L k, fun L L' x hs h => by
  obtain ⟨y, hy, h⟩ := Option.bind_eq_some_iff.1 h
  exact Option.bind_eq_some_iff.2 ⟨y, a.mono L L' y hs hy, (f y).mono L L' x hs h⟩, fun L k => by
  rw [a.eqn, Option.bind_assoc]; congr 1; funext x; exact (f x).eqn L k⟩
/-- one or the other -/
def ite {α : Type} (p : Prop) [Decidable p] (a b : Rd α) : Rd α := ⟨fun L => if p then a.run L else b.run L, fun L k => if p then a.runK L k else b.runK L k, fun L L' x hs h => by
  split
  · rename_i hp; rw [if_pos hp] at h; exact a.mono L L' x hs h
  · rename_i hp; rw [if_neg hp] at h; exact b.mono L L' x hs h, fun L k => by
  split
  · exact a.eqn L k
  · exact b.eqn L k⟩
def br {α : Type} (q : Bool) (a b : Rd α) : Rd α := ⟨fun L => brB q (a.run L) (b.run L), fun L k => brB q (a.runK L k) (b.runK L k), fun L L' x hs h => by
  cases q
  · exact b.mono L L' x hs h
  · exact a.mono L L' x hs h, fun L k => by
  cases q
  · exact b.eqn L k
  · exact a.eqn L k⟩
def call (cl : Cal) (f : FuncId) (es : List E) : Rd (List E) := ⟨fun _ => cl f es, fun _ k => cl.runK f es k, fun _ _ _ _ h => h, fun _ k => cl.eqn f es k⟩
end Rd

def entR : Od → Rd E
  | .t k => .get k
  | .c T x => .ok (.v T x)
  | .nil e T => .ok (.own true e T .no [])
  | .fn f A C => .ok (.clo f A C [])

def heldE (e : E) (p : Path) : Option Held :=
  match e with
  | .own wr e T o xs => match p with | [] => some ⟨wr, e, T, o, xs⟩ | _ => none
  | .loc T o x => match annAt o p, getP T p x with
    | .own wr e o', some ⟨.sl T', xs⟩ => some ⟨wr, e, T', o', xs⟩
    | _, _ => none
  | _ => none

def heldR (s : Nat) (p : Path) : Rd Held := (Rd.get s).bind fun e => .of (heldE e p)

def argPtr (p : Path) : E → Option E
  | .loc T o x => if (annAt o p).whole then (getP T p x).bind fun y => some (.at y.1 y.2) else none
  | _ => none

def argR : E → Rd E
  | .v T x => .ok (.v T x)
  | .own _ _ T o xs => .of (if o.pure then some (.v (.sl T) xs) else none)
  | .ref s p => (heldR s p).bind fun h => .of (if h.o.pure then some (.v (.sl h.T) h.xs) else none)
  | .at T x => .ok (.at T x)
  | .ptr s p => (Rd.get s).bind fun e => .of (argPtr p e)
  | .ptre s p i q => (heldR s p).bind fun h => .of (if h.o.pure && decide (i < h.xs.length) then (getP h.T q (h.xs.getD i (zero h.T))).bind fun y => some (.at y.1 y.2) else none)
  | _ => .no

def argsR : List E → Rd (List E)
  | [] => .ok []
  | e :: r => (argR e).bind fun x => (argsR r).bind fun y => .ok (x :: y)

def immR : E → Rd TV
  | .v T x => .ok ⟨T, x⟩
  | .own _ _ T o xs => .of (if o.pure then some ⟨.sl T, xs⟩ else none)
  | .ref s p => (heldR s p).bind fun h => .of (if h.o.pure then some ⟨.sl h.T, h.xs⟩ else none)
  | _ => .no

def cloR (cl : Cal) (f : FuncId) (A C : Ty) (caps : List E) : Rd E :=
  if scalarT C then (argsR caps).bind fun cs => .ok (.v (.fn A C) fun x => (cl f (unpack A x ++ cs)).bind (unE C)) else .no

theorem ent_run (env : Env) (x : Od) : (entR x).run (look env) = Rd.notDead (ent env x) := by
  cases x <;> rfl

theorem heldE_look (env : Env) (s : Nat) (p : Path) : heldAt env s p = heldE (look env s) p := by
  unfold heldAt heldE
  rfl

theorem held_run (env : Env) (s : Nat) (p : Path) : (heldR s p).run (look env) = heldAt env s p := by
  rw [heldE_look]
  show (Rd.notDead (look env s)).bind (fun e => heldE e p) = _
  cases look env s <;> rfl

theorem arg_run (env : Env) (e : E) : (argR e).run (look env) = argS env e := by
  cases e <;> try rfl
  · rename_i s p
    show ((heldR s p).run (look env)).bind _ = _
    rw [held_run]; rfl
  · rename_i s p
    show (Rd.notDead (look env s)).bind (fun e => argPtr p e) = _
    simp only [argS]
    cases look env s <;> rfl
  · rename_i s p i q
    show ((heldR s p).run (look env)).bind _ = _
    rw [held_run]; rfl

theorem args_run (env : Env) : ∀ (es : List E), (argsR es).run (look env) = argsS env es
  | [] => rfl
  | e :: r => by
    show ((argR e).run (look env)).bind (fun x => ((argsR r).run (look env)).bind fun y => some (x :: y)) = _
    rw [arg_run, args_run env r]; rfl

theorem imm_run (env : Env) (e : E) : (immR e).run (look env) = imm env e := by
  cases e <;> try rfl
  rename_i s p
  show ((heldR s p).run (look env)).bind _ = _
  rw [held_run]; rfl

theorem clo_run (cl : Cal) (env : Env) (f : FuncId) (A C : Ty) (caps : List E) : (cloR cl f A C caps).run (look env) = cloV cl env f A C caps := by
  unfold cloR cloV
  split
  · show ((argsR caps).run (look env)).bind _ = _
    rw [args_run]; rfl
  · rfl

end Go.Fw
