/- The abstract value machine, part 2: entries, operations, code. -/
import Derived.Test.YtggppceiapjadaaFwA
set_option linter.unusedVariables false
set_option linter.unusedSimpArgs false
namespace Go.Fw
open Go Go.RowKit

/-! ### Parts of a value -/
inductive St where
  | l | r | ix (i : Nat)
  deriving DecidableEq
abbrev Path := List St

abbrev TV := (T : Ty) × den T

def subT : Ty → Path → Option Ty
  | T, [] => some T
  | .pair A _, .l :: p => subT A p
  | .pair _ B, .r :: p => subT B p
  | .arr n T, .ix i :: p => if i < n then subT T p else none
  | _, _ => none

def offT : Ty → Path → Nat
  | .pair A _, .l :: p => offT A p
  | .pair A B, .r :: p => cellsN A + offT B p
  | .arr _ T, .ix i :: p => i * cellsN T + offT T p
  | _, _ => 0

def getP : (T : Ty) → Path → den T → Option TV
  | T, [], x => some ⟨T, x⟩
  | .pair A _, .l :: p, x => getP A p x.1
  | .pair _ B, .r :: p, x => getP B p x.2
  | .arr _ T, .ix i :: p, x => if i < x.length then getP T p (x.getD i (zero T)) else none
  | _, _, _ => none

def cast? (T : Ty) (y : TV) : Option (den T) := if h : y.1 = T then some (h ▸ y.2) else none

def setP : (T : Ty) → Path → den T → TV → Option (den T)
  | T, [], _, y => cast? T y
  | .pair A _, .l :: p, x, y => (setP A p x.1 y).bind fun z => some (z, x.2)
  | .pair _ B, .r :: p, x, y => (setP B p x.2 y).bind fun z => some (x.1, z)
  | .arr _ T, .ix i :: p, x, y => if i < x.length then (setP T p (x.getD i (zero T)) y).bind fun z => some (x.set i z) else none
  | _, _, _, _ => none

def annAt : Ann → Path → Ann
  | a, [] => a
  | a, .l :: p => annAt a.l p
  | a, .r :: p => annAt a.r p
  | _, .ix _ :: _ => .no

def setAnn : Ann → Path → Ann → Ann
  | _, [], b => b
  | a, .l :: p, b => .pair (setAnn a.l p b) a.r
  | a, .r :: p, b => .pair a.l (setAnn a.r p b)
  | a, .ix _ :: _, _ => a

/-- the parts that are given are nobody's own -/
def annParts {α : Type} : Ann → List (Path × α) → Ann
  | o, [] => o
  | o, (p, _) :: r => annParts (setAnn o p .no) r

def hasIx : Path → Bool
  | [] => false
  | .ix _ :: _ => true
  | _ :: p => hasIx p

/-- nothing in it is held -/
def Ann.pure : Ann → Bool
  | .no => true
  | .pair a b => a.pure && b.pure
  | _ => false

/-- nothing in it was moved out -/
def Ann.whole : Ann → Bool
  | .hole => false
  | .pair a b => a.whole && b.whole
  | .own _ _ o => o.whole
  | .no => true

def Ann.frz : Ann → Ann
  | .own _ e o => .own false e o.frz
  | .pair a b => .pair a.frz b.frz
  | a => a

/-! ### Entries of slots -/
inductive E where
  | dead
  | und
  | v (T : Ty) (x : den T)
  | own (wr : Bool) (e : TypeId) (T : Ty) (o : Ann) (xs : List (den T))
  | loc (T : Ty) (o : Ann) (x : den T)
  | ref (s : Nat) (p : Path)
  | ptr (s : Nat) (p : Path)
  | ptre (s : Nat) (p : Path) (i : Nat) (q : Path)
  | at (T : Ty) (x : den T)
  | tup (es : List E)
  | clo (f : FuncId) (A C : Ty) (caps : List E)
  | it (s : List UInt8) (pos : Nat)
  | nw (T : Ty) (o : Ann) (x : den T)

abbrev Env := List (Nat × E)

def look : Env → Nat → E
  | [], _ => .dead
  | (j, e) :: r, k => match Nat.decEq j k with | .isTrue _ => e | .isFalse _ => look r k

def E.home : E → Bool
  | .own .. | .loc .. => true
  | _ => false

/-- does an entry lead to the slot s? -/
def leads (s : Nat) : E → Bool
  | .ref k _ | .ptr k _ | .ptre k _ _ _ => k == s
  | .clo _ _ _ caps => caps.any fun | .ref k _ | .ptr k _ | .ptre k _ _ _ => k == s | _ => false
  | _ => false

def kill (s : Nat) (env : Env) : Env := env.map fun q => if leads s q.2 then (q.1, .dead) else q

/-- does an entry show a slice that the variable s holds? -/
def shows (s : Nat) : E → Bool
  | .ptr _ _ => false
  | e => leads s e

def killR (s : Nat) (env : Env) : Env := env.map fun q => if shows s q.2 then (q.1, .dead) else q

/-- what was the home s is the home d -/
def moved (s d : Nat) (env : Env) : Env := env.map fun q => match q.2 with
  | .ref k p => if k == s then (q.1, .ref d p) else q
  | .ptre k p i r => if k == s then (q.1, .ptre d p i r) else q
  | .clo f A C caps => if leads s (.clo f A C caps) then (q.1, .dead) else q
  | _ => q

def put (env : Env) (k : Nat) (e : E) : Env := (k, if leads k e then .dead else e) :: (if (look env k).home then kill k env else env)

def putO (env : Env) (k : Option Nat) (e : E) : Env := match k with | some k => put env k e | none => env

def freeze (env : Env) (s : Nat) : Env :=
  match look env s with
  | .own _ e T o xs => (s, .own false e T o.frz xs) :: env
  | .loc T o x => (s, .loc T o.frz x) :: env
  | _ => env

/-- the slots that an entry leads to -/
def led1 : E → List Nat
  | .ref k _ | .ptr k _ | .ptre k _ _ _ => [k]
  | _ => []
def ledTo : E → List Nat
  | .clo _ _ _ caps => caps.flatMap led1
  | e => led1 e

def keepE (live : List Nat) (e : E) : E := match (ledTo e).all fun s => live.any fun k => k == s with | true => e | false => .dead

def keep (live : List Nat) (env : Env) : Env := live.map fun k => (k, keepE live (look env k))

/-! ### Operands -/
inductive Od where
  | t (k : Nat)
  | c (T : Ty) (x : den T)
  | nil (e : TypeId) (T : Ty)
  | fn (f : FuncId) (A C : Ty)

def ent (env : Env) : Od → E
  | .t k => look env k
  | .c T x => .v T x
  | .nil e T => .own true e T .no []
  | .fn f A C => .clo f A C []

/-- the slice at a place -/
structure Held where
  wr : Bool
  e : TypeId
  T : Ty
  o : Ann
  xs : List (den T)

def heldAt (env : Env) (s : Nat) (p : Path) : Option Held :=
  match look env s with
  | .own wr e T o xs => match p with | [] => some ⟨wr, e, T, o, xs⟩ | _ => none
  | .loc T o x => match annAt o p, getP T p x with
    | .own wr e o', some ⟨.sl T', xs⟩ => some ⟨wr, e, T', o', xs⟩
    | _, _ => none
  | _ => none

/-- what calls answer; runK: the same, with what follows -/
structure Cal where
  run : FuncId → List E → Option (List E)
  runK : {R : Type} → FuncId → List E → (List E → Option R) → Option R
  eqn : ∀ {R : Type} (f : FuncId) (es : List E) (k : List E → Option R), runK f es k = (run f es).bind k

instance : CoeFun Cal (fun _ => FuncId → List E → Option (List E)) := ⟨Cal.run⟩

def Cal.of (g : FuncId → List E → Option (List E)) : Cal := ⟨g, fun f es k => (g f es).bind k, fun _ _ _ => rfl⟩

def unpack : (A : Ty) → den A → List E
  | .pair A B, x => .v A x.1 :: unpack B x.2
  | _, _ => []

def unE (C : Ty) : List E → Option (den C)
  | [.v T x] => cast? C ⟨T, x⟩
  | _ => none

/-- what a callee is handed: values, and pointers to what stays as it is meanwhile -/
def argS (env : Env) : E → Option E
  | .v T x => some (.v T x)
  | .own _ _ T o xs => if o.pure then some (.v (.sl T) xs) else none
  | .ref s p => (heldAt env s p).bind fun h => if h.o.pure then some (.v (.sl h.T) h.xs) else none
  | .at T x => some (.at T x)
  | .ptr s p => match look env s with
    | .loc T o x => if (annAt o p).whole then (getP T p x).bind fun y => some (.at y.1 y.2) else none
    | _ => none
  | .ptre s p i q => (heldAt env s p).bind fun h => if h.o.pure && decide (i < h.xs.length) then (getP h.T q (h.xs.getD i (zero h.T))).bind fun y => some (.at y.1 y.2) else none
  | _ => none

def argsS (env : Env) : List E → Option (List E)
  | [] => some []
  | e :: r => (argS env e).bind fun x => (argsS env r).bind fun y => some (x :: y)

/-- a value, as nobody's own -/
def imm (env : Env) (e : E) : Option TV :=
  match e with
  | .v T x => some ⟨T, x⟩
  | .own _ _ T o xs => if o.pure then some ⟨.sl T, xs⟩ else none
  | .ref s p => (heldAt env s p).bind fun h => if h.o.pure then some ⟨.sl h.T, h.xs⟩ else none
  | _ => none

/-- a function literal, handed to a callee: what it answers -/
def cloV (cl : Cal) (env : Env) (f : FuncId) (A C : Ty) (caps : List E) : Option E :=
  if scalarT C then (argsS env caps).bind fun cs => some (.v (.fn A C) fun x => (cl f (unpack A x ++ cs)).bind (unE C)) else none

/-- the slot whose home an entry shows, if any -/
def homeOf (k : Od) (e : E) : Option Nat :=
  match e with
  | .own .. => match k with | .t k => some k | _ => none
  | .ref s _ | .ptr s _ | .ptre s _ _ _ => some s
  | .loc .. => match k with | .t k => some k | _ => none
  | _ => none

/-- a value that is laid into another, or shared: its home may only be appended to from now on -/
def pub (env : Env) (k : Od) : Option (Env × TV) :=
  (imm env (ent env k)).bind fun y => some (match homeOf k (ent env k) with | some s => freeze env s | none => env, y)

def brB {α : Type} (b : Bool) (x y : α) : α := match b with | true => x | false => y

/-! ### Arithmetic -/
def arith (op : BinOp) (k : IntKind) (x y : Int) : Option Int :=
  match op with
  | .add => some (k.wrap (x + y))
  | .sub => some (k.wrap (x - y))
  | .mul => some (k.wrap (x * y))
  | .and => some (Go.bits .and k x y)
  | .or => some (Go.bits .or k x y)
  | .xor => some (Go.bits .xor k x y)
  | .andNot => some (Go.bits .andNot k x y)
  | _ => none

def cmpI (op : BinOp) (x y : Int) : Option Bool :=
  match op with
  | .eql => some (x == y)
  | .neq => some (x != y)
  | .lss => some (decide (x < y))
  | .leq => some (decide (x ≤ y))
  | .gtr => some (decide (x > y))
  | .geq => some (decide (x ≥ y))
  | _ => none

end Go.Fw
