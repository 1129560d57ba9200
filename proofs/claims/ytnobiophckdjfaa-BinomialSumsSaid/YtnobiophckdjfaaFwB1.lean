/- The abstract value machine and its soundness, part 1: a call of the machine that answers is a call of the program that answers so; no conditions. -/
import Derived.WalkKit
import Derived.KernelRfl
set_option linter.unusedVariables false
set_option linter.unusedSimpArgs false
/- The abstract value machine, part 1: types of values, native values, what memory shows of them. -/
namespace Go.Fw
open Go Go.RowKit
inductive Ty where
 | int (k : IntKind) | bool | str | unit
 | sl (T : Ty) | pair (A B : Ty) | arr (n : Nat) (T : Ty)
 | fn (A B : Ty)
 deriving DecidableEq
abbrev den : Ty → Type
 | .int _ => Int
 | .bool => Bool
 | .str => List UInt8
 | .unit => Unit
 | .sl T => List (den T)
 | .pair A B => den A × den B
 | .arr _ T => List (den T)
 | .fn A B => den A → Option (den B)
def zero : (T : Ty) → den T
 | .int _ => (0 : Int)
 | .bool => false
 | .str => ([] : List UInt8)
 | .unit => ()
 | .sl _ => []
 | .pair A B => (zero A, zero B)
 | .arr n T => List.replicate n (zero T)
 | .fn _ _ => fun _ => none
def cellsN : Ty → Nat
 | .unit => 0
 | .pair A B => cellsN A + cellsN B
 | .arr n T => n * cellsN T
 | _ => 1
def isAggT : Ty → Bool
 | .unit | .pair _ _ | .arr _ _ => true
 | _ => false
def scalarT : Ty → Bool
 | .sl _ | .fn _ _ => false
 | .pair A B => scalarT A && scalarT B
 | .arr _ T => scalarT T
 | _ => true
def noFnT : Ty → Bool
 | .fn _ _ => false
 | .sl T => noFnT T
 | .pair A B => noFnT A && noFnT B
 | .arr _ T => noFnT T
 | _ => true
inductive Ann where
 | no
 | hole
 | own (wr : Bool) (e : TypeId) (o : Ann)
 | pair (a b : Ann)
def Ann.l : Ann → Ann | .pair a _ => a | _ => .no
def Ann.r : Ann → Ann | .pair _ b => b | _ => .no
abbrev OB := List (Nat × Nat)
def Elems {α : Type} (R : α → List Value → OB → Prop) : List α → List Value → OB → Prop
 | [], vs, ob => vs = [] ∧ ob = []
 | x :: xs, vs, ob => ∃ v1 v2 b1 b2, vs = v1 ++ v2 ∧ ob = b1 ++ b2 ∧ R x v1 b1 ∧ Elems R xs v2 b2
def BUF : TypeId := 4294967295
def frzOk (fz : Nat × Nat) (n : Nat) : Prop := fz = (0, 0) ∨ n ≤ fz.1
def rowX (w : World) (base : Nat) (e : TypeId) (size : Nat) (v : Value) (n : Nat) (xs : List Value) : Prop :=
 xs.length = n * size ∧
 ((v = .slice none 0 0 ∧ n = 0) ∨
  ∃ g cap cur e' fz, v = .slice (some ⟨g, 0, none⟩) n cap ∧ base ≤ g ∧ w.heap[g]? = some (.cells cur e' fz) ∧ n ≤ cap ∧ cap ≤ maxLen ∧ cur.size = cap * size ∧ cur.toList.take (n * size) = xs ∧ (e ≠ BUF → e' = e ∧ fz = (0, 0)) ∧ frzOk fz cur.size)
def inR (k : IntKind) (n : Int) : Prop := k.min ≤ n ∧ n ≤ k.max
def asVal (T : Ty) (vs : List Value) : Value := if isAggT T then .agg vs.toArray else vs.headD undef
def obOf (v : Value) (lim : Nat) : OB := match v.ownBlock with | some b => [(b, lim)] | none => []
def Later (B : Nat) (w w' : World) : Prop := w.heap.size ≤ w'.heap.size ∧ ∀ b, b < B → w'.heap[b]? = w.heap[b]?
def Callable (P : Program) (f : FuncId) : Prop := ∃ fn, P.funcs[f]? = some fn ∧ (fn.name == "runtime.NumGoroutine") = false ∧ fn.body.isNone = false
mutual
def Flat (P : Program) : (T : Ty) → World → (Nat → Nat → Prop) → Nat → Ann → den T → List Value → OB → Prop
 | .int k, _, _, _, _, n, vs, ob => vs = [.int k n] ∧ inR k n ∧ ob = []
 | .bool, _, _, _, _, b, vs, ob => vs = [.bool b] ∧ ob = []
 | .str, _, _, _, _, s, vs, ob => vs = [.string ⟨⟨s⟩⟩] ∧ s.length ≤ maxLen ∧ ob = []
 | .unit, _, _, _, _, _, vs, ob => vs = [] ∧ ob = []
 | .pair A C, w, G, B, o, x, vs, ob => ∃ v1 v2 b1 b2, vs = v1 ++ v2 ∧ ob = b1 ++ b2 ∧ Flat P A w G B o.l x.1 v1 b1 ∧ Flat P C w G B o.r x.2 v2 b2
 | .arr n T, w, G, B, _, xs, vs, ob => xs.length = n ∧ Elems (Flat P T w G B .no) xs vs ob
 | .sl T, w, G, B, .own wr e o, xs, vs, ob => ∃ v cells ob', vs = [v] ∧ rowX w B e (cellsN T) v xs.length cells ∧ Elems (Flat P T w G B o) xs cells ob' ∧
   ob = obOf v (if wr then 0 else xs.length * cellsN T) ++ ob'
 | .sl _, _, _, _, .hole, _, vs, ob => vs.length = 1 ∧ ob = []
 | .sl T, w, G, B, _, xs, vs, ob => ob = [] ∧ ∃ A c, vs = [.slice A xs.length c] ∧ xs.length ≤ c ∧ c ≤ maxLen ∧
   (xs = [] ∨ ∃ b off cells, A = some ⟨b, off, none⟩ ∧ Elems (Flat P T w G B .no) xs cells [] ∧ ∀ j v, cells[j]? = some v → w.cell? ⟨b, off + j, none⟩ = some v ∧ G b (off + j))
 | .fn A C, w, _, B, _, g, vs, ob => ob = [] ∧ scalarT C = true ∧ ∃ f caps, vs = [.func (.func f) #[] caps] ∧
   ∀ (w' : World) (G' : Nat → Nat → Prop) (x : den A) (vals : List Value), Later B w w' → FArgs P A w' G' x vals → ∀ r, g x = some r →
     Callable P f ∧ Calls P f (vals.toArray ++ caps) w' (fun e w'' => ∃ rs, Flat P C w'' G' B .no r rs [] ∧ e = .returned (asVal C rs) ∧ Below w'.heap.size w' w'')
def FArgs (P : Program) : (A : Ty) → World → (Nat → Nat → Prop) → den A → List Value → Prop
 | .pair A C, w, G, x, vals => ∃ v1 rest, Flat P A w G w.heap.size .no x.1 v1 [] ∧ vals = asVal A v1 :: rest ∧ FArgs P C w G x.2 rest
 | .unit, _, _, _, vals => vals = []
 | _, _, _, _, _ => False
end
end Go.Fw
/- The abstract value machine, part 2: entries, operations, code. -/
namespace Go.Fw
open Go Go.RowKit
inductive St where
 | l | r | ix (i : Nat)
 deriving DecidableEq
abbrev Path := List St
abbrev TV := (T : Ty) × den T
def subT : Ty → Path → Option Ty
 | T, [] => some T
 | .pair A _, .l :: p => subT A p
 | .pair _ B, .r :: p => subT B p
 | .arr n T, .ix i :: p => if i < n then subT T p else none
 | _, _ => none
def offT : Ty → Path → Nat
 | .pair A _, .l :: p => offT A p
 | .pair A B, .r :: p => cellsN A + offT B p
 | .arr _ T, .ix i :: p => i * cellsN T + offT T p
 | _, _ => 0
def getP : (T : Ty) → Path → den T → Option TV
 | T, [], x => some ⟨T, x⟩
 | .pair A _, .l :: p, x => getP A p x.1
 | .pair _ B, .r :: p, x => getP B p x.2
 | .arr _ T, .ix i :: p, x => if i < x.length then getP T p (x.getD i (zero T)) else none
 | _, _, _ => none
def cast? (T : Ty) (y : TV) : Option (den T) := if h : y.1 = T then some (h ▸ y.2) else none
def setP : (T : Ty) → Path → den T → TV → Option (den T)
 | T, [], _, y => cast? T y
 | .pair A _, .l :: p, x, y => (setP A p x.1 y).bind fun z => some (z, x.2)
 | .pair _ B, .r :: p, x, y => (setP B p x.2 y).bind fun z => some (x.1, z)
 | .arr _ T, .ix i :: p, x, y => if i < x.length then (setP T p (x.getD i (zero T)) y).bind fun z => some (x.set i z) else none
 | _, _, _, _ => none
def annAt : Ann → Path → Ann
 | a, [] => a
 | a, .l :: p => annAt a.l p
 | a, .r :: p => annAt a.r p
 | _, .ix _ :: _ => .no
def setAnn : Ann → Path → Ann → Ann
 | _, [], b => b
 | a, .l :: p, b => .pair (setAnn a.l p b) a.r
 | a, .r :: p, b => .pair a.l (setAnn a.r p b)
 | a, .ix _ :: _, _ => a
def annParts {α : Type} : Ann → List (Path × α) → Ann
 | o, [] => o
 | o, (p, _) :: r => annParts (setAnn o p .no) r
def hasIx : Path → Bool
 | [] => false
 | .ix _ :: _ => true
 | _ :: p => hasIx p
def Ann.pure : Ann → Bool
 | .no => true
 | .pair a b => a.pure && b.pure
 | _ => false
def Ann.whole : Ann → Bool
 | .hole => false
 | .pair a b => a.whole && b.whole
 | .own _ _ o => o.whole
 | .no => true
def Ann.frz : Ann → Ann
 | .own _ e o => .own false e o.frz
 | .pair a b => .pair a.frz b.frz
 | a => a
inductive E where
 | dead
 | und
 | v (T : Ty) (x : den T)
 | own (wr : Bool) (e : TypeId) (T : Ty) (o : Ann) (xs : List (den T))
 | loc (T : Ty) (o : Ann) (x : den T)
 | ref (s : Nat) (p : Path)
 | ptr (s : Nat) (p : Path)
 | ptre (s : Nat) (p : Path) (i : Nat) (q : Path)
 | at (T : Ty) (x : den T)
 | tup (es : List E)
 | clo (f : FuncId) (A C : Ty) (caps : List E)
 | it (s : List UInt8) (pos : Nat)
 | nw (T : Ty) (o : Ann) (x : den T)
abbrev Env := List (Nat × E)
def look : Env → Nat → E
 | [], _ => .dead
 | (j, e) :: r, k => match Nat.decEq j k with | .isTrue _ => e | .isFalse _ => look r k
def E.home : E → Bool
 | .own .. | .loc .. => true
 | _ => false
def leads (s : Nat) : E → Bool
 | .ref k _ | .ptr k _ | .ptre k _ _ _ => k == s
 | .clo _ _ _ caps => caps.any fun | .ref k _ | .ptr k _ | .ptre k _ _ _ => k == s | _ => false
 | _ => false
def kill (s : Nat) (env : Env) : Env := env.map fun q => if leads s q.2 then (q.1, .dead) else q
def shows (s : Nat) : E → Bool
 | .ptr _ _ => false
 | e => leads s e
def killR (s : Nat) (env : Env) : Env := env.map fun q => if shows s q.2 then (q.1, .dead) else q
def moved (s d : Nat) (env : Env) : Env := env.map fun q => match q.2 with
 | .ref k p => if k == s then (q.1, .ref d p) else q
 | .ptre k p i r => if k == s then (q.1, .ptre d p i r) else q
 | .clo f A C caps => if leads s (.clo f A C caps) then (q.1, .dead) else q
 | _ => q
def put (env : Env) (k : Nat) (e : E) : Env := (k, if leads k e then .dead else e) :: (if (look env k).home then kill k env else env)
def putO (env : Env) (k : Option Nat) (e : E) : Env := match k with | some k => put env k e | none => env
def freeze (env : Env) (s : Nat) : Env :=
 match look env s with
 | .own _ e T o xs => (s, .own false e T o.frz xs) :: env
 | .loc T o x => (s, .loc T o.frz x) :: env
 | _ => env
def led1 : E → List Nat
 | .ref k _ | .ptr k _ | .ptre k _ _ _ => [k]
 | _ => []
def ledTo : E → List Nat
 | .clo _ _ _ caps => caps.flatMap led1
 | e => led1 e
def keepE (live : List Nat) (e : E) : E := match (ledTo e).all fun s => live.any fun k => k == s with | true => e | false => .dead
def keep (live : List Nat) (env : Env) : Env := live.map fun k => (k, keepE live (look env k))
inductive Od where
 | t (k : Nat)
 | c (T : Ty) (x : den T)
 | nil (e : TypeId) (T : Ty)
 | fn (f : FuncId) (A C : Ty)
def ent (env : Env) : Od → E
 | .t k => look env k
 | .c T x => .v T x
 | .nil e T => .own true e T .no []
 | .fn f A C => .clo f A C []
structure Held where
 wr : Bool
 e : TypeId
 T : Ty
 o : Ann
 xs : List (den T)
def heldAt (env : Env) (s : Nat) (p : Path) : Option Held :=
 match look env s with
 | .own wr e T o xs => match p with | [] => some ⟨wr, e, T, o, xs⟩ | _ => none
 | .loc T o x => match annAt o p, getP T p x with
   | .own wr e o', some ⟨.sl T', xs⟩ => some ⟨wr, e, T', o', xs⟩
   | _, _ => none
 | _ => none
structure Cal where
 run : FuncId → List E → Option (List E)
 runK : {R : Type} → FuncId → List E → (List E → Option R) → Option R
 eqn : ∀ {R : Type} (f : FuncId) (es : List E) (k : List E → Option R), runK f es k = (run f es).bind k
instance : CoeFun Cal (fun _ => FuncId → List E → Option (List E)) := ⟨Cal.run⟩
def Cal.of (g : FuncId → List E → Option (List E)) : Cal := ⟨g, fun f es k => (g f es).bind k, fun _ _ _ => rfl⟩
def unpack : (A : Ty) → den A → List E
 | .pair A B, x => .v A x.1 :: unpack B x.2
 | _, _ => []
def unE (C : Ty) : List E → Option (den C)
 | [.v T x] => cast? C ⟨T, x⟩
 | _ => none
def argS (env : Env) : E → Option E
 | .v T x => some (.v T x)
 | .own _ _ T o xs => if o.pure then some (.v (.sl T) xs) else none
 | .ref s p => (heldAt env s p).bind fun h => if h.o.pure then some (.v (.sl h.T) h.xs) else none
 | .at T x => some (.at T x)
 | .ptr s p => match look env s with
   | .loc T o x => if (annAt o p).whole then (getP T p x).bind fun y => some (.at y.1 y.2) else none
   | _ => none
 | .ptre s p i q => (heldAt env s p).bind fun h => if h.o.pure && decide (i < h.xs.length) then (getP h.T q (h.xs.getD i (zero h.T))).bind fun y => some (.at y.1 y.2) else none
 | _ => none
def argsS (env : Env) : List E → Option (List E)
 | [] => some []
 | e :: r => (argS env e).bind fun x => (argsS env r).bind fun y => some (x :: y)
def imm (env : Env) (e : E) : Option TV :=
 match e with
 | .v T x => some ⟨T, x⟩
 | .own _ _ T o xs => if o.pure then some ⟨.sl T, xs⟩ else none
 | .ref s p => (heldAt env s p).bind fun h => if h.o.pure then some ⟨.sl h.T, h.xs⟩ else none
 | _ => none
def cloV (cl : Cal) (env : Env) (f : FuncId) (A C : Ty) (caps : List E) : Option E :=
 if scalarT C then (argsS env caps).bind fun cs => some (.v (.fn A C) fun x => (cl f (unpack A x ++ cs)).bind (unE C)) else none
def homeOf (k : Od) (e : E) : Option Nat :=
 match e with
 | .own .. => match k with | .t k => some k | _ => none
 | .ref s _ | .ptr s _ | .ptre s _ _ _ => some s
 | .loc .. => match k with | .t k => some k | _ => none
 | _ => none
def pub (env : Env) (k : Od) : Option (Env × TV) :=
 (imm env (ent env k)).bind fun y => some (match homeOf k (ent env k) with | some s => freeze env s | none => env, y)
def brB {α : Type} (b : Bool) (x y : α) : α := match b with | true => x | false => y
def arith (op : BinOp) (k : IntKind) (x y : Int) : Option Int :=
 match op with
 | .add => some (k.wrap (x + y))
 | .sub => some (k.wrap (x - y))
 | .mul => some (k.wrap (x * y))
 | .and => some (Go.bits .and k x y)
 | .or => some (Go.bits .or k x y)
 | .xor => some (Go.bits .xor k x y)
 | .andNot => some (Go.bits .andNot k x y)
 | _ => none
def cmpI (op : BinOp) (x y : Int) : Option Bool :=
 match op with
 | .eql => some (x == y)
 | .neq => some (x != y)
 | .lss => some (decide (x < y))
 | .leq => some (decide (x ≤ y))
 | .gtr => some (decide (x > y))
 | .geq => some (decide (x ≥ y))
 | _ => none
end Go.Fw
/- The abstract value machine: operations whose order is open, read through a reader that fails on what is dead. -/
namespace Go.Fw
open Go Go.RowKit
def Sub (L L' : Nat → E) : Prop := ∀ k, L k = .dead ∨ L' k = L k
structure Rd (α : Type) where
 run : (Nat → E) → Option α
 runK : {R : Type} → (Nat → E) → (α → Option R) → Option R
 mono : ∀ L L' x, Sub L L' → run L = some x → run L' = some x
 eqn : ∀ {R : Type} (L : Nat → E) (k : α → Option R), runK L k = (run L).bind k
namespace Rd
def ok {α : Type} (x : α) : Rd α := ⟨fun _ => some x, fun _ k => k x, fun _ _ _ _ h => h, fun _ _ => rfl⟩
def no {α : Type} : Rd α := ⟨fun _ => none, fun _ _ => none, fun _ _ _ _ h => h, fun _ _ => rfl⟩
def of {α : Type} (x : Option α) : Rd α := ⟨fun _ => x, fun _ k => x.bind k, fun _ _ _ _ h => h, fun _ _ => rfl⟩
def notDead : E → Option E
 | .dead => none
 | e => some e
def get (k : Nat) : Rd E := ⟨fun L => notDead (L k), fun L c => (notDead (L k)).bind c, fun L L' x hs h => by
 rcases hs k with h1 | h1
 ·rw [h1] at h; simp [notDead] at h
 ·rw [h1]; exact h, fun _ _ => rfl⟩
def bind {α β : Type} (a : Rd α) (f : α → Rd β) : Rd β := ⟨fun L => (a.run L).bind fun x => (f x).run L, fun L k => a.runK L fun x => (f x).runK L k, fun L L' x hs h => by
 obtain ⟨y, hy, h⟩ := Option.bind_eq_some_iff.1 h
 exact Option.bind_eq_some_iff.2 ⟨y, a.mono L L' y hs hy, (f y).mono L L' x hs h⟩, fun L k => by
 rw [a.eqn, Option.bind_assoc]; congr 1; funext x; exact (f x).eqn L k⟩
def ite {α : Type} (p : Prop) [Decidable p] (a b : Rd α) : Rd α := ⟨fun L => if p then a.run L else b.run L, fun L k => if p then a.runK L k else b.runK L k, fun L L' x hs h => by
 split
 ·rename_i hp; rw [if_pos hp] at h; exact a.mono L L' x hs h
 ·rename_i hp; rw [if_neg hp] at h; exact b.mono L L' x hs h, fun L k => by
 split
 ·exact a.eqn L k
 ·exact b.eqn L k⟩
def br {α : Type} (q : Bool) (a b : Rd α) : Rd α := ⟨fun L => brB q (a.run L) (b.run L), fun L k => brB q (a.runK L k) (b.runK L k), fun L L' x hs h => by
 cases q
 ·exact b.mono L L' x hs h
 ·exact a.mono L L' x hs h, fun L k => by
 cases q
 ·exact b.eqn L k
 ·exact a.eqn L k⟩
def call (cl : Cal) (f : FuncId) (es : List E) : Rd (List E) := ⟨fun _ => cl f es, fun _ k => cl.runK f es k, fun _ _ _ _ h => h, fun _ k => cl.eqn f es k⟩
end Rd
def entR : Od → Rd E
 | .t k => .get k
 | .c T x => .ok (.v T x)
 | .nil e T => .ok (.own true e T .no [])
 | .fn f A C => .ok (.clo f A C [])
def heldE (e : E) (p : Path) : Option Held :=
 match e with
 | .own wr e T o xs => match p with | [] => some ⟨wr, e, T, o, xs⟩ | _ => none
 | .loc T o x => match annAt o p, getP T p x with
   | .own wr e o', some ⟨.sl T', xs⟩ => some ⟨wr, e, T', o', xs⟩
   | _, _ => none
 | _ => none
def heldR (s : Nat) (p : Path) : Rd Held := (Rd.get s).bind fun e => .of (heldE e p)
def argPtr (p : Path) : E → Option E
 | .loc T o x => if (annAt o p).whole then (getP T p x).bind fun y => some (.at y.1 y.2) else none
 | _ => none
def argR : E → Rd E
 | .v T x => .ok (.v T x)
 | .own _ _ T o xs => .of (if o.pure then some (.v (.sl T) xs) else none)
 | .ref s p => (heldR s p).bind fun h => .of (if h.o.pure then some (.v (.sl h.T) h.xs) else none)
 | .at T x => .ok (.at T x)
 | .ptr s p => (Rd.get s).bind fun e => .of (argPtr p e)
 | .ptre s p i q => (heldR s p).bind fun h => .of (if h.o.pure && decide (i < h.xs.length) then (getP h.T q (h.xs.getD i (zero h.T))).bind fun y => some (.at y.1 y.2) else none)
 | _ => .no
def argsR : List E → Rd (List E)
 | [] => .ok []
 | e :: r => (argR e).bind fun x => (argsR r).bind fun y => .ok (x :: y)
def immR : E → Rd TV
 | .v T x => .ok ⟨T, x⟩
 | .own _ _ T o xs => .of (if o.pure then some ⟨.sl T, xs⟩ else none)
 | .ref s p => (heldR s p).bind fun h => .of (if h.o.pure then some ⟨.sl h.T, h.xs⟩ else none)
 | _ => .no
def cloR (cl : Cal) (f : FuncId) (A C : Ty) (caps : List E) : Rd E :=
 if scalarT C then (argsR caps).bind fun cs => .ok (.v (.fn A C) fun x => (cl f (unpack A x ++ cs)).bind (unE C)) else .no
theorem ent_run (env : Env) (x : Od) : (entR x).run (look env) = Rd.notDead (ent env x) := by
 cases x <;> rfl
theorem heldE_look (env : Env) (s : Nat) (p : Path) : heldAt env s p = heldE (look env s) p := by
 unfold heldAt heldE
 rfl
theorem held_run (env : Env) (s : Nat) (p : Path) : (heldR s p).run (look env) = heldAt env s p := by
 rw [heldE_look]
 show (Rd.notDead (look env s)).bind (fun e => heldE e p) = _
 cases look env s <;> rfl
theorem arg_run (env : Env) (e : E) : (argR e).run (look env) = argS env e := by
 cases e <;> try rfl
 ·rename_i s p
  show ((heldR s p).run (look env)).bind _ = _
  rw [held_run]; rfl
 ·rename_i s p
  show (Rd.notDead (look env s)).bind (fun e => argPtr p e) = _
  simp only [argS]
  cases look env s <;> rfl
 ·rename_i s p i q
  show ((heldR s p).run (look env)).bind _ = _
  rw [held_run]; rfl
theorem args_run (env : Env) : ∀ (es : List E), (argsR es).run (look env) = argsS env es
 | [] => rfl
 | e :: r => by
   show ((argR e).run (look env)).bind (fun x => ((argsR r).run (look env)).bind fun y => some (x :: y)) = _
   rw [arg_run, args_run env r]; rfl
theorem imm_run (env : Env) (e : E) : (immR e).run (look env) = imm env e := by
 cases e <;> try rfl
 rename_i s p
 show ((heldR s p).run (look env)).bind _ = _
 rw [held_run]; rfl
theorem clo_run (cl : Cal) (env : Env) (f : FuncId) (A C : Ty) (caps : List E) : (cloR cl f A C caps).run (look env) = cloV cl env f A C caps := by
 unfold cloR cloV
 split
 ·show ((argsR caps).run (look env)).bind _ = _
  rw [args_run]; rfl
 ·rfl
end Go.Fw
/- The abstract value machine, part 3: steps, code, calls. -/
namespace Go.Fw
open Go Go.RowKit
inductive AOp where
 | mv (x : Od)
 | asg (x : Od)
 | pick (c a b : Od)
 | alloc (T : Ty) (o : Ann)
 | box (T : Ty) (x : Od)
 | build (T : Ty) (parts : List (Path × Od))
 | buildN (T : Ty) (o : Ann) (parts : List (Path × Od))
 | buildSlice (e : TypeId) (T : Ty) (parts : List Od)
 | load (T : Ty) (a : Od)
 | store (T : Ty) (a x : Od)
 | bin (op : BinOp) (x y : Od)
 | un (op : UnOp) (x : Od)
 | convI (k : IntKind) (x : Od)
 | fieldAddr (S : Ty) (p : Path) (a : Od)
 | indexAddr (T : Ty) (x i : Od)
 | indexArr (n : Nat) (T : Ty) (x i : Od)
 | field (S : Ty) (p : Path) (x : Od)
 | indexS (x i : Od)
 | indexA (n : Nat) (T : Ty) (x i : Od)
 | sliceS (x : Od) (lo hi : Option Od)
 | sliceL (T : Ty) (x : Od) (lo hi mx : Option Od)
 | eqT (neg : Bool) (T : Ty) (x y : Od)
 | mkSlice (e : TypeId) (T : Ty) (lim : Nat) (len cap : Od)
 | append (e : TypeId) (T : Ty) (lim : Nat) (s x : Od)
 | lenS (x : Od)
 | lenL (x : Od)
 | lenA (n : Nat)
 | mm (max : Bool) (x y : Od)
 | call (f : FuncId) (args : List Od)
 | callv (x : Od) (args : List Od)
 | extract (k : Nat) (i : Nat)
 | mkfn (f : FuncId) (A C : Ty) (caps : List Od)
 | rng (x : Od)
 | nxt (k : Nat)
 | bad
 | nilck (x : Od)
 | toSl (x : Od)
 | toStr (x : Od)
 | callF (f : FuncId) (args : List Od)
 | callN (f : FuncId) (args : List Od)
 | cp (x : Od)
 | wrl (f : FuncId) (x : Od)
structure AI where
 dst : Option Nat
 op : AOp
 guard : Option (Nat × Bool) := none
abbrev Kont (R : Type) := Env → Option R
def Od.slot : Od → Option Nat | .t k => some k | _ => none
def intOf? : E → Option (IntKind × Int)
 | .v (.int k) n => some (k, n)
 | _ => none
def boolOf? : E → Option Bool
 | .v .bool b => some b
 | _ => none
def strOf? : E → Option (List UInt8)
 | .v .str s => some s
 | _ => none
def optInt (env : Env) : Option Od → Option (Option Int)
 | none => some none
 | some x => (intOf? (ent env x)).bind fun q => some (some q.2)
def fz1 : E → E
 | .own _ e T o xs => .own false e T o.frz xs
 | e => e
def fzE : E → E
 | .tup es => .tup (es.map fz1)
 | e => fz1 e
def fzD (d : Option Nat) (env : Env) : Env := match d, env with
 | some _, (k, e) :: r => (k, fzE e) :: r
 | _, env => env
def copyE (x : Od) (e : E) : E :=
 match e with
 | .own .. => match x with | .t k => .ref k [] | _ => e
 | .loc .. => match x with | .t k => .ptr k [] | _ => e
 | .tup _ => .dead
 | .it _ _ => .dead
 | _ => e
def moveE (env : Env) (d : Option Nat) (x : Od) : Env :=
 match ent env x with
 | .tup es => match x, d with
   | .t k, some d => if k == d then env else (d, .tup es) :: (k, .dead) :: (if (look env d).home then kill d env else env)
   | _, _ => putO env d .dead
 | e => putO env d (copyE x e)
def assign (env : Env) (d : Nat) (x : Od) : Env :=
 match ent env x with
 | .own wr e T o xs => match x with
   | .t k => if k == d then env else
     let env := if (look env d).home then kill d env else env
     (d, .own wr e T o xs) :: (k, .ref d []) :: moved k d env
   | _ => put env d (.own wr e T o xs)
 | e => put env d (copyE x e)
def beqV : (T : Ty) → Option (den T → den T → Bool)
 | .int _ => some fun x y => x == y
 | .bool => some fun x y => x == y
 | .str => some fun x y => x == y
 | .unit => some fun _ _ => true
 | .pair A B => match beqV A, beqV B with
   | some f, some g => some fun x y => f x.1 y.1 && g x.2 y.2
   | _, _ => none
 | _ => none
def buildV : (T : Ty) → den T → Env → List (Path × Od) → Option (Env × den T)
 | _, x, env, [] => some (env, x)
 | T, x, env, (p, a) :: r => (pub env a).bind fun q => (setP T p x q.2).bind fun y => buildV T y q.1 r
def buildL (T : Ty) : Env → List Od → Option (Env × List (den T))
 | env, [] => some (env, [])
 | env, a :: r => (pub env a).bind fun q => (cast? T q.2).bind fun x => (buildL T q.1 r).bind fun z => some (z.1, x :: z.2)
def argList (cl : Cal) (env : Env) : List Od → Option (List E)
 | [] => some []
 | a :: r =>
   (match ent env a with
    | .loc T o x => if o.whole then some (E.at T x) else none
    | .clo f A C caps => cloV cl env f A C caps
    | e => argS env e).bind fun x => (argList cl env r).bind fun y => some (x :: y)
def freezeAll (env : Env) : List Od → Env
 | [] => env
 | a :: r => freezeAll (match homeOf a (ent env a) with | some s => freeze env s | none => env) r
def E.plain : E → Bool
 | .v T _ => scalarT T
 | .own _ _ T _ _ => scalarT T
 | _ => false
def resE : List E → E
 | [e] => e
 | es => .tup es
def tuple : (A : Ty) → List E → Option (den A)
 | .unit, [] => some ()
 | .pair A B, .v T x :: r => (cast? A ⟨T, x⟩).bind fun y => (tuple B r).bind fun z => some (y, z)
 | _, _ => none
variable {R : Type}
def locPlace (env : Env) (y : Od) : Option (Nat × Path) :=
 match ent env y with
 | .ptr s p => some (s, p)
 | .loc .. => y.slot.map fun k => (k, [])
 | _ => none
def placeOf (env : Env) (k0 : Nat) : Option (Nat × Path) :=
 match look env k0 with
 | .own .. => some (k0, [])
 | .ref k p => some (k, p)
 | _ => none
def takeAt (env : Env) (k : Nat) (p : Path) : Option Env :=
 match look env k with
 | .own .. => some ((k, .dead) :: kill k env)
 | .loc T0 o x0 => some ((k, .loc T0 (setAnn o p .hole) x0) :: killR k env)
 | _ => none
def apart (d : Option Nat) (k : Nat) : Bool := match d with | some d => !(d == k) | none => false
def E.cap : E → Bool
 | .tup _ | .clo _ _ _ _ | .own .. | .it _ _ => false
 | _ => true
def valOf? : E → Option TV
 | .v T x => some ⟨T, x⟩
 | _ => none
def ownS (env : Env) : Od → Option Nat
 | .t k => match look env k with
   | .own .. => some k
   | .ref s [] => some s
   | _ => none
 | _ => none
def ownL? : List E → Option TV
 | [.own _ _ T _ ys] => some ⟨.sl T, ys⟩
 | _ => none
def step (cl : Cal) (i : AI) (env : Env) (K : Kont R) : Option R :=
 match i.op with
 | .mv x => K (moveE env i.dst x)
 | .asg x => match i.dst with | some d => K (assign env d x) | none => none
 | .pick c a b => (boolOf? (ent env c)).bind fun q => brB q (K (putO env i.dst (copyE a (ent env a)))) (K (putO env i.dst (copyE b (ent env b))))
 | .alloc T o => K (putO env i.dst (.loc T o (zero T)))
 | .box T x => (pub env x).bind fun q => (cast? T q.2).bind fun y => K (putO q.1 i.dst (.loc T .no y))
 | .build T parts => (buildV T (zero T) env parts).bind fun q => K (putO q.1 i.dst (.v T q.2))
 | .buildN T o parts => (buildV T (zero T) env parts).bind fun q => K (putO q.1 i.dst (.nw T (annParts o parts) q.2))
 | .buildSlice e T parts => (buildL T env parts).bind fun q => K (putO q.1 i.dst (.own true e T .no q.2))
 | .load T a => match ent env a with
   | .at T' x => (cast? T ⟨T', x⟩).bind fun y => K (putO env i.dst (.v T y))
   | .ptre s p j q => (heldAt env s p).bind fun h => if j < h.xs.length then
     (if h.o.pure then (getP h.T q (h.xs.getD j (zero h.T))).bind fun z => (cast? T z).bind fun y => K (putO env i.dst (.v T y)) else none) else none
   | _ => match locPlace env a with
     | some (s, p) => match look env s with
       | .loc T0 o x => match annAt o p with
         | .own .. => match getP T0 p x with
           | some ⟨.sl T', _⟩ => if T = .sl T' then K (putO env i.dst (.ref s p)) else none
           | _ => none
         | b => if b.whole then (getP T0 p x).bind fun z => (cast? T z).bind fun y =>
             K (putO (if b.pure then env else freeze env s) i.dst (.v T y)) else none
       | _ => none
     | none => none
 | .store T a x => match ent env a with
   | .ptre s p j q => match look env s with
     | .own true e T0 o xs => match p with
       | [] => (pub env x).bind fun y => (cast? T y.2).bind fun z => if j < xs.length then
         (setP T0 q (xs.getD j (zero T0)) ⟨T, z⟩).bind fun u => (match look y.1 s with | .own true .. => some () | _ => none).bind fun _ => if o.pure then K ((s, .own true e T0 o (xs.set j u)) :: y.1) else none else none
       | _ => none
     | .loc T0 o x0 => (valOf? (ent env x)).bind fun y => (cast? T y).bind fun z => match annAt o p, getP T0 p x0 with
       | .own true _ o', some ⟨.sl T1, xs⟩ => if j < xs.length then (setP T1 q (xs.getD j (zero T1)) ⟨T, z⟩).bind fun u => (setP T0 p x0 ⟨.sl T1, xs.set j u⟩).bind fun x1 =>
         if o'.pure then K ((s, .loc T0 o x1) :: env) else none else none
       | _, _ => none
     | _ => none
   | _ => match locPlace env a with
     | some (s, p) => match look env s with
       | .loc T0 o x0 =>
         if (scalarT T) then
          (imm env (ent env x)).bind fun y => (cast? T y).bind fun z => (setP T0 p x0 ⟨T, z⟩).bind fun x1 => K ((s, .loc T0 o x1) :: env)
         else match ent env x with
         | .own wr e T1 o1 xs => match x with
           | .t k => (cast? T ⟨.sl T1, xs⟩).bind fun z => (setP T0 p x0 ⟨T, z⟩).bind fun x1 => match hasIx p with
             | true => none
             | false => K ((s, .loc T0 (setAnn o p (.own wr e o1)) x1) :: (k, .ref s p) :: killR s (kill k env))
           | _ => (cast? T ⟨.sl T1, xs⟩).bind fun z => (setP T0 p x0 ⟨T, z⟩).bind fun x1 => match hasIx p with
             | true => none
             | false => K ((s, .loc T0 (setAnn o p (.own wr e o1)) x1) :: killR s env)
         | .nw T1 o1 x2 => (cast? T ⟨T1, x2⟩).bind fun z => (setP T0 p x0 ⟨T, z⟩).bind fun x1 => match hasIx p || !o1.whole with
           | true => none
           | false => K ((s, .loc T0 (setAnn o p o1) x1) :: killR s env)
         | _ => (pub env x).bind fun y => (cast? T y.2).bind fun z => match look y.1 s with
           | .loc T0 o x0 => (setP T0 p x0 ⟨T, z⟩).bind fun x1 => match (annAt o p).pure with
             | true => K ((s, .loc T0 o x1) :: y.1)
             | false => K ((s, .loc T0 (setAnn o p .no) x1) :: killR s y.1)
           | _ => none
       | _ => none
     | none => none
 | .bin op x y => match ent env x, ent env y with
   | .v (.int k) m, .v (.int k') n => if k = k' then
     (match op with
      | .quo => if n = 0 then none else K (putO env i.dst (.v (.int k) (k.wrap (m.tdiv n))))
      | .rem => if n = 0 then none else K (putO env i.dst (.v (.int k) (m.tmod n)))
      | _ => match cmpI op m n with
        | some b => K (putO env i.dst (.v .bool b))
        | none => (arith op k m n).bind fun r => K (putO env i.dst (.v (.int k) r))) else none
   | .v .str s, .v .str t => match op with
     | .eql => K (putO env i.dst (.v .bool (s == t)))
     | .neq => K (putO env i.dst (.v .bool (s != t)))
     | .add => if s.length + t.length ≤ 140737488355328 then K (putO env i.dst (.v .str (s ++ t))) else none
     | .lss => K (putO env i.dst (.v .bool (Op.bytesLess s t)))
     | .leq => K (putO env i.dst (.v .bool (Op.bytesLess s t || s == t)))
     | .gtr => K (putO env i.dst (.v .bool (!(Op.bytesLess s t || s == t))))
     | .geq => K (putO env i.dst (.v .bool (!Op.bytesLess s t)))
     | _ => none
   | _, _ => none
 | .eqT neg T x y => (imm env (ent env x)).bind fun s => (imm env (ent env y)).bind fun t => (cast? T s).bind fun s => (cast? T t).bind fun t => (beqV T).bind fun f =>
   K (putO env i.dst (.v .bool (if neg then !f s t else f s t)))
 | .un op x => match op, ent env x with
   | .not, .v .bool b => K (putO env i.dst (.v .bool (!b)))
   | .neg, .v (.int k) n => K (putO env i.dst (.v (.int k) (k.wrap (0 - n))))
   | _, _ => none
 | .convI k x => (intOf? (ent env x)).bind fun q => K (putO env i.dst (.v (.int k) (k.wrap q.2)))
 | .fieldAddr S p a => match ent env a with
   | .at T x => (cast? S ⟨T, x⟩).bind fun x => (getP S p x).bind fun y => K (putO env i.dst (.at y.1 y.2))
   | .ptr s q => match look env s with
     | .loc T0 _ _ => if subT T0 q = some S then K (putO env i.dst (.ptr s (q ++ p))) else none
     | _ => none
   | .ptre s q j r => (heldAt env s q).bind fun h => if subT h.T r = some S then K (putO env i.dst (.ptre s q j (r ++ p))) else none
   | .loc T0 _ _ => if T0 = S then a.slot.bind fun k => K (putO env i.dst (.ptr k p)) else none
   | _ => none
 | .indexAddr T x ix => (intOf? (ent env ix)).bind fun q => match ent env x with
   | .v T' xs => (cast? (.sl T) ⟨T', xs⟩).bind fun xs => if 0 ≤ q.2 ∧ q.2 < (xs.length : Int) then K (putO env i.dst (.at T (xs.getD q.2.toNat (zero T)))) else none
   | .own _ _ T' _ xs => if T' = T then x.slot.bind fun s => if 0 ≤ q.2 ∧ q.2 < (xs.length : Int) then K (putO env i.dst (.ptre s [] q.2.toNat [])) else none else none
   | .ref s p => (heldAt env s p).bind fun h => if h.T = T then if 0 ≤ q.2 ∧ q.2 < (h.xs.length : Int) then K (putO env i.dst (.ptre s p q.2.toNat [])) else none else none
   | _ => none
 | .indexArr n T x ix => (intOf? (ent env ix)).bind fun q => match ent env x with
   | .at T' xs => (cast? (.arr n T) ⟨T', xs⟩).bind fun xs => if 0 ≤ q.2 ∧ q.2 < (n : Int) then K (putO env i.dst (.at T (xs.getD q.2.toNat (zero T)))) else none
   | _ => match locPlace env x with
     | some (s, p) => match look env s with
       | .loc T0 _ _ => if subT T0 p = some (.arr n T) then if 0 ≤ q.2 ∧ q.2 < (n : Int) then K (putO env i.dst (.ptr s (p ++ [.ix q.2.toNat]))) else none else none
       | _ => none
     | none => none
 | .field S p x => (imm env (ent env x)).bind fun y => (cast? S y).bind fun y => (getP S p y).bind fun z => K (putO env i.dst (.v z.1 z.2))
 | .indexS x ix => (intOf? (ent env ix)).bind fun q => (strOf? (ent env x)).bind fun s =>
   if 0 ≤ q.2 ∧ q.2 < (s.length : Int) then K (putO env i.dst (.v (.int .u8) ((s.getD q.2.toNat 0).toNat : Int))) else none
 | .indexA n T x ix => (intOf? (ent env ix)).bind fun q => match ent env x with
   | .v T' xs => (cast? (.arr n T) ⟨T', xs⟩).bind fun xs => if 0 ≤ q.2 ∧ q.2 < (n : Int) then K (putO env i.dst (.v T (xs.getD q.2.toNat (zero T)))) else none
   | _ => none
 | .sliceS x lo hi => (optInt env lo).bind fun lo => (optInt env hi).bind fun hi => (strOf? (ent env x)).bind fun s =>
   if 0 ≤ lo.getD 0 ∧ lo.getD 0 ≤ hi.getD (s.length : Int) ∧ hi.getD (s.length : Int) ≤ (s.length : Int) then
    K (putO env i.dst (.v .str ((s.drop (lo.getD 0).toNat).take ((hi.getD (s.length : Int)).toNat - (lo.getD 0).toNat)))) else none
 | .sliceL T x lo hi mx => (optInt env lo).bind fun lo => (optInt env hi).bind fun hi => (optInt env mx).bind fun mx => (pub env x).bind fun y => (cast? (.sl T) y.2).bind fun xs =>
   if 0 ≤ lo.getD 0 ∧ lo.getD 0 ≤ hi.getD (xs.length : Int) ∧ hi.getD (xs.length : Int) ≤ mx.getD (xs.length : Int) ∧ mx.getD (xs.length : Int) ≤ (xs.length : Int) then
    K (putO y.1 i.dst (.v (.sl T) ((xs.drop (lo.getD 0).toNat).take ((hi.getD (xs.length : Int)).toNat - (lo.getD 0).toNat)))) else none
 | .mkSlice e T lim l c => match ent env l, ent env c with
   | .v (.int .i64) m, .v (.int .i64) n => if 0 ≤ m ∧ m ≤ n ∧ n ≤ (lim : Int) then K (putO env i.dst (.own true e T .no (List.replicate m.toNat (zero T)))) else none
   | _, _ => none
 | .append e T lim s x => (pub env x).bind fun y => (cast? (.sl T) y.2).bind fun ys => match s with
   | .nil e' _ => if e = e' then if ys.length ≤ lim then K (putO y.1 i.dst (.own true e T .no ys)) else none else none
   | .t k0 => (placeOf y.1 k0).bind fun q => (heldAt y.1 q.1 q.2).bind fun h => (cast? (.sl T) ⟨.sl h.T, h.xs⟩).bind fun xs => (takeAt y.1 q.1 q.2).bind fun env2 =>
     match apart i.dst q.1 && h.o.pure && (h.e == e) with
     | true => if xs.length + ys.length ≤ lim then K (putO env2 i.dst (.own h.wr e T .no (xs ++ ys))) else none
     | false => none
   | _ => none
 | .lenS x => (strOf? (ent env x)).bind fun s => K (putO env i.dst (.v (.int .i64) (s.length : Int)))
 | .lenL x => (imm env (ent env x)).bind fun y => match y with
   | ⟨.sl _, xs⟩ => K (putO env i.dst (.v (.int .i64) (xs.length : Int)))
   | _ => none
 | .lenA m => K (putO env i.dst (.v (.int .i64) (m : Int)))
 | .mm mx x y => match ent env x, ent env y with
   | .v (.int k) m, .v (.int k') n => if k = k' then K (putO env i.dst (.v (.int k) (if mx then (if n > m then n else m) else (if n < m then n else m)))) else none
   | _, _ => none
 | .call f args => (argList cl env args).bind fun as => cl.runK f as fun res =>
   K (putO (if res.all E.plain then env else freezeAll env args) i.dst (resE res))
 | .callF f args => (argList cl env args).bind fun as => cl.runK f as fun res =>
   K (fzD i.dst (putO (if res.all E.plain then env else freezeAll env args) i.dst (resE res)))
 | .callN f args => (argList cl env args).bind fun as => cl.runK f (.dead :: as) fun res =>
   K (putO (if res.all E.plain then env else freezeAll env args) i.dst (resE res))
 | .cp x => (pub env x).bind fun q => K (putO q.1 i.dst (.v q.2.1 q.2.2))
 | .wrl f x => (ownS env x).bind fun s => match look env s with
   | .own true e T .no xs => if scalarT T && !(e == BUF) then cl.runK f [.und, .own true e T .no xs] fun res =>
     (ownL? res).bind fun y => (cast? (.sl T) y).bind fun ys => K (putO ((s, .own true e T .no ys) :: env) i.dst (.tup [])) else none
   | _ => none
 | .callv x args => match ent env x with
   | .v (.fn A C) g => (argList cl env args).bind fun as => (tuple A as).bind fun a => (g a).bind fun r => if scalarT C then K (putO env i.dst (.v C r)) else none
   | .clo f _ _ caps => (argList cl env args).bind fun as => (argsS env caps).bind fun cs => cl.runK f (as ++ cs) fun res =>
     if res.all E.plain then K (putO env i.dst (resE res)) else none
   | _ => none
 | .extract k j => match look env k with
   | .tup es => match es[j]? with
     | some e => (match e with
       | .v T x => K (putO env i.dst (.v T x))
       | .own wr e' T o xs => match !wr && o.pure with
         | true => K (putO env i.dst (.v (.sl T) xs))
         | false => K (putO ((k, .tup (es.set j .dead)) :: env) i.dst (.own wr e' T o xs))
       | _ => none)
     | none => none
   | _ => none
 | .mkfn f A C caps => if (caps.all fun a => (ent env a).cap) then K (putO env i.dst (.clo f A C (caps.map fun a => copyE a (ent env a)))) else none
 | .bad => none
 | .toSl x => (strOf? (ent env x)).bind fun s => K (putO env i.dst (.own true BUF (.int .u8) .no (s.map fun b => (b.toNat : Int))))
 | .toStr x => (imm env (ent env x)).bind fun y => (cast? (.sl (.int .u8)) y).bind fun xs => K (putO env i.dst (.v .str (xs.map fun n => UInt8.ofNat n.toNat)))
 | .nilck x => match ent env x with
   | .ptr .. | .ptre .. | .at .. | .loc .. => K (putO env i.dst (copyE x (ent env x)))
   | _ => none
 | .rng x => (strOf? (ent env x)).bind fun s => K (putO env i.dst (.it s 0))
 | .nxt k => match look env k with
   | .it s pos => brB (decide (pos < s.length)) (K (putO ((k, .it s (pos + (Utf8.decode ⟨⟨s⟩⟩ pos).2)) :: env) i.dst (.tup [.v .bool true, .v (.int .i64) (pos : Int), .v (.int .i32) ((Utf8.decode ⟨⟨s⟩⟩ pos).1 : Int)]))) (K (putO env i.dst (.tup [.v .bool false])))
   | _ => none
def guardX (g : Option (Nat × Bool)) (env : Env) (yes no : Kont R) : Option R :=
 match g with
 | none => yes env
 | some (s, pol) => match look env s with
   | .v .bool b => brB b ((if pol then yes else no) ((s, .v .bool true) :: env)) ((if pol then no else yes) ((s, .v .bool false) :: env))
   | .und => no env
   | _ => none
def ops (cl : Cal) : List AI → Env → Kont R → Option R
 | [], env, K => K env
 | i :: r, env, K => guardX i.guard env (fun env => step cl i env (fun env => ops cl r env K)) (fun env => ops cl r (putO env i.dst .und) K)
def leadsOff (d : Nat) (e : E) : E := if leads d e then .dead else e
def one (d : Option Nat) (e : E) : List (Nat × E) := match d with | some d => [(d, leadsOff d e)] | none => []
def E.lie : E → Bool
 | .own .. | .loc .. | .tup _ | .dead | .it _ _ => false
 | _ => true
def lieR (x : Od) : Rd E := (entR x).bind fun e => if e.lie then .ok e else .no
def cpE (x : Od) (e : E) : Option E :=
 match e with
 | .tup _ | .dead | .it _ _ => none
 | .own .. | .loc .. => match x with | .t _ => some (copyE x e) | _ => none
 | e => some e
def cpR (x : Od) : Rd E := (entR x).bind fun e => match cpE x e with | some f => .ok f | none => .no
def intR (x : Od) : Rd (IntKind × Int) := (entR x).bind fun e => .of (intOf? e)
def boolR (x : Od) : Rd Bool := (entR x).bind fun e => .of (boolOf? e)
def strR (x : Od) : Rd (List UInt8) := (entR x).bind fun e => .of (strOf? e)
def optIntR : Option Od → Rd (Option Int)
 | none => .ok none
 | some x => (intR x).bind fun q => .ok (some q.2)
def valR (x : Od) : Rd TV := (entR x).bind fun e => .of (valOf? e)
def binR (op : BinOp) (a b : E) : Rd E :=
 match a, b with
 | .v (.int k) m, .v (.int k') n => if k = k' then
   (match op with
    | .quo => .ite (n = 0) .no (.ok (.v (.int k) (k.wrap (m.tdiv n))))
    | .rem => .ite (n = 0) .no (.ok (.v (.int k) (m.tmod n)))
    | _ => match cmpI op m n with
      | some b => .ok (.v .bool b)
      | none => match arith op k m n with
        | some r => .ok (.v (.int k) r)
        | none => .no) else .no
 | .v .str s, .v .str t => match op with
   | .eql => .ok (.v .bool (s == t))
   | .neq => .ok (.v .bool (s != t))
   | .add => .ite (s.length + t.length ≤ 140737488355328) (.ok (.v .str (s ++ t))) .no
   | .lss => .ok (.v .bool (Op.bytesLess s t))
   | .leq => .ok (.v .bool (Op.bytesLess s t || s == t))
   | .gtr => .ok (.v .bool (!(Op.bytesLess s t || s == t)))
   | .geq => .ok (.v .bool (!Op.bytesLess s t))
   | _ => .no
 | _, _ => .no
def unOE (op : UnOp) (x : E) : Option E :=
 match op, x with
 | .not, .v .bool b => some (.v .bool (!b))
 | .neg, .v (.int k) n => some (.v (.int k) (k.wrap (0 - n)))
 | _, _ => none
def placeR (x : Od) : Rd ((Nat × Path) × E) := (entR x).bind fun e => match e with
 | .ptr s p => (Rd.get s).bind fun f => .ok ((s, p), f)
 | .loc .. => match x with | .t k => .ok ((k, []), e) | _ => .no
 | _ => .no
def loadR (T : Ty) (s : Nat) (p : Path) : E → Rd E
 | .loc T0 o x => match annAt o p with
   | .own .. => match getP T0 p x with
     | some ⟨.sl T', _⟩ => if T = .sl T' then .ok (.ref s p) else .no
     | _ => .no
   | b => if b.whole && b.pure then (Rd.of ((getP T0 p x).bind fun z => cast? T z)).bind fun y => .ok (.v T y) else .no
 | _ => .no
def loadH (T : Ty) (j : Nat) (q : Path) (h : Held) : Rd E :=
 .ite (j < h.xs.length)
  (if h.o.pure then (Rd.of ((getP h.T q (h.xs.getD j (zero h.T))).bind fun z => cast? T z)).bind fun y => .ok (.v T y) else .no) .no
def fldE (S : Ty) (s : Nat) (q p : Path) : E → Option E
 | .loc T0 _ _ => if subT T0 q = some S then some (.ptr s (q ++ p)) else none
 | _ => none
def arrR (n : Nat) (T : Ty) (i : Int) (s : Nat) (p : Path) : E → Rd E
 | .loc T0 _ _ => if subT T0 p = some (.arr n T) then .ite (0 ≤ i ∧ i < (n : Int)) (.ok (.ptr s (p ++ [.ix i.toNat]))) .no else .no
 | _ => .no
def buildR : (T : Ty) → den T → List (Path × Od) → Rd (den T)
 | _, x, [] => .ok x
 | T, x, (p, a) :: r => (valR a).bind fun q => (Rd.of (setP T p x q)).bind fun y => buildR T y r
def buildLR (T : Ty) : List Od → Rd (List (den T))
 | [] => .ok []
 | a :: r => (valR a).bind fun q => (Rd.of (cast? T q)).bind fun x => (buildLR T r).bind fun z => .ok (x :: z)
def argR1 (cl : Cal) : E → Rd E
 | .loc T o x => if o.whole then .ok (E.at T x) else .no
 | .clo f A C caps => cloR cl f A C caps
 | e => argR e
def argListR (cl : Cal) : List Od → Rd (List E)
 | [] => .ok []
 | a :: r => ((entR a).bind (argR1 cl)).bind fun x => (argListR cl r).bind fun y => .ok (x :: y)
def homelessR : List Od → Rd Unit
 | [] => .ok ()
 | a :: r => (entR a).bind fun e => if (homeOf a e).isNone then homelessR r else .no
def resR (args : List Od) (res : List E) : Rd E := if res.all E.plain then .ok (resE res) else (homelessR args).bind fun _ => .ok (resE res)
def capsR : List Od → Rd (List E)
 | [] => .ok []
 | a :: r => (entR a).bind fun e => if e.cap then (capsR r).bind fun y => .ok (copyE a e :: y) else .no
def extE (j : Nat) : E → Option E
 | .tup es => match es[j]? with
   | some (.v T x) => some (.v T x)
   | some (.own false _ T o xs) => if o.pure then some (.v (.sl T) xs) else none
   | _ => none
 | _ => none
def valE (cl : Cal) (d : Option Nat) : AOp → Rd E
 | .mv x => cpR x
 | .asg x => if d.isSome then lieR x else .no
 | .pick c a b => (boolR c).bind fun q => .br q (cpR a) (cpR b)
 | .alloc T o => .ok (.loc T o (zero T))
 | .box T x => (valR x).bind fun q => (Rd.of (cast? T q)).bind fun y => .ok (.loc T .no y)
 | .build T parts => (buildR T (zero T) parts).bind fun y => .ok (.v T y)
 | .buildN T o parts => (buildR T (zero T) parts).bind fun y => .ok (.nw T (annParts o parts) y)
 | .buildSlice e T parts => (buildLR T parts).bind fun y => .ok (.own true e T .no y)
 | .load T a => (entR a).bind fun e => match e with
   | .at T' x => (Rd.of (cast? T ⟨T', x⟩)).bind fun y => .ok (.v T y)
   | .ptre s p j q => (heldR s p).bind fun h => loadH T j q h
   | .ptr s p => (Rd.get s).bind fun f => loadR T s p f
   | .loc .. => match a with | .t k => loadR T k [] e | _ => .no
   | _ => .no
 | .bin op x y => (entR x).bind fun a => (entR y).bind fun b => binR op a b
 | .eqT neg T x y => (entR x).bind fun a => (entR y).bind fun b => (immR a).bind fun s => (immR b).bind fun t => (Rd.of (cast? T s)).bind fun s => (Rd.of (cast? T t)).bind fun t => (Rd.of (beqV T)).bind fun f =>
   .ok (.v .bool (if neg then !f s t else f s t))
 | .un op x => (entR x).bind fun a => .of (unOE op a)
 | .convI k x => (intR x).bind fun q => .ok (.v (.int k) (k.wrap q.2))
 | .fieldAddr S p a => (entR a).bind fun e => match e with
   | .at T x => (Rd.of (cast? S ⟨T, x⟩)).bind fun x => (Rd.of (getP S p x)).bind fun y => .ok (.at y.1 y.2)
   | .ptr s q => (Rd.get s).bind fun f => .of (fldE S s q p f)
   | .ptre s q j r => (heldR s q).bind fun h => if subT h.T r = some S then .ok (.ptre s q j (r ++ p)) else .no
   | .loc T0 _ _ => if T0 = S then match a with | .t k => .ok (.ptr k p) | _ => .no else .no
   | _ => .no
 | .indexAddr T x ix => (intR ix).bind fun q => (entR x).bind fun e => match e with
   | .v T' xs => (Rd.of (cast? (.sl T) ⟨T', xs⟩)).bind fun xs => .ite (0 ≤ q.2 ∧ q.2 < (xs.length : Int)) (.ok (.at T (xs.getD q.2.toNat (zero T)))) .no
   | .own _ _ T' _ xs => if T' = T then match x with | .t s => .ite (0 ≤ q.2 ∧ q.2 < (xs.length : Int)) (.ok (.ptre s [] q.2.toNat [])) .no | _ => .no else .no
   | .ref s p => (heldR s p).bind fun h => if h.T = T then .ite (0 ≤ q.2 ∧ q.2 < (h.xs.length : Int)) (.ok (.ptre s p q.2.toNat [])) .no else .no
   | _ => .no
 | .indexArr n T x ix => (intR ix).bind fun q => (entR x).bind fun e => match e with
   | .at T' xs => (Rd.of (cast? (.arr n T) ⟨T', xs⟩)).bind fun xs => .ite (0 ≤ q.2 ∧ q.2 < (n : Int)) (.ok (.at T (xs.getD q.2.toNat (zero T)))) .no
   | .ptr s p => (Rd.get s).bind fun f => arrR n T q.2 s p f
   | .loc .. => match x with | .t k => arrR n T q.2 k [] e | _ => .no
   | _ => .no
 | .field S p x => (entR x).bind fun e => (immR e).bind fun y => (Rd.of (cast? S y)).bind fun y => (Rd.of (getP S p y)).bind fun z => .ok (.v z.1 z.2)
 | .indexS x ix => (intR ix).bind fun q => (strR x).bind fun s =>
   .ite (0 ≤ q.2 ∧ q.2 < (s.length : Int)) (.ok (.v (.int .u8) ((s.getD q.2.toNat 0).toNat : Int))) .no
 | .indexA n T x ix => (intR ix).bind fun q => (entR x).bind fun e => match e with
   | .v T' xs => (Rd.of (cast? (.arr n T) ⟨T', xs⟩)).bind fun xs => .ite (0 ≤ q.2 ∧ q.2 < (n : Int)) (.ok (.v T (xs.getD q.2.toNat (zero T)))) .no
   | _ => .no
 | .sliceS x lo hi => (optIntR lo).bind fun lo => (optIntR hi).bind fun hi => (strR x).bind fun s =>
   .ite (0 ≤ lo.getD 0 ∧ lo.getD 0 ≤ hi.getD (s.length : Int) ∧ hi.getD (s.length : Int) ≤ (s.length : Int))
    (.ok (.v .str ((s.drop (lo.getD 0).toNat).take ((hi.getD (s.length : Int)).toNat - (lo.getD 0).toNat)))) .no
 | .sliceL T x lo hi mx => (optIntR lo).bind fun lo => (optIntR hi).bind fun hi => (optIntR mx).bind fun mx => (valR x).bind fun y => (Rd.of (cast? (.sl T) y)).bind fun xs =>
   .ite (0 ≤ lo.getD 0 ∧ lo.getD 0 ≤ hi.getD (xs.length : Int) ∧ hi.getD (xs.length : Int) ≤ mx.getD (xs.length : Int) ∧ mx.getD (xs.length : Int) ≤ (xs.length : Int))
    (.ok (.v (.sl T) ((xs.drop (lo.getD 0).toNat).take ((hi.getD (xs.length : Int)).toNat - (lo.getD 0).toNat)))) .no
 | .mkSlice e T lim l c => (intR l).bind fun m => (intR c).bind fun n => if m.1 = .i64 ∧ n.1 = .i64 then .ite (0 ≤ m.2 ∧ m.2 ≤ n.2 ∧ n.2 ≤ (lim : Int)) (.ok (.own true e T .no (List.replicate m.2.toNat (zero T)))) .no else .no
 | .lenS x => (strR x).bind fun s => .ok (.v (.int .i64) (s.length : Int))
 | .lenL x => (entR x).bind fun e => (immR e).bind fun y => match y with
   | ⟨.sl _, xs⟩ => .ok (.v (.int .i64) (xs.length : Int))
   | _ => .no
 | .lenA m => .ok (.v (.int .i64) (m : Int))
 | .mm mx x y => (intR x).bind fun m => (intR y).bind fun n => if m.1 = n.1 then .ok (.v (.int m.1) (if mx then (if n.2 > m.2 then n.2 else m.2) else (if n.2 < m.2 then n.2 else m.2))) else .no
 | .call f args => (argListR cl args).bind fun es => (Rd.call cl f es).bind fun res => resR args res
 | .callv x args => (entR x).bind fun e => match e with
   | .v (.fn A C) g => (argListR cl args).bind fun es => (Rd.of (tuple A es)).bind fun a => (Rd.of (g a)).bind fun r => if scalarT C then .ok (.v C r) else .no
   | .clo f _ _ caps => (argListR cl args).bind fun es => (argsR caps).bind fun cs => (Rd.call cl f (es ++ cs)).bind fun res => if res.all E.plain then .ok (resE res) else .no
   | _ => .no
 | .extract k j => (Rd.get k).bind fun e => .of (extE j e)
 | .mkfn f A C caps => (capsR caps).bind fun cs => .ok (.clo f A C cs)
 | _ => .no
def stoR (T : Ty) (z : den T) (s : Nat) (p : Path) : E → Rd (List (Nat × E))
 | .loc T0 o x0 => if scalarT T || (annAt o p).pure then (Rd.of (setP T0 p x0 ⟨T, z⟩)).bind fun x1 => .ok [(s, .loc T0 o x1)] else .no
 | _ => .no
def stoH (T : Ty) (z : den T) (s : Nat) (j : Nat) (q : Path) : E → Rd (List (Nat × E))
 | .own true e T0 o xs => .ite (j < xs.length) ((Rd.of (setP T0 q (xs.getD j (zero T0)) ⟨T, z⟩)).bind fun u => if o.pure then .ok [(s, .own true e T0 o (xs.set j u))] else .no) .no
 | _ => .no
def slcR (T : Ty) {T' : Ty} (xs : List (den T')) (lo hi mx : Option Od) : Rd E :=
 (optIntR lo).bind fun lo => (optIntR hi).bind fun hi => (optIntR mx).bind fun mx => (Rd.of (cast? (.sl T) ⟨.sl T', xs⟩)).bind fun xs =>
   .ite (0 ≤ lo.getD 0 ∧ lo.getD 0 ≤ hi.getD (xs.length : Int) ∧ hi.getD (xs.length : Int) ≤ mx.getD (xs.length : Int) ∧ mx.getD (xs.length : Int) ≤ (xs.length : Int))
    (.ok (.v (.sl T) ((xs.drop (lo.getD 0).toNat).take ((hi.getD (xs.length : Int)).toNat - (lo.getD 0).toNat)))) .no
def appR (d : Option Nat) (k0 : Nat) (x : Od) : Rd (TV × List (Nat × E)) :=
 (entR x).bind fun e => match e with
  | .v T y => .ok (⟨T, y⟩, [])
  | .own _ ed T o xs => match x with
    | .t k => if (!(k == k0)) && apart d k && o.pure then .ok (⟨.sl T, xs⟩, [(k, .own false ed T o.frz xs)]) else .no
    | _ => .no
  | _ => .no
def pubR (d : Option Nat) (ch : List (Nat × E)) (x : Od) : Rd (TV × List (Nat × E)) :=
 (entR x).bind fun e => match e with
  | .v T y => .ok (⟨T, y⟩, ch)
  | .own _ ed T o xs => match x with
    | .t k => if (ch.all fun q => !(q.1 == k)) && apart d k && o.pure then .ok (⟨.sl T, xs⟩, (k, .own false ed T o.frz xs) :: ch) else .no
    | _ => .no
  | _ => .no
def buildP (d : Option Nat) : (T : Ty) → den T → List (Nat × E) → List (Path × Od) → Rd (den T × List (Nat × E))
 | _, x, ch, [] => .ok (x, ch)
 | T, x, ch, (p, a) :: r => (pubR d ch a).bind fun q => (Rd.of (setP T p x q.1)).bind fun y => buildP d T y q.2 r
def eatsOf : AOp → Option Nat
 | .append _ _ _ (.t k) _ => some k
 | _ => none
def wrR (cl : Cal) (d : Option Nat) : AOp → Rd (List (Nat × E))
 | .store T a x => (valR x).bind fun y => (Rd.of (cast? T y)).bind fun z => (entR a).bind fun e => match e with
   | .ptre s [] j q => (Rd.get s).bind fun f => stoH T z s j q f
   | .ptr s p => (Rd.get s).bind fun f => stoR T z s p f
   | .loc .. => match a with | .t k => stoR T z k [] e | _ => .no
   | _ => .no
 | .sliceL T x lo hi mx => (entR x).bind fun e => match e with
   | .ref s p => match p with
     | [] => (Rd.get s).bind fun f => match f with
       | .own _ ed T' o xs => if o.pure then (slcR T xs (T' := T') lo hi mx).bind fun v => .ok (one d v ++ [(s, .own false ed T' o.frz xs)]) else .no
       | _ => .no
     | _ => .no
   | _ => (valE cl d (.sliceL T x lo hi mx)).bind fun e => .ok (one d e)
 | .build T parts => (buildP d T (zero T) [] parts).bind fun q => .ok (one d (.v T q.1) ++ q.2)
 | .cp x => (entR x).bind fun e => match e with
   | .v T y => .ok (one d (.v T y))
   | .own _ ed T o xs => match x with
     | .t k => if o.pure then .ok (one d (.v (.sl T) xs) ++ [(k, .own false ed T o.frz xs)]) else .no
     | _ => .no
   | _ => .no
 | .append e T lim s x => match s with
   | .t k0 => (Rd.get k0).bind fun f => match f with
     | .own wr e' T' o xs => (appR d k0 x).bind fun q => (Rd.of (cast? (.sl T) q.1)).bind fun ys => (Rd.of (cast? (.sl T) ⟨.sl T', xs⟩)).bind fun xs =>
       if apart d k0 && o.pure && (e' == e) then .ite (xs.length + ys.length ≤ lim) (.ok (one d (.own wr e T .no (xs ++ ys)) ++ (k0, .dead) :: q.2)) .no else .no
     | _ => .no
   | _ => .no
 | .callF f args => (argListR cl args).bind fun es => (Rd.call cl f es).bind fun res => (resR args res).bind fun e => .ok (fzD d (one d e))
 | .mv x => (entR x).bind fun e => match e with
   | .tup es => match x, d with
     | .t k, some d => if k == d then .no else .ok [(d, .tup es), (k, .dead)]
     | _, _ => .no
   | _ => (valE cl d (.mv x)).bind fun e => .ok (one d e)
 | op => (valE cl d op).bind fun e => .ok (one d e)
structure DI where
 ai : AI
 hide : List Nat
 wr : List Nat
 pre : List Nat
 piv : Bool := false
 safe : List Nat := []
def hid (l : List Nat) (L : Nat → E) : Nat → E := fun k => match l.any (fun j => j == k) with | true => .dead | false => L k
def free (env : Env) (d : Option Nat) : Bool := match d with | some d => !(look env d).home | none => true
def okS (i : DI) (env : Env) : Bool := i.safe.all fun s => env.all fun q => !leads s q.2
def okW (i : DI) (env : Env) (δ : List (Nat × E)) : Bool := free env i.ai.dst && (δ.all fun q => i.wr.any fun k => k == q.1) && okS i (δ ++ env)
def draws (cl : Cal) : List DI → Env → Kont R → Option R
 | [], env, K => K env
 | i :: r, env, K =>
   let yes := fun env' => (wrR cl i.ai.dst i.ai.op).runK (hid i.hide (look env)) fun δ => match okW i env δ with
    | true => draws cl r (δ ++ env') K
    | false => none
   let nope := fun env' => match okW i env (one i.ai.dst .und) with
    | true => draws cl r (one i.ai.dst .und ++ env') K
    | false => none
   match i.piv with
   | true => match okS i env with
     | true => step cl i.ai env fun env' => match okS i env' with
       | true => draws cl r env' K
       | false => none
     | false => none
   | false => match i.ai.guard with
     | none => yes env
     | some (s, pol) => match hid i.hide (look env) s with
       | .v .bool b => brB b ((if pol then yes else nope) ((s, .v .bool true) :: env)) ((if pol then nope else yes) ((s, .v .bool false) :: env))
       | .und => nope env
       | _ => none
inductive AC where
 | skip
 | reg (live : List Nat) (l : List AI)
 | draw (live : List Nat) (l : List DI)
 | seq (a b : AC)
 | cond (c : Od) (x y : AC)
 | block (id : Nat) (b : AC)
 | loop (live : List Nat) (b : AC)
 | out (live : List Nat) (b : AC)
 | exit (id : Nat)
 | ret
inductive Ex where
 | normal | exit (id : Nat) | ret
abbrev KE (R : Type) := Ex → Env → Option R
def iter (live : List Nat) (body : Env → KE R → Option R) (K : KE R) : Nat → Env → Option R
 | 0, _ => none
 | m + 1, env => body env fun e env => match e with
   | .normal => iter live body K m (keep live env)
   | .exit id => K (.exit id) env
   | .ret => K .ret env
def seqK (y : Env → Option R) (K : KE R) : KE R := fun e env => match e with
 | .normal => y env
 | .exit id => K (.exit id) env
 | .ret => K .ret env
def blockK (id : Nat) (K : KE R) : KE R := fun e env => match e with
 | .normal => K .normal env
 | .exit j => match Nat.decEq j id with | .isTrue _ => K .normal env | .isFalse _ => K (.exit j) env
 | .ret => K .ret env
def exec (cl : Cal) (N : Nat) : AC → Env → KE R → Option R
 | .skip, env, K => K .normal env
 | .reg live l, env, K => ops cl l (keep live env) (K .normal)
 | .draw live l, env, K => draws cl l (keep live env) (K .normal)
 | .seq a b, env, K => exec cl N a env (seqK (fun env => exec cl N b env K) K)
 | .cond c x y, env, K => (boolOf? (ent env c)).bind fun q => brB q (exec cl N x env K) (exec cl N y env K)
 | .block id b, env, K => exec cl N b env (blockK id K)
 | .loop live b, env, K => iter live (fun env K => exec cl N b env K) K N (keep live env)
 | .out live b, env, K => exec cl N b env (fun e env => K e (keep live env))
 | .exit id, env, K => K (.exit id) env
 | .ret, env, K => K .ret env
inductive RV where
 | t (k : Nat)
 | cell (k : Nat) (T : Ty)
 | p (k : Nat)
structure FD where
 nargs : Nat
 body : AC
 res : List RV
def retE (env : Env) : RV → Option (E × List Nat)
 | .t k => match look env k with
   | .v T x => some (.v T x, [])
   | .own wr e T o xs => if o.pure then some (.own wr e T o xs, [k]) else none
   | .ref s p => (heldAt env s p).bind fun h => if h.o.pure then some (.own h.wr h.e h.T h.o h.xs, [s]) else none
   | _ => none
 | .cell k T => match look env k with
   | .loc T' o x => if o.whole then (cast? T ⟨T', x⟩).bind fun y => some (.v T y, if o.pure then [] else [k]) else none
   | _ => none
 | .p k => match look env k with
   | .v T x => some (.v T x, [])
   | .own _ _ T o xs => if o.pure then some (.v (.sl T) xs, [k]) else none
   | .ref s p => (heldAt env s p).bind fun h => if h.o.pure then some (.v (.sl h.T) h.xs, [s]) else none
   | _ => none
def retL (env : Env) : List RV → Option (List E × List Nat)
 | [] => some ([], [])
 | r :: rs => (retE env r).bind fun x => (retL env rs).bind fun y => some (x.1 :: y.1, x.2 ++ y.2)
def distinct : List Nat → Bool
 | [] => true
 | x :: r => !r.any (· == x) && distinct r
def E.back : E → Bool
 | .v T _ => noFnT T
 | .own _ _ T o _ => noFnT T && o.pure
 | _ => false
def retK (fd : FD) : KE (List E) := fun e env => match e with
 | .exit _ => none
 | _ => (retL env fd.res).bind fun q => match distinct q.2 && q.1.all E.back with | true => some q.1 | false => none
def params : Nat → List E → Env
 | _, [] => []
 | k, e :: r => (k, e) :: params (k + 1) r
abbrev Table := FuncId → Option FD
abbrev Prims := FuncId → Option (List E → Option (List E))
def headUnd : List E → Bool
 | .und :: _ => true
 | _ => false
def acall (tb : Table) (pr : Prims) (N : Nat) : Nat → Cal
 | 0 => .of fun _ _ => none
 | D + 1 => .of fun f args => match pr f with
   | some p => p args
   | none => match headUnd args with
     | true => none
     | false => match tb f with
       | some fd => match Nat.decEq args.length fd.nargs with
         | .isTrue _ => exec (acall tb pr N D) N fd.body (params 0 args) (retK fd)
         | .isFalse _ => none
       | none => none
def recC (n : FuncId) (fd : FD) (N : Nat) (base : Cal) : Nat → Cal
 | 0 => base
 | m + 1 => .of fun f es => match Nat.decEq f n with
   | .isTrue _ => match headUnd es with
     | true => none
     | false => match Nat.decEq es.length fd.nargs with
       | .isTrue _ => exec (recC n fd N base m) N fd.body (params 0 es) (retK fd)
       | .isFalse _ => none
   | .isFalse _ => base.run f es
end Go.Fw
/- A step, apart from what follows it. -/
namespace Go.Fw
open Go Go.RowKit
theorem bcong {α β : Type} (x : Option α) (f g : α → Option β) (h : ∀ y, f y = g y) : x.bind f = x.bind g := by cases x <;> simp [h]
set_option maxHeartbeats 1000000
theorem step_bind (cl : Cal) (i : AI) (env : Env) {R : Type} (K : Kont R) : step cl i env K = (step cl i env (some : Kont Env)).bind K := by
 obtain ⟨d, op, g⟩ := i
 unfold step
 cases op <;> simp only [Option.bind_assoc, Option.bind_some, Cal.eqn]
 case pick => congr 1; funext q; cases q <;> rfl
 case nxt =>
  split
  ·rename_i s pos _; cases decide (pos < s.length) <;> rfl
  ·rfl
 all_goals first | rfl | skip
 all_goals repeat' first | rfl | (refine bcong _ _ _ fun _ => ?_) | split | (rw [Option.bind_assoc])
 all_goals first | rfl | (simp_all [Option.bind_assoc]; done) | skip
end Go.Fw
/- Soundness, part 1: laws on what memory shows of a value. -/
namespace Go.Fw
open Go Go.RowKit
def blocks (ob : OB) : List Nat := ob.map (·.1)
@[simp] theorem blocks_nil : blocks [] = [] := rfl
@[simp] theorem blocks_cons (x : Nat × Nat) (l : OB) : blocks (x :: l) = x.1 :: blocks l := rfl
@[simp] theorem blocks_append (a b : OB) : blocks (a ++ b) = blocks a ++ blocks b := by simp [blocks]
theorem Elems.append {α : Type} {R : α → List Value → OB → Prop} : ∀ {xs ys : List α} {v1 v2 : List Value} {b1 b2 : OB}, Elems R xs v1 b1 → Elems R ys v2 b2 → Elems R (xs ++ ys) (v1 ++ v2) (b1 ++ b2)
 | [], _, _, _, _, _, h, k => by obtain ⟨rfl, rfl⟩ := h; exact k
 | x :: xs, ys, _, v2, _, b2, h, k => by
   obtain ⟨u1, u2, c1, c2, rfl, rfl, hr, ht⟩ := h
   exact ⟨u1, u2 ++ v2, c1, c2 ++ b2, by simp, by simp, hr, Elems.append ht k⟩
theorem Elems.imp {α : Type} {R S : α → List Value → OB → Prop} : ∀ {xs : List α} {vs : List Value} {ob : OB}, (∀ x v b, (∀ q ∈ b, q ∈ ob) → R x v b → S x v b) → Elems R xs vs ob → Elems S xs vs ob
 | [], _, _, _, h => h
 | x :: xs, _, _, f, h => by
   obtain ⟨u1, u2, c1, c2, rfl, rfl, hr, ht⟩ := h
   exact ⟨u1, u2, c1, c2, rfl, rfl, f _ _ _ (fun q hq => List.mem_append_left _ hq) hr, Elems.imp (fun x v b hb => f x v b fun q hq => List.mem_append_right _ (hb q hq)) ht⟩
theorem Elems.length {α : Type} {R : α → List Value → OB → Prop} {n : Nat} (hl : ∀ x v b, R x v b → v.length = n) : ∀ {xs : List α} {vs : List Value} {ob : OB}, Elems R xs vs ob → vs.length = xs.length * n
 | [], _, _, h => by obtain ⟨rfl, rfl⟩ := h; simp
 | x :: xs, _, _, h => by
   obtain ⟨u1, u2, c1, c2, rfl, rfl, hr, ht⟩ := h
   rw [List.length_append, hl _ _ _ hr, Elems.length hl ht, List.length_cons, Nat.succ_mul]; omega
theorem Elems.split {α : Type} {R : α → List Value → OB → Prop} {n : Nat} (hl : ∀ x v b, R x v b → v.length = n) : ∀ {xs : List α} {vs : List Value} {ob : OB} (i : Nat) (d : α), Elems R xs vs ob → i < xs.length →
  ∃ v1 v2 v3 b1 b2 b3, vs = v1 ++ v2 ++ v3 ∧ ob = b1 ++ b2 ++ b3 ∧ v1.length = i * n ∧ R (xs.getD i d) v2 b2 ∧
    ∀ y u c, R y u c → Elems R (xs.set i y) (v1 ++ u ++ v3) (b1 ++ c ++ b3)
 | [], _, _, i, _, _, hi => by simp at hi
 | x :: xs, _, _, 0, d, h, _ => by
   obtain ⟨u1, u2, c1, c2, rfl, rfl, hr, ht⟩ := h
   exact ⟨[], u1, u2, [], c1, c2, rfl, rfl, by simp, hr, fun y u c hy => ⟨u, u2, c, c2, by simp, by simp, hy, ht⟩⟩
 | x :: xs, _, _, i + 1, d, h, hi => by
   obtain ⟨u1, u2, c1, c2, rfl, rfl, hr, ht⟩ := h
   obtain ⟨v1, v2, v3, b1, b2, b3, rfl, rfl, h1, h2, h3⟩ := Elems.split hl i d ht (by simpa using hi)
   refine ⟨u1 ++ v1, v2, v3, c1 ++ b1, b2, b3, by simp, by simp, ?_, by simpa using h2, ?_⟩
   ·rw [List.length_append, h1, hl _ _ _ hr, Nat.succ_mul]; omega
   ·intro y u c hy
    exact ⟨u1, v1 ++ u ++ v3, c1, b1 ++ c ++ b3, by simp, by simp, hr, h3 y u c hy⟩
theorem Elems.nil {α : Type} {R : α → List Value → OB → Prop} : Elems R ([] : List α) [] [] := ⟨rfl, rfl⟩
theorem Elems.one {α : Type} {R : α → List Value → OB → Prop} {x : α} {v : List Value} {b : OB} (h : R x v b) : Elems R [x] v b := ⟨v, [], b, [], by simp, by simp, h, rfl, rfl⟩
theorem Later.refl (B : Nat) (w : World) : Later B w w := ⟨Nat.le_refl _, fun _ _ => rfl⟩
theorem Later.trans {B : Nat} {a b c : World} (h : Later B a b) (k : Later B b c) : Later B a c := ⟨Nat.le_trans h.1 k.1, fun i hi => (k.2 i hi).trans (h.2 i hi)⟩
theorem Flat.len (P : Program) : ∀ (T : Ty) {w : World} {G : Nat → Nat → Prop} {B : Nat} {o : Ann} {x : den T} {vs : List Value} {ob : OB}, Flat P T w G B o x vs ob → vs.length = cellsN T
 | .int k, _, _, _, _, _, _, _, h => by unfold Flat at h; rw [h.1]; rfl
 | .bool, _, _, _, _, _, _, _, h => by unfold Flat at h; rw [h.1]; rfl
 | .str, _, _, _, _, _, _, _, h => by unfold Flat at h; rw [h.1]; rfl
 | .unit, _, _, _, _, _, _, _, h => by unfold Flat at h; rw [h.1]; rfl
 | .pair A C, _, _, _, _, _, _, _, h => by
   unfold Flat at h
   obtain ⟨v1, v2, b1, b2, rfl, rfl, h1, h2⟩ := h
   rw [List.length_append, Flat.len P A h1, Flat.len P C h2]; rfl
 | .arr n T, _, _, _, _, _, _, _, h => by
   unfold Flat at h
   rw [Elems.length (fun x v b hx => Flat.len P T hx) h.2, h.1]; rfl
 | .sl T, _, _, _, o, _, _, _, h => by
   cases o <;> unfold Flat at h
   ·obtain ⟨_, A, c, rfl, _⟩ := h; rfl
   ·exact h.1
   ·obtain ⟨v, cells, ob', rfl, _⟩ := h; rfl
   ·obtain ⟨_, A, c, rfl, _⟩ := h; rfl
 | .fn A C, _, _, _, _, _, _, _, h => by
   unfold Flat at h
   obtain ⟨_, _, f, caps, rfl, _⟩ := h; rfl
theorem rowX_of {w : World} {B : Nat} {e : TypeId} {size : Nat} {v : Value} {n : Nat} {cells : List Value} (h : w.ownsRow B e size v n cells) : rowX w B e size v n cells := by
 refine ⟨h.1, ?_⟩
 rcases h.2 with h | ⟨g, cap, cur, h1, h2, h3, h4, h5, h6, h7⟩
 ·exact .inl h
 ·exact .inr ⟨g, cap, cur, e, (0, 0), h1, h2, h3, h4, h5, h6, h7, fun _ => ⟨rfl, rfl⟩, .inl rfl⟩
theorem rowX.owns {w : World} {B : Nat} {e : TypeId} {size : Nat} {v : Value} {n : Nat} {cells : List Value} (h : rowX w B e size v n cells) (he : e ≠ BUF) : w.ownsRow B e size v n cells := by
 refine ⟨h.1, ?_⟩
 rcases h.2 with h | ⟨g, cap, cur, e', fz, h1, h2, h3, h4, h5, h6, h7, h8, _⟩
 ·exact .inl h
 ·obtain ⟨rfl, rfl⟩ := h8 he
  exact .inr ⟨g, cap, cur, h1, h2, h3, h4, h5, h6, h7⟩
theorem rowX.cells {w : World} {B : Nat} {e : TypeId} {size : Nat} {v : Value} {n : Nat} {xs : List Value} (h : rowX w B e size v n xs) {g : Nat} (hg : v.ownBlock = some g) : ∀ j u, xs[j]? = some u → w.cell? ((⟨g, 0, none⟩ : Addr).add j) = some u := by
 intro j u hu
 rcases h.2 with ⟨rfl, _⟩ | ⟨g', cap, cur, e', fz, rfl, _, hgg, _, _, _, htake, _, _⟩
 ·simp [Value.ownBlock] at hg
 ·simp [Value.ownBlock] at hg
  subst hg
  have hadd : (⟨g', 0, none⟩ : Addr).add j = ⟨g', j, none⟩ := by unfold Addr.add; split <;> simp_all
  rw [hadd, cell_of_row w g' j cur e' fz hgg]
  rw [← htake, List.getElem?_take] at hu
  split at hu
  ·simpa using hu
  ·cases hu
theorem rowX_of_heap {w w' : World} {B : Nat} {e : TypeId} {size : Nat} {v : Value} {n : Nat} {cells : List Value} (h : rowX w B e size v n cells) (hb : ∀ g, v.ownBlock = some g → w'.heap[g]? = w.heap[g]?) : rowX w' B e size v n cells := by
 refine ⟨h.1, ?_⟩
 rcases h.2 with h | ⟨g, cap, cur, e', fz, rfl, h1, h2, h3⟩
 ·exact .inl h
 ·exact .inr ⟨g, cap, cur, e', fz, rfl, h1, by rw [hb g rfl]; exact h2, h3⟩
theorem mem_obOf {v : Value} {lim g : Nat} (h : v.ownBlock = some g) : (g, lim) ∈ obOf v lim := by simp [obOf, h]
theorem Flat.mono (P : Program) : ∀ (T : Ty) {w w' : World} {G G' : Nat → Nat → Prop} {B : Nat} {o : Ann} {x : den T} {vs : List Value} {ob : OB},
  (∀ b i, b < w.heap.size → G b i → G' b i ∧ w'.cell? ⟨b, i, none⟩ = w.cell? ⟨b, i, none⟩) → Later B w w' → (∀ g ∈ blocks ob, w'.heap[g]? = w.heap[g]?) →
  Flat P T w G B o x vs ob → Flat P T w' G' B o x vs ob
 | .int k, _, _, _, _, _, _, _, _, _, _, _, _, h => by unfold Flat at h ⊢; exact h
 | .bool, _, _, _, _, _, _, _, _, _, _, _, _, h => by unfold Flat at h ⊢; exact h
 | .str, _, _, _, _, _, _, _, _, _, _, _, _, h => by unfold Flat at h ⊢; exact h
 | .unit, _, _, _, _, _, _, _, _, _, _, _, _, h => by unfold Flat at h ⊢; exact h
 | .pair A C, _, _, _, _, _, _, _, _, _, hG, hL, hO, h => by
   unfold Flat at h ⊢
   obtain ⟨v1, v2, b1, b2, rfl, rfl, h1, h2⟩ := h
   exact ⟨v1, v2, b1, b2, rfl, rfl, Flat.mono P A hG hL (fun g hg => hO g (by simp [hg])) h1, Flat.mono P C hG hL (fun g hg => hO g (by simp [hg])) h2⟩
 | .arr n T, _, _, _, _, _, _, _, _, ob, hG, hL, hO, h => by
   unfold Flat at h ⊢
   exact ⟨h.1, Elems.imp (fun x v b hb hx => Flat.mono P T hG hL (fun g hg => hO g (by
    obtain ⟨q, hq, rfl⟩ := List.mem_map.1 hg
    exact List.mem_map.2 ⟨q, hb q hq, rfl⟩)) hx) h.2⟩
 | .sl T, w, w', G, G', B, o, xs, vs, ob, hG, hL, hO, h => by
   have imm : ∀ {ob : OB}, (ob = [] ∧ ∃ A c, vs = [.slice A xs.length c] ∧ xs.length ≤ c ∧ c ≤ maxLen ∧
    (xs = [] ∨ ∃ b off cells, A = some ⟨b, off, none⟩ ∧ Elems (Flat P T w G B .no) xs cells [] ∧ ∀ j v, cells[j]? = some v → w.cell? ⟨b, off + j, none⟩ = some v ∧ G b (off + j))) →
    (ob = [] ∧ ∃ A c, vs = [.slice A xs.length c] ∧ xs.length ≤ c ∧ c ≤ maxLen ∧
    (xs = [] ∨ ∃ b off cells, A = some ⟨b, off, none⟩ ∧ Elems (Flat P T w' G' B .no) xs cells [] ∧ ∀ j v, cells[j]? = some v → w'.cell? ⟨b, off + j, none⟩ = some v ∧ G' b (off + j))) := by
    rintro ob ⟨h0, A, c, h1, h2, h3, h4⟩
    refine ⟨h0, A, c, h1, h2, h3, ?_⟩
    rcases h4 with h4 | ⟨b, off, cells, h5, h6, h7⟩
    ·exact .inl h4
    ·refine .inr ⟨b, off, cells, h5, Elems.imp (fun x v b' hb hx => Flat.mono P T hG hL (fun g hg => ?_) hx) h6, fun j v hj => ?_⟩
     ·obtain ⟨q, hq, rfl⟩ := List.mem_map.1 hg
      exact absurd (hb q hq) (by simp)
     ·have hc := h7 j v hj
      have hlt : b < w.heap.size := World.block_lt_of_cell? w _ hc.1
      have hg := hG b (off + j) hlt hc.2
      exact ⟨hg.2.trans hc.1, hg.1⟩
   cases o with
   | no => unfold Flat at h ⊢; exact imm h
   | hole => unfold Flat at h ⊢; exact h
   | pair a b => unfold Flat at h ⊢; exact imm h
   | own wr e o =>
     unfold Flat at h ⊢
     obtain ⟨v, cells, ob', h1, h2, h3, rfl⟩ := h
     refine ⟨v, cells, ob', h1, rowX_of_heap h2 (fun g hg => hO g ?_), Elems.imp (fun x v b hb hx => Flat.mono P T hG hL (fun g hg => hO g ?_) hx) h3, rfl⟩
     ·rw [blocks_append]; exact List.mem_append_left _ (List.mem_map.2 ⟨_, mem_obOf hg, rfl⟩)
     ·obtain ⟨q, hq, rfl⟩ := List.mem_map.1 hg
      rw [blocks_append]; exact List.mem_append_right _ (List.mem_map.2 ⟨q, hb q hq, rfl⟩)
 | .fn A C, w, w', G, G', B, _, _, _, _, hG, hL, hO, h => by
   unfold Flat at h ⊢
   obtain ⟨h0, hs, f, caps, h1, h2⟩ := h
   exact ⟨h0, hs, f, caps, h1, fun w'' G'' x vals hl => h2 w'' G'' x vals (hL.trans hl)⟩
theorem Ann.pure_l {o : Ann} (h : o.pure = true) : o.l.pure = true := by cases o <;> simp_all [Ann.pure, Ann.l]
theorem Ann.pure_r {o : Ann} (h : o.pure = true) : o.r.pure = true := by cases o <;> simp_all [Ann.pure, Ann.r]
theorem Flat.pure (P : Program) : ∀ (T : Ty) {w : World} {G : Nat → Nat → Prop} {B : Nat} {o o' : Ann} {x : den T} {vs : List Value} {ob : OB}, o.pure = true → o'.pure = true → Flat P T w G B o x vs ob → ob = [] ∧ Flat P T w G B o' x vs []
 | .int k, _, _, _, _, _, _, _, _, _, _, h => by unfold Flat at h ⊢; exact ⟨h.2.2, h.1, h.2.1, rfl⟩
 | .bool, _, _, _, _, _, _, _, _, _, _, h => by unfold Flat at h ⊢; exact ⟨h.2, h.1, rfl⟩
 | .str, _, _, _, _, _, _, _, _, _, _, h => by unfold Flat at h ⊢; exact ⟨h.2.2, h.1, h.2.1, rfl⟩
 | .unit, _, _, _, _, _, _, _, _, _, _, h => by unfold Flat at h ⊢; exact ⟨h.2, h.1, rfl⟩
 | .pair A C, _, _, _, _, _, _, _, _, ho, ho', h => by
   unfold Flat at h ⊢
   obtain ⟨v1, v2, b1, b2, rfl, rfl, h1, h2⟩ := h
   obtain ⟨e1, k1⟩ := Flat.pure P A (Ann.pure_l ho) (Ann.pure_l ho') h1
   obtain ⟨e2, k2⟩ := Flat.pure P C (Ann.pure_r ho) (Ann.pure_r ho') h2
   exact ⟨by rw [e1, e2]; rfl, v1, v2, [], [], rfl, rfl, k1, k2⟩
 | .arr n T, w, G, B, _, _, _, _, _, ho, _, h => by
   unfold Flat at h ⊢
   have key : ∀ {xs : List (den T)} {vs : List Value} {ob : OB}, Elems (Flat P T w G B .no) xs vs ob → ob = [] ∧ Elems (Flat P T w G B .no) xs vs [] := by
    intro xs
    induction xs with
    | nil => rintro vs ob ⟨rfl, rfl⟩; exact ⟨rfl, rfl, rfl⟩
    | cons x xs ih =>
      rintro vs ob ⟨u1, u2, c1, c2, rfl, rfl, hr, ht⟩
      obtain ⟨rfl, hr⟩ := Flat.pure P T (o := .no) (o' := .no) rfl rfl hr
      obtain ⟨rfl, ht⟩ := ih ht
      exact ⟨rfl, u1, u2, [], [], rfl, rfl, hr, ht⟩
   obtain ⟨h1, h2⟩ := h
   obtain ⟨e, h2⟩ := key h2
   exact ⟨e, h1, h2⟩
 | .sl T, _, _, _, o, o', _, _, _, ho, ho', h => by
   cases o <;> cases o' <;> simp only [Ann.pure, Bool.false_eq_true] at ho ho' <;> unfold Flat at h ⊢ <;> exact ⟨h.1, rfl, h.2⟩
 | .fn A C, _, _, _, _, _, _, _, _, _, _, h => by unfold Flat at h ⊢; exact ⟨h.1, rfl, h.2⟩
theorem Elems.pure (P : Program) {T : Ty} {w : World} {G : Nat → Nat → Prop} {B : Nat} {o o' : Ann} (ho : o.pure = true) (ho' : o'.pure = true) : ∀ {xs : List (den T)} {vs : List Value} {ob : OB}, Elems (Flat P T w G B o) xs vs ob → ob = [] ∧ Elems (Flat P T w G B o') xs vs []
 | [], _, _, h => by obtain ⟨rfl, rfl⟩ := h; exact ⟨rfl, rfl, rfl⟩
 | x :: xs, _, _, h => by
   obtain ⟨u1, u2, c1, c2, rfl, rfl, hr, ht⟩ := h
   obtain ⟨e1, k1⟩ := Flat.pure P T ho ho' hr
   obtain ⟨e2, k2⟩ := Elems.pure P ho ho' ht
   exact ⟨by rw [e1, e2]; rfl, u1, u2, [], [], rfl, rfl, k1, k2⟩
theorem Flat.one (P : Program) : ∀ (T : Ty) {w : World} {G : Nat → Nat → Prop} {B : Nat} {o : Ann} {x : den T} {vs : List Value} {ob : OB}, o.whole = true → Flat P T w G B o x vs ob → ∀ u ∈ vs, u.oneCell' = true
 | .int k, _, _, _, _, _, _, _, _, h => by unfold Flat at h; rw [h.1]; simp [Value.oneCell']
 | .bool, _, _, _, _, _, _, _, _, h => by unfold Flat at h; rw [h.1]; simp [Value.oneCell']
 | .str, _, _, _, _, _, _, _, _, h => by unfold Flat at h; rw [h.1]; simp [Value.oneCell']
 | .unit, _, _, _, _, _, _, _, _, h => by unfold Flat at h; rw [h.1]; simp
 | .pair A C, _, _, _, o, _, _, _, ho, h => by
   unfold Flat at h
   obtain ⟨v1, v2, b1, b2, rfl, rfl, h1, h2⟩ := h
   intro u hu
   rcases List.mem_append.1 hu with hu | hu
   ·exact Flat.one P A (by cases o <;> simp_all [Ann.whole, Ann.l]) h1 u hu
   ·exact Flat.one P C (by cases o <;> simp_all [Ann.whole, Ann.r]) h2 u hu
 | .arr n T, w, G, B, _, _, _, _, _, h => by
   unfold Flat at h
   have key : ∀ {xs : List (den T)} {vs : List Value} {ob : OB}, Elems (Flat P T w G B .no) xs vs ob → ∀ u ∈ vs, u.oneCell' = true := by
    intro xs
    induction xs with
    | nil => rintro vs ob ⟨rfl, rfl⟩; simp
    | cons x xs ih =>
      rintro vs ob ⟨u1, u2, c1, c2, rfl, rfl, hr, ht⟩ u hu
      rcases List.mem_append.1 hu with hu | hu
      ·exact Flat.one P T (o := .no) rfl hr u hu
      ·exact ih ht u hu
   exact key h.2
 | .sl T, _, _, _, o, _, _, _, ho, h => by
   cases o with
   | no => unfold Flat at h; obtain ⟨_, A, c, rfl, _⟩ := h; simp [Value.oneCell']
   | hole => simp [Ann.whole] at ho
   | pair => unfold Flat at h; obtain ⟨_, A, c, rfl, _⟩ := h; simp [Value.oneCell']
   | own wr e o =>
     unfold Flat at h
     obtain ⟨v, cells, ob', rfl, h2, _⟩ := h
     rcases h2.2 with h | ⟨g, cap, cur, _, _, rfl, _⟩
     ·rw [h.1]; simp [Value.oneCell']
     ·simp [Value.oneCell']
 | .fn A C, _, _, _, _, _, _, _, _, h => by
   unfold Flat at h
   obtain ⟨_, _, f, caps, rfl, _⟩ := h; simp [Value.oneCell']
end Go.Fw
/- Soundness, part 2: parts of values; what a state of the machine says of memory. -/
namespace Go.Fw
open Go Go.RowKit
theorem annAt_no : ∀ p, annAt .no p = .no
 | [] => rfl
 | .l :: p => annAt_no p
 | .r :: p => annAt_no p
 | .ix _ :: _ => rfl
theorem setAnn_pure : ∀ (p : Path) (a b : Ann), a.pure = true → b.pure = true → (setAnn a p b).pure = true
 | [], _, _, _, h => h
 | .l :: p, a, b, ha, hb => by simp only [setAnn, Ann.pure, Bool.and_eq_true]; exact ⟨setAnn_pure p _ _ (Ann.pure_l ha) hb, Ann.pure_r ha⟩
 | .r :: p, a, b, ha, hb => by simp only [setAnn, Ann.pure, Bool.and_eq_true]; exact ⟨Ann.pure_l ha, setAnn_pure p _ _ (Ann.pure_r ha) hb⟩
 | .ix _ :: _, _, _, ha, _ => ha
theorem cast?_self (T : Ty) (y : den T) : cast? T ⟨T, y⟩ = some y := by simp [cast?]
theorem cast?_some {T : Ty} {y : TV} {z : den T} (h : cast? T y = some z) : y = ⟨T, z⟩ := by
 obtain ⟨T', y⟩ := y
 simp only [cast?] at h
 split at h
 ·rename_i e; subst e; simp at h; rw [h]
 ·exact absurd h (by simp)
theorem getP_subT : ∀ (p : Path) (T : Ty) {P : Program} {w : World} {G : Nat → Nat → Prop} {B : Nat} {o : Ann} {x : den T} {vs : List Value} {ob : OB} {y : TV}, Flat P T w G B o x vs ob → getP T p x = some y → subT T p = some y.1
 | [], T, _, _, _, _, _, _, _, _, _, _, h => by simp only [getP, Option.some.injEq] at h; subst h; cases T <;> rfl
 | .l :: p, .pair A C, _, _, _, _, _, _, _, _, _, hF, h => by
   unfold Flat at hF; obtain ⟨v1, v2, b1, b2, rfl, rfl, h1, h2⟩ := hF
   simp only [getP, subT] at h ⊢; exact getP_subT p A h1 h
 | .r :: p, .pair A C, _, _, _, _, _, _, _, _, _, hF, h => by
   unfold Flat at hF; obtain ⟨v1, v2, b1, b2, rfl, rfl, h1, h2⟩ := hF
   simp only [getP, subT] at h ⊢; exact getP_subT p C h2 h
 | .ix i :: p, .arr n T, _, _, _, _, _, _, _, _, _, hF, h => by
   unfold Flat at hF; obtain ⟨hn, hF⟩ := hF
   simp only [getP, subT] at h ⊢
   split at h
   ·rename_i hi
    obtain ⟨v1, v2, v3, b1, b2, b3, _, _, _, h2, _⟩ := Elems.split (fun x v b hx => Flat.len _ T hx) i (zero T) hF hi
    rw [if_pos (by omega)]; exact getP_subT p T h2 h
   ·exact absurd h (by simp)
 | .l :: _, .int _, _, _, _, _, _, _, _, _, _, _, h | .l :: _, .bool, _, _, _, _, _, _, _, _, _, _, h | .l :: _, .str, _, _, _, _, _, _, _, _, _, _, h | .l :: _, .unit, _, _, _, _, _, _, _, _, _, _, h | .l :: _, .sl _, _, _, _, _, _, _, _, _, _, _, h | .l :: _, .arr _ _, _, _, _, _, _, _, _, _, _, _, h | .l :: _, .fn _ _, _, _, _, _, _, _, _, _, _, _, h => by simp [getP] at h
 | .r :: _, .int _, _, _, _, _, _, _, _, _, _, _, h | .r :: _, .bool, _, _, _, _, _, _, _, _, _, _, h | .r :: _, .str, _, _, _, _, _, _, _, _, _, _, h | .r :: _, .unit, _, _, _, _, _, _, _, _, _, _, h | .r :: _, .sl _, _, _, _, _, _, _, _, _, _, _, h | .r :: _, .arr _ _, _, _, _, _, _, _, _, _, _, _, h | .r :: _, .fn _ _, _, _, _, _, _, _, _, _, _, _, h => by simp [getP] at h
 | .ix _ :: _, .int _, _, _, _, _, _, _, _, _, _, _, h | .ix _ :: _, .bool, _, _, _, _, _, _, _, _, _, _, h | .ix _ :: _, .str, _, _, _, _, _, _, _, _, _, _, h | .ix _ :: _, .unit, _, _, _, _, _, _, _, _, _, _, h | .ix _ :: _, .sl _, _, _, _, _, _, _, _, _, _, _, h | .ix _ :: _, .pair _ _, _, _, _, _, _, _, _, _, _, _, h | .ix _ :: _, .fn _ _, _, _, _, _, _, _, _, _, _, _, h => by simp [getP] at h
theorem Flat.lens (P : Program) : ∀ (p : Path) (T : Ty) {w : World} {G : Nat → Nat → Prop} {B : Nat} {o : Ann} {x : den T} {vs : List Value} {ob : OB} {T' : Ty} {y : den T'}, Flat P T w G B o x vs ob → getP T p x = some ⟨T', y⟩ →
  ∃ v1 v2 v3 b1 b2 b3, vs = v1 ++ v2 ++ v3 ∧ ob = b1 ++ b2 ++ b3 ∧ v1.length = offT T p ∧ Flat P T' w G B (annAt o p) y v2 b2 ∧
    ∀ (o2 : Ann) (y2 : den T') (u : List Value) (c : OB) (x2 : den T), (hasIx p = true → o2.pure = true) → Flat P T' w G B o2 y2 u c → setP T p x ⟨T', y2⟩ = some x2 → Flat P T w G B (setAnn o p o2) x2 (v1 ++ u ++ v3) (b1 ++ c ++ b3)
 | [], T, w, G, B, o, x, vs, ob, T', y, hF, h => by
   simp only [getP, Option.some.injEq] at h
   obtain ⟨rfl, h⟩ := Sigma.mk.inj h
   rw [eq_of_heq h] at hF
   refine ⟨[], vs, [], [], ob, [], by simp, by simp, by cases T <;> rfl, hF, ?_⟩
   intro o2 y2 u c x2 _ hy hs
   have hs' : cast? T ⟨T, y2⟩ = some x2 := by cases T <;> exact hs
   rw [cast?_self, Option.some.injEq] at hs'
   subst hs'
   simpa [setAnn] using hy
 | .l :: p, .pair A C, w, G, B, o, x, vs, ob, T', y, hF, h => by
   unfold Flat at hF; obtain ⟨u1, u2, c1, c2, rfl, rfl, h1, h2⟩ := hF
   simp only [getP] at h
   obtain ⟨v1, v2, v3, b1, b2, b3, rfl, rfl, hl, hF2, hset⟩ := Flat.lens P p A h1 h
   refine ⟨v1, v2, v3 ++ u2, b1, b2, b3 ++ c2, by simp, by simp, hl, hF2, ?_⟩
   intro o2 y2 u c x2 hix hy hs
   simp only [setP, Option.bind_eq_some_iff, Option.some.injEq] at hs
   obtain ⟨z, hz, rfl⟩ := hs
   unfold Flat
   exact ⟨v1 ++ u ++ v3, u2, b1 ++ c ++ b3, c2, by simp, by simp, hset o2 y2 u c z hix hy hz, h2⟩
 | .r :: p, .pair A C, w, G, B, o, x, vs, ob, T', y, hF, h => by
   have hlen : ∀ {vs ob}, Flat P A w G B o.l x.1 vs ob → vs.length = cellsN A := fun h => Flat.len P A h
   unfold Flat at hF; obtain ⟨u1, u2, c1, c2, rfl, rfl, h1, h2⟩ := hF
   simp only [getP] at h
   obtain ⟨v1, v2, v3, b1, b2, b3, rfl, rfl, hl, hF2, hset⟩ := Flat.lens P p C h2 h
   refine ⟨u1 ++ v1, v2, v3, c1 ++ b1, b2, b3, by simp, by simp, by rw [List.length_append, hlen h1, hl]; rfl, hF2, ?_⟩
   intro o2 y2 u c x2 hix hy hs
   simp only [setP, Option.bind_eq_some_iff, Option.some.injEq] at hs
   obtain ⟨z, hz, rfl⟩ := hs
   unfold Flat
   exact ⟨u1, v1 ++ u ++ v3, c1, b1 ++ c ++ b3, by simp, by simp, h1, hset o2 y2 u c z hix hy hz⟩
 | .ix i :: p, .arr n T, w, G, B, o, x, vs, ob, T', y, hF, h => by
   unfold Flat at hF; obtain ⟨hn, hF⟩ := hF
   simp only [getP] at h
   split at h
   ·rename_i hi
    obtain ⟨u1, u2, u3, c1, c2, c3, rfl, rfl, hl1, hE, hst⟩ := Elems.split (fun x v b hx => Flat.len _ T hx) i (zero T) hF hi
    obtain ⟨v1, v2, v3, b1, b2, b3, rfl, rfl, hl, hF2, hset⟩ := Flat.lens P p T hE h
    rw [annAt_no] at hF2
    refine ⟨u1 ++ v1, v2, v3 ++ u3, c1 ++ b1, b2, b3 ++ c3, by simp, by simp, by rw [List.length_append, hl1, hl]; rfl, hF2, ?_⟩
    intro o2 y2 u c x2 hix hy hs
    simp only [setP] at hs
    rw [if_pos hi] at hs
    simp only [Option.bind_eq_some_iff, Option.some.injEq] at hs
    obtain ⟨z, hz, rfl⟩ := hs
    have ho2 := hix rfl
    have hnew := hset o2 y2 u c z (fun _ => ho2) hy hz
    obtain ⟨e, hnew⟩ := Flat.pure P T (setAnn_pure p .no o2 rfl ho2) (o' := .no) rfl hnew
    have hE2 := hst z (v1 ++ u ++ v3) [] hnew
    unfold Flat
    refine ⟨by rw [List.length_set]; exact hn, ?_⟩
    have e' : c1 ++ b1 ++ c ++ (b3 ++ c3) = c1 ++ [] ++ c3 := by
     rw [show c1 ++ b1 ++ c ++ (b3 ++ c3) = c1 ++ (b1 ++ c ++ b3) ++ c3 by simp, e]
    rw [e']
    simpa using hE2
   ·exact absurd h (by simp)
 | .l :: _, .int _, _, _, _, _, _, _, _, _, _, _, h | .l :: _, .bool, _, _, _, _, _, _, _, _, _, _, h | .l :: _, .str, _, _, _, _, _, _, _, _, _, _, h | .l :: _, .unit, _, _, _, _, _, _, _, _, _, _, h | .l :: _, .sl _, _, _, _, _, _, _, _, _, _, _, h | .l :: _, .arr _ _, _, _, _, _, _, _, _, _, _, _, h | .l :: _, .fn _ _, _, _, _, _, _, _, _, _, _, _, h => by simp [getP] at h
 | .r :: _, .int _, _, _, _, _, _, _, _, _, _, _, h | .r :: _, .bool, _, _, _, _, _, _, _, _, _, _, h | .r :: _, .str, _, _, _, _, _, _, _, _, _, _, h | .r :: _, .unit, _, _, _, _, _, _, _, _, _, _, h | .r :: _, .sl _, _, _, _, _, _, _, _, _, _, _, h | .r :: _, .arr _ _, _, _, _, _, _, _, _, _, _, _, h | .r :: _, .fn _ _, _, _, _, _, _, _, _, _, _, _, h => by simp [getP] at h
 | .ix _ :: _, .int _, _, _, _, _, _, _, _, _, _, _, h | .ix _ :: _, .bool, _, _, _, _, _, _, _, _, _, _, h | .ix _ :: _, .str, _, _, _, _, _, _, _, _, _, _, h | .ix _ :: _, .unit, _, _, _, _, _, _, _, _, _, _, h | .ix _ :: _, .sl _, _, _, _, _, _, _, _, _, _, _, h | .ix _ :: _, .pair _ _, _, _, _, _, _, _, _, _, _, _, h | .ix _ :: _, .fn _ _, _, _, _, _, _, _, _, _, _, _, h => by simp [getP] at h
theorem offT_append : ∀ (p q : Path) (T : Ty) {T' : Ty}, subT T p = some T' → offT T (p ++ q) = offT T p + offT T' q ∧ subT T (p ++ q) = subT T' q
 | [], q, T, T', h => by
   have : T = T' := by cases T <;> simpa [subT] using h
   subst this
   have : offT T [] = 0 := by cases T <;> rfl
   simp [this]
 | .l :: p, q, .pair A C, T', h => by simp only [subT] at h; simp only [List.cons_append, offT, subT]; exact offT_append p q A h
 | .r :: p, q, .pair A C, T', h => by
   simp only [subT] at h; simp only [List.cons_append, offT, subT]
   have := offT_append p q C h
   exact ⟨by rw [this.1]; omega, this.2⟩
 | .ix i :: p, q, .arr n T, T', h => by
   simp only [subT] at h; simp only [List.cons_append, offT, subT]
   split at h
   ·rename_i hi
    have := offT_append p q T h
    exact ⟨by rw [this.1]; omega, by rw [if_pos hi]; exact this.2⟩
   ·exact absurd h (by simp)
 | .l :: _, _, .int _, _, h | .l :: _, _, .bool, _, h | .l :: _, _, .str, _, h | .l :: _, _, .unit, _, h | .l :: _, _, .sl _, _, h | .l :: _, _, .arr _ _, _, h | .l :: _, _, .fn _ _, _, h => by simp [subT] at h
 | .r :: _, _, .int _, _, h | .r :: _, _, .bool, _, h | .r :: _, _, .str, _, h | .r :: _, _, .unit, _, h | .r :: _, _, .sl _, _, h | .r :: _, _, .arr _ _, _, h | .r :: _, _, .fn _ _, _, h => by simp [subT] at h
 | .ix _ :: _, _, .int _, _, h | .ix _ :: _, _, .bool, _, h | .ix _ :: _, _, .str, _, h | .ix _ :: _, _, .unit, _, h | .ix _ :: _, _, .sl _, _, h | .ix _ :: _, _, .pair _ _, _, h | .ix _ :: _, _, .fn _ _, _, h => by simp [subT] at h
def headAt (w : World) (tm : Array Value) (env : Env) (s : Nat) (p : Path) : Option Value :=
 match look env s with
 | .own .. => match p with | [] => some (tm.getD s undef) | _ => none
 | .loc T _ _ => match tm.getD s undef with | .pointer (some a) => w.cell? ⟨a.block, offT T p, none⟩ | _ => none
 | _ => none
def ERep1 (P : Program) (w : World) (G : Nat → Nat → Prop) (B : Nat) (tm : Array Value) (env : Env) : E → Value → OB → Prop
 | .dead, _, ob => ob = []
 | .und, v, ob => v = undef ∧ ob = []
 | .v T x, v, ob => ob = [] ∧ ∃ vs, Flat P T w G B .no x vs [] ∧ v = asVal T vs
 | .own wr e T o xs, v, ob => Flat P (.sl T) w G B (.own wr e o) xs [v] ob
 | .loc T o x, v, ob => ∃ b cur e ob', v = .pointer (some ⟨b, 0, none⟩) ∧ B ≤ b ∧ w.heap[b]? = some (.cells cur e (0, 0)) ∧ Flat P T w G B o x cur.toList ob' ∧ ob = (b, 0) :: ob'
 | .ref s p, v, ob => ob = [] ∧ headAt w tm env s p = some v ∧ (heldAt env s p).isSome = true
 | .ptr s p, v, ob => ob = [] ∧ ∃ T o x b, look env s = .loc T o x ∧ tm.getD s undef = .pointer (some ⟨b, 0, none⟩) ∧ (subT T p).isSome = true ∧ v = .pointer (some ⟨b, offT T p, none⟩)
 | .ptre s p i q, v, ob => ob = [] ∧ ∃ h g n c, heldAt env s p = some h ∧ headAt w tm env s p = some (.slice (some ⟨g, 0, none⟩) n c) ∧ i < h.xs.length ∧ (subT h.T q).isSome = true ∧
   v = .pointer (some ⟨g, i * cellsN h.T + offT h.T q, none⟩)
 | .at T x, v, ob => ob = [] ∧ ∃ b off vs, v = .pointer (some ⟨b, off, none⟩) ∧ Flat P T w G B .no x vs [] ∧ ∀ j u, vs[j]? = some u → w.cell? ⟨b, off + j, none⟩ = some u ∧ (b < B ∨ G b (off + j))
 | .tup _, _, _ => False
 | .clo _ _ _ _, _, _ => False
 | .nw T o x, v, ob => ob = [] ∧ ∃ vs, Flat P T w G B o x vs [] ∧ v = asVal T vs
 | .it s pos, v, ob => ∃ b, v = .pointer (some ⟨b, 0, none⟩) ∧ B ≤ b ∧ w.heap[b]? = some (.stringIter ⟨⟨s⟩⟩ pos) ∧ s.length ≤ maxLen ∧ ob = [(b, 0)]
def TupRep (R : E → Value → OB → Prop) : List E → List Value → OB → Prop
 | [], vs, ob => vs = [] ∧ ob = []
 | e :: es, vs, ob => ∃ v r b1 b2, vs = v :: r ∧ ob = b1 ++ b2 ∧ R e v b1 ∧ TupRep R es r b2
def ERep (P : Program) (w : World) (G : Nat → Nat → Prop) (B : Nat) (tm : Array Value) (env : Env) : E → Value → OB → Prop
 | .tup es, v, ob => (∀ e ∈ es, ∀ s, leads s e = false) ∧ ∃ vs, v = .tuple vs ∧ TupRep (ERep1 P w G B tm env) es vs.toList ob
 | .clo f _ _ caps, v, ob => ob = [] ∧ ∃ cv, v = .func (.func f) #[] cv ∧ TupRep (ERep1 P w G B tm env) caps cv.toList []
 | e, v, ob => ERep1 P w G B tm env e v ob
def Gd (B : Nat) (G0 : Nat → Nat → Prop) (ob : Nat → OB) (b i : Nat) : Prop :=
 (b < B ∧ G0 b i) ∨ (B ≤ b ∧ ∀ k lim, (b, lim) ∈ ob k → i < lim)
structure Conc (P : Program) (B : Nat) (G0 : Nat → Nat → Prop) (W0 : World) (n : Nat) (env : Env) (tm : Array Value) (w : World) (ob : Nat → OB) : Prop where
 rep : ∀ k, ERep P w (Gd B G0 ob) B tm env (look env k) (tm.getD k undef) (ob k)
 dist : ∀ j k b, b ∈ blocks (ob j) → b ∈ blocks (ob k) → j = k
 nodup : ∀ k, (blocks (ob k)).Nodup
 low : ∀ k b, b ∈ blocks (ob k) → B ≤ b ∧ b < w.heap.size
 below : Below B W0 w
 base : B ≤ w.heap.size
 size : tm.size = n
end Go.Fw
/- Soundness, part 3: how a state of the machine goes on to hold. -/
namespace Go.Fw
open Go Go.RowKit
theorem look_cons (j : Nat) (e : E) (env : Env) (k : Nat) : look ((j, e) :: env) k = if j = k then e else look env k := by
 simp only [look]
 cases hd : Nat.decEq j k with
 | isTrue h => rw [if_pos h]
 | isFalse h => rw [if_neg h]
theorem look_map (f : E → E) (hf : f .dead = .dead) : ∀ (env : Env) (k : Nat), look (env.map fun q => (q.1, f q.2)) k = f (look env k)
 | [], k => hf.symm
 | (j, e) :: r, k => by
   rw [List.map_cons, look_cons, look_cons, look_map f hf r k]
   split <;> rfl
theorem look_kill (s : Nat) (env : Env) (k : Nat) : look (kill s env) k = if leads s (look env k) then .dead else look env k := by
 have : kill s env = env.map fun q => (q.1, if leads s q.2 then E.dead else q.2) := by
  unfold kill
  apply List.map_congr_left
  intro q _
  split <;> rfl
 rw [this, look_map (fun e => if leads s e then E.dead else e) (by simp)]
def mvE (s d : Nat) : E → E
 | .ref k p => if k == s then .ref d p else .ref k p
 | .ptre k p i r => if k == s then .ptre d p i r else .ptre k p i r
 | .clo f A C caps => if leads s (.clo f A C caps) then .dead else .clo f A C caps
 | .dead => .dead
 | .und => .und
 | .v T x => .v T x
 | .own wr e T o xs => .own wr e T o xs
 | .loc T o x => .loc T o x
 | .ptr k p => .ptr k p
 | .at T x => .at T x
 | .tup es => .tup es
 | .it s p => .it s p
 | .nw T o x => .nw T o x
theorem look_moved (s d : Nat) (env : Env) (k : Nat) : look (moved s d env) k = mvE s d (look env k) := by
 have : moved s d env = env.map fun q => (q.1, mvE s d q.2) := by
  unfold moved
  apply List.map_congr_left
  intro q _
  obtain ⟨j, e⟩ := q
  cases e <;> simp only [mvE] <;> split <;> rfl
 rw [this, look_map (mvE s d) rfl]
theorem look_keepL (f : E → E) : ∀ (live : List Nat) (env : Env) (k : Nat), look (live.map fun k => (k, f (look env k))) k = if k ∈ live then f (look env k) else .dead
 | [], env, k => by simp [look]
 | j :: live, env, k => by
   have ih := look_keepL f live env k
   rw [List.map_cons, look_cons, ih]
   by_cases h : j = k
   ·subst h; simp
   ·rw [if_neg h]
    simp only [List.mem_cons]
    by_cases h' : k ∈ live
    ·simp [h']
    ·have : k ≠ j := fun e => h e.symm
     simp [h', this]
theorem look_keep (live : List Nat) (env : Env) (k : Nat) : look (keep live env) k = if k ∈ live then keepE live (look env k) else .dead := look_keepL (keepE live) live env k
theorem leads_led {s : Nat} {e : E} (h : leads s e = true) : s ∈ ledTo e := by
 cases e <;> simp only [leads] at h <;> first | (exfalso; simp at h; done) | skip
 ·simp only [ledTo, led1, List.mem_singleton]; simpa using (beq_iff_eq.1 h).symm
 ·simp only [ledTo, led1, List.mem_singleton]; simpa using (beq_iff_eq.1 h).symm
 ·simp only [ledTo, led1, List.mem_singleton]; simpa using (beq_iff_eq.1 h).symm
 ·rename_i f A C caps
  simp only [List.any_eq_true] at h
  obtain ⟨c, hc, h⟩ := h
  simp only [ledTo, List.mem_flatMap]
  refine ⟨c, hc, ?_⟩
  cases c <;> simp only [led1, List.mem_singleton] at h ⊢ <;> first | (exact (beq_iff_eq.1 h).symm) | (exfalso; simp at h; done)
theorem keepE_or (live : List Nat) (e : E) : (keepE live e = e ∧ ∀ s, leads s e = true → s ∈ live) ∨ keepE live e = .dead := by
 unfold keepE
 split
 ·rename_i h
  refine .inl ⟨rfl, fun s hs => ?_⟩
  have := List.all_eq_true.1 h s (leads_led hs)
  obtain ⟨k, hk, h2⟩ := List.any_eq_true.1 this
  rw [beq_iff_eq] at h2; subst h2; exact hk
 ·exact .inr rfl
theorem look_put (env : Env) (k : Nat) (e : E) (j : Nat) : look (put env k e) j = if k = j then (if leads k e then .dead else e) else if (look env k).home = true ∧ leads k (look env j) = true then .dead else look env j := by
 unfold put
 rw [look_cons]
 split
 ·rfl
 ·split
  ·rename_i hh
   rw [look_kill]
   by_cases hl : leads k (look env j) = true
   ·simp [hl, hh]
   ·simp [hl]
  ·rename_i hh
   simp [hh]
theorem leads_home {s : Nat} {e : E} (h : e.home = true) : leads s e = false := by cases e <;> simp_all [E.home, leads]
def HomeEq (w : World) (tm : Array Value) (env : Env) (w' : World) (tm' : Array Value) (env' : Env) (s : Nat) : Prop :=
 (∀ p v, (heldAt env s p).isSome = true → headAt w tm env s p = some v → headAt w' tm' env' s p = some v) ∧
 (∀ p h, heldAt env s p = some h → ∃ h', heldAt env' s p = some h' ∧ h'.T = h.T ∧ h'.xs.length = h.xs.length) ∧
 (∀ T o x, look env s = .loc T o x → ∃ o' x', look env' s = .loc T o' x' ∧ tm'.getD s undef = tm.getD s undef)
theorem heldAt_of_look {env env' : Env} {s : Nat} (h : look env' s = look env s) (p : Path) : heldAt env' s p = heldAt env s p := by simp [heldAt, h]
theorem HomeEq.same {P : Program} {w w' : World} {G : Nat → Nat → Prop} {B : Nat} {tm tm' : Array Value} {env env' : Env} {s : Nat} {ob : OB}
  (hl : look env' s = look env s) (ht : tm'.getD s undef = tm.getD s undef) (hr : ERep P w G B tm env (look env s) (tm.getD s undef) ob) (hO : ∀ g ∈ blocks ob, w'.heap[g]? = w.heap[g]?) :
  HomeEq w tm env w' tm' env' s := by
 refine ⟨fun p v _ hv => ?_, fun p h hh => ⟨h, by rw [heldAt_of_look hl]; exact hh, rfl, rfl⟩, fun T o x hx => ⟨o, x, by rw [hl]; exact hx, ht⟩⟩
 unfold headAt at hv ⊢
 rw [hl, ht]
 cases he : look env s with
 | own wr e T o xs => rw [he] at hv; exact hv
 | loc T o x =>
   rw [he] at hv hr
   obtain ⟨b, cur, e, ob', hp, _, hb, _, rfl⟩ := hr
   simp only [hp] at hv ⊢
   rw [World.cell?_of_block (w := w) (hO b (by simp))]
   exact hv
 | dead => simp [he] at hv
 | und => simp [he] at hv
 | v => simp [he] at hv
 | ref => simp [he] at hv
 | ptr => simp [he] at hv
 | ptre => simp [he] at hv
 | «at» => simp [he] at hv
 | tup => simp [he] at hv
 | clo => simp [he] at hv
 | it => simp [he] at hv
 | nw => simp [he] at hv
theorem cell?_below {B : Nat} {w w' : World} (hL : Later B w w') {b i : Nat} (h : b < B) : w'.cell? ⟨b, i, none⟩ = w.cell? ⟨b, i, none⟩ := World.cell?_of_block (w := w) (hL.2 b h)
theorem ERep1.keep {P : Program} {w w' : World} {G G' : Nat → Nat → Prop} {B : Nat} {tm tm' : Array Value} {env env' : Env} {e : E} {v : Value} {ob : OB}
  (hG : ∀ b i, b < w.heap.size → G b i → G' b i ∧ w'.cell? ⟨b, i, none⟩ = w.cell? ⟨b, i, none⟩) (hL : Later B w w') (hO : ∀ g ∈ blocks ob, w'.heap[g]? = w.heap[g]?)
  (hH : ∀ s, leads s e = true → HomeEq w tm env w' tm' env' s) (h : ERep1 P w G B tm env e v ob) : ERep1 P w' G' B tm' env' e v ob := by
 cases e with
 | dead => exact h
 | und => exact h
 | v T x => obtain ⟨h0, vs, h1, h2⟩ := h; exact ⟨h0, vs, Flat.mono P T hG hL (by simp) h1, h2⟩
 | own wr e T o xs => exact Flat.mono P (.sl T) hG hL hO h
 | loc T o x =>
   obtain ⟨b, cur, e, ob', h1, h2, h3, h4, rfl⟩ := h
   exact ⟨b, cur, e, ob', h1, h2, by rw [hO b (by simp)]; exact h3, Flat.mono P T hG hL (fun g hg => hO g (by simp [hg])) h4, rfl⟩
 | ref s p =>
   obtain ⟨h0, h1, h2⟩ := h
   have hs := hH s (by simp [leads])
   obtain ⟨q, hq⟩ := Option.isSome_iff_exists.1 h2
   obtain ⟨q', hq', _⟩ := hs.2.1 p q hq
   exact ⟨h0, hs.1 p v h2 h1, by rw [hq']; rfl⟩
 | ptr s p =>
   obtain ⟨h0, T, o, x, b, h1, h2, h3, h4⟩ := h
   have hs := hH s (by simp [leads])
   obtain ⟨o', x', h5, h6⟩ := hs.2.2 T o x h1
   exact ⟨h0, T, o', x', b, h5, by rw [h6]; exact h2, h3, h4⟩
 | ptre s p i q =>
   obtain ⟨h0, hh, g, n, c, h1, h2, h3, h4, h5⟩ := h
   have hs := hH s (by simp [leads])
   obtain ⟨h', h6, h7, h8⟩ := hs.2.1 p hh h1
   exact ⟨h0, h', g, n, c, h6, hs.1 p _ (by rw [h1]; rfl) h2, by rw [h8]; exact h3, by rw [h7]; exact h4, by rw [h7]; exact h5⟩
 | «at» T x =>
   obtain ⟨h0, b, off, vs, h1, h2, h3⟩ := h
   refine ⟨h0, b, off, vs, h1, Flat.mono P T hG hL (by simp) h2, fun j u hj => ?_⟩
   obtain ⟨h4, h5⟩ := h3 j u hj
   rcases h5 with h5 | h5
   ·exact ⟨(cell?_below hL h5).trans h4, .inl h5⟩
   ·have hlt : b < w.heap.size := World.block_lt_of_cell? w _ h4
    have := hG b (off + j) hlt h5
    exact ⟨this.2.trans h4, .inr this.1⟩
 | tup => exact h.elim
 | clo => exact h.elim
 | nw T o x => obtain ⟨h0, vs, h1, h2⟩ := h; exact ⟨h0, vs, Flat.mono P T hG hL (by simp) h1, h2⟩
 | it s pos =>
   obtain ⟨b, h1, h2, h3, h4, rfl⟩ := h
   exact ⟨b, h1, h2, by rw [hO b (by simp)]; exact h3, h4, rfl⟩
theorem TupRep.imp {R S : E → Value → OB → Prop} : ∀ {es : List E} {vs : List Value} {ob : OB}, (∀ e ∈ es, ∀ v b, (∀ q ∈ b, q ∈ ob) → R e v b → S e v b) → TupRep R es vs ob → TupRep S es vs ob
 | [], _, _, _, h => h
 | e :: es, _, _, f, h => by
   obtain ⟨v, r, b1, b2, rfl, rfl, h1, h2⟩ := h
   exact ⟨v, r, b1, b2, rfl, rfl, f e (List.mem_cons_self ..) v b1 (fun q hq => List.mem_append_left _ hq) h1, TupRep.imp (fun e he v b hb => f e (List.mem_cons_of_mem _ he) v b fun q hq => List.mem_append_right _ (hb q hq)) h2⟩
theorem ERep.keep {P : Program} {w w' : World} {G G' : Nat → Nat → Prop} {B : Nat} {tm tm' : Array Value} {env env' : Env} {e : E} {v : Value} {ob : OB}
  (hG : ∀ b i, b < w.heap.size → G b i → G' b i ∧ w'.cell? ⟨b, i, none⟩ = w.cell? ⟨b, i, none⟩) (hL : Later B w w') (hO : ∀ g ∈ blocks ob, w'.heap[g]? = w.heap[g]?)
  (hH : ∀ s, leads s e = true → HomeEq w tm env w' tm' env' s) (h : ERep P w G B tm env e v ob) : ERep P w' G' B tm' env' e v ob := by
 cases e with
 | tup es =>
   obtain ⟨h0, vs, h1, h2⟩ := h
   refine ⟨h0, vs, h1, TupRep.imp (fun e he v b hb hr => ERep1.keep hG hL (fun g hg => ?_) (fun s hs => ?_) hr) h2⟩
   ·obtain ⟨q, hq, rfl⟩ := List.mem_map.1 hg
    exact hO _ (List.mem_map.2 ⟨q, hb q hq, rfl⟩)
   ·rw [h0 e he s] at hs; exact absurd hs (by simp)
 | clo f A C caps =>
   obtain ⟨h0, cv, h1, h2⟩ := h
   refine ⟨h0, cv, h1, TupRep.imp (fun e he v b hb hr => ERep1.keep hG hL (fun g hg => ?_) (fun s hs => ?_) hr) h2⟩
   ·obtain ⟨q, hq, rfl⟩ := List.mem_map.1 hg
    exact absurd (hb q hq) (by simp)
   ·refine hH s ?_
    simp only [leads, List.any_eq_true]
    refine ⟨e, he, ?_⟩
    cases e <;> simp only [leads] at hs ⊢ <;> first | exact hs | exact (hr : False).elim | exact absurd hs (by simp)
 | dead => exact h
 | und => exact h
 | v T x => exact ERep1.keep (P := P) (e := .v T x) hG hL hO hH h
 | own wr e T o xs => exact ERep1.keep (P := P) (e := .own wr e T o xs) hG hL hO hH h
 | loc T o x => exact ERep1.keep (P := P) (e := .loc T o x) hG hL hO hH h
 | ref s p => exact ERep1.keep (P := P) (e := .ref s p) hG hL hO hH h
 | ptr s p => exact ERep1.keep (P := P) (e := .ptr s p) hG hL hO hH h
 | ptre s p i q => exact ERep1.keep (P := P) (e := .ptre s p i q) hG hL hO hH h
 | «at» T x => exact ERep1.keep (P := P) (e := .at T x) hG hL hO hH h
 | it s pos => exact ERep1.keep (P := P) (e := .it s pos) hG hL hO hH h
 | nw T o x => exact ERep1.keep (P := P) (e := .nw T o x) hG hL hO hH h
theorem ERep.leads {P : Program} {w : World} {G : Nat → Nat → Prop} {B : Nat} {tm : Array Value} {env : Env} {e : E} {v : Value} {ob : OB} {s : Nat}
  (hs : leads s e = true) (h : ERep P w G B tm env e v ob) : (look env s).home = true ∧ ob = [] := by
 have key : ∀ {e : E} {v : Value} {ob : OB}, Fw.leads s e = true → ERep1 P w G B tm env e v ob → (look env s).home = true ∧ ob = [] := by
  intro e v ob hs h
  cases e <;> simp only [Fw.leads] at hs <;> first | exact (h : False).elim | (exfalso; simp at hs; done) | skip
  ·simp only [beq_iff_eq] at hs; subst hs
   obtain ⟨h0, h1, _⟩ := h
   refine ⟨?_, h0⟩
   unfold headAt at h1
   split at h1 <;> first | (rename_i hq; rw [hq]; rfl) | exact absurd h1 (by simp)
  ·simp only [beq_iff_eq] at hs; subst hs
   obtain ⟨h0, T, o, x, b, h1, _⟩ := h
   exact ⟨by rw [h1]; rfl, h0⟩
  ·simp only [beq_iff_eq] at hs; subst hs
   obtain ⟨h0, hh, g, n, c, _, h2, _⟩ := h
   refine ⟨?_, h0⟩
   unfold headAt at h2
   split at h2 <;> first | (rename_i hq; rw [hq]; rfl) | exact absurd h2 (by simp)
 cases e with
 | tup => exact absurd hs (by simp [Fw.leads])
 | clo f A C caps =>
   obtain ⟨h0, cv, h1, h2⟩ := h
   refine ⟨?_, h0⟩
   simp only [Fw.leads, List.any_eq_true] at hs
   obtain ⟨c, hc, hs⟩ := hs
   have find : ∀ {es : List E} {vs : List Value} {ob : OB}, TupRep (ERep1 P w G B tm env) es vs ob → ∀ c ∈ es, ∃ v b, ERep1 P w G B tm env c v b := by
    intro es
    induction es with
    | nil => intro vs ob _ c hc; exact absurd hc (by simp)
    | cons e es ih =>
      rintro vs ob ⟨v, r, b1, b2, rfl, rfl, h1, h2⟩ c hc
      rcases List.mem_cons.1 hc with rfl | hc
      ·exact ⟨v, b1, h1⟩
      ·exact ih h2 c hc
   obtain ⟨v', b', hr⟩ := find h2 c hc
   refine (key (e := c) ?_ hr).1
   cases c <;> simp only [Fw.leads] at hs ⊢ <;> first | exact hs | exact (hr : False).elim | exact absurd hs (by simp)
 | dead => exact absurd hs (by simp [Fw.leads])
 | und => exact absurd hs (by simp [Fw.leads])
 | v => exact absurd hs (by simp [Fw.leads])
 | own => exact absurd hs (by simp [Fw.leads])
 | loc => exact absurd hs (by simp [Fw.leads])
 | ref s p => exact key (e := .ref s p) hs h
 | ptr s p => exact key (e := .ptr s p) hs h
 | ptre s p i q => exact key (e := .ptre s p i q) hs h
 | «at» => exact absurd hs (by simp [Fw.leads])
 | it => exact absurd hs (by simp [Fw.leads])
 | nw => exact absurd hs (by simp [Fw.leads])
section
variable {P : Program} {B : Nat} {G0 : Nat → Nat → Prop} {W0 : World} {n : Nat} {env env' : Env} {tm tm' : Array Value} {w w' : World} {ob ob' : Nat → OB}
theorem Conc.step (hC : Conc P B G0 W0 n env tm w ob) (hbel : Below B w w')
  (hG : ∀ b i, b < w.heap.size → Gd B G0 ob b i → Gd B G0 ob' b i ∧ w'.cell? ⟨b, i, none⟩ = w.cell? ⟨b, i, none⟩)
  (hrep : ∀ k, (look env' k = look env k ∧ tm'.getD k undef = tm.getD k undef ∧ ob' k = ob k ∧ (∀ g ∈ blocks (ob k), w'.heap[g]? = w.heap[g]?) ∧
    (∀ s, leads s (look env k) = true → HomeEq w tm env w' tm' env' s)) ∨
   ERep P w' (Gd B G0 ob') B tm' env' (look env' k) (tm'.getD k undef) (ob' k))
  (hdist : ∀ j k b, b ∈ blocks (ob' j) → b ∈ blocks (ob' k) → j = k) (hnodup : ∀ k, (blocks (ob' k)).Nodup)
  (hlow : ∀ k b, b ∈ blocks (ob' k) → B ≤ b ∧ b < w'.heap.size) (hsize : tm'.size = n) : Conc P B G0 W0 n env' tm' w' ob' where
 rep k := by
  rcases hrep k with ⟨h1, h2, h3, h4, h5⟩ | h
  ·rw [h1, h2, h3]
   exact ERep.keep hG ⟨hbel.size, hbel.block⟩ h4 h5 (hC.rep k)
  ·exact h
 dist := hdist
 nodup := hnodup
 low := hlow
 below := hC.below.trans hbel
 base := Nat.le_trans hC.base hbel.size
 size := hsize
def updO (ob : Nat → OB) (k : Nat) (b : OB) : Nat → OB := fun j => if j = k then b else ob j
theorem updO_same (ob : Nat → OB) (k : Nat) (b : OB) : updO ob k b k = b := by simp [updO]
theorem updO_other (ob : Nat → OB) {k j : Nat} (b : OB) (h : j ≠ k) : updO ob k b j = ob j := by simp [updO, h]
theorem getD_set_same (tm : Array Value) (k : Nat) (v : Value) (h : k < tm.size) : (tm.setIfInBounds k v).getD k undef = v := by
 simp [Array.getD, h]
theorem getD_set_other (tm : Array Value) {k j : Nat} (v : Value) (h : j ≠ k) : (tm.setIfInBounds k v).getD j undef = tm.getD j undef := by
 have : (tm.setIfInBounds k v)[j]? = tm[j]? := Array.getElem?_setIfInBounds_ne (Ne.symm h)
 simp only [Array.getD_eq_getD_getElem?, this]
theorem Conc.put (hC : Conc P B G0 W0 n env tm w ob) {k : Nat} {e : E} {v : Value} {bk : OB} (hk : k < n) (hbel : Below B w w')
  (hO : ∀ j, j ≠ k → ∀ g ∈ blocks (ob j), w'.heap[g]? = w.heap[g]?)
  (hG : ∀ b i, b < w.heap.size → Gd B G0 ob b i → Gd B G0 (updO ob k bk) b i ∧ w'.cell? ⟨b, i, none⟩ = w.cell? ⟨b, i, none⟩)
  (hnew : ERep P w' (Gd B G0 (updO ob k bk)) B (tm.setIfInBounds k v) (Fw.put env k e) (if leads k e then .dead else e) v bk)
  (hdist : ∀ j b, j ≠ k → b ∈ blocks (ob j) → b ∉ blocks bk) (hnodup : (blocks bk).Nodup) (hlow : ∀ b, b ∈ blocks bk → B ≤ b ∧ b < w'.heap.size) :
  Conc P B G0 W0 n (Fw.put env k e) (tm.setIfInBounds k v) w' (updO ob k bk) := by
 have hkt : k < tm.size := by rw [hC.size]; exact hk
 refine Conc.step hC hbel hG (fun j => ?_) ?_ ?_ ?_ (by rw [Array.size_setIfInBounds]; exact hC.size)
 ·by_cases hj : j = k
  ·subst hj
   right
   rw [look_put, if_pos rfl, getD_set_same _ _ _ hkt, updO_same]
   exact hnew
  ·rw [look_put, if_neg (Ne.symm hj), getD_set_other _ _ hj, updO_other _ _ hj]
   by_cases hd : (look env k).home = true ∧ leads k (look env j) = true
   ·right
    rw [if_pos hd]
    exact (ERep.leads hd.2 (hC.rep j)).2
   ·left
    rw [if_neg hd]
    refine ⟨rfl, rfl, rfl, hO j hj, fun s hs => ?_⟩
    have hs2 := ERep.leads hs (hC.rep j)
    have hsk : s ≠ k := by rintro rfl; exact hd ⟨hs2.1, hs⟩
    refine HomeEq.same (P := P) ?_ (getD_set_other _ _ hsk) (hC.rep s) (hO s hsk)
    rw [look_put, if_neg (Ne.symm hsk), leads_home hs2.1]
    simp
 ·intro i j b hi hj
  by_cases h1 : i = k
  ·by_cases h2 : j = k
   ·rw [h1, h2]
   ·subst h1
    rw [updO_same] at hi; rw [updO_other _ _ h2] at hj
    exact absurd hi (hdist j b h2 hj)
  ·by_cases h2 : j = k
   ·subst h2
    rw [updO_same] at hj; rw [updO_other _ _ h1] at hi
    exact absurd hj (hdist i b h1 hi)
   ·rw [updO_other _ _ h1] at hi; rw [updO_other _ _ h2] at hj
    exact hC.dist i j b hi hj
 ·intro j
  by_cases h : j = k
  ·subst h; rw [updO_same]; exact hnodup
  ·rw [updO_other _ _ h]; exact hC.nodup j
 ·intro j b hb
  by_cases h : j = k
  ·subst h; rw [updO_same] at hb; exact hlow b hb
  ·rw [updO_other _ _ h] at hb
   have := hC.low j b hb
   exact ⟨this.1, Nat.lt_of_lt_of_le this.2 hbel.size⟩
structure Grows (w w' : World) : Prop where
 os : w'.os = w.os
 tape : w'.tape = w.tape
 output : w'.output = w.output
 size : w.heap.size ≤ w'.heap.size
 block : ∀ k, k < w.heap.size → w'.heap[k]? = w.heap[k]?
theorem Grows.refl (w : World) : Grows w w := ⟨rfl, rfl, rfl, Nat.le_refl _, fun _ _ => rfl⟩
theorem Grows.alloc (w : World) (o : Obj) : Grows w (w.alloc o) := ⟨rfl, rfl, rfl, by simp, fun i hi => heap_alloc_old w o hi⟩
theorem Grows.drew (w : World) : Grows w w.drew := ⟨rfl, rfl, rfl, Nat.le_refl _, fun _ _ => rfl⟩
theorem Grows.trans {a b c : World} (h : Grows a b) (q : Grows b c) : Grows a c :=
 ⟨q.os.trans h.os, q.tape.trans h.tape, q.output.trans h.output, Nat.le_trans h.size q.size, fun i hi => (q.block i (Nat.lt_of_lt_of_le hi h.size)).trans (h.block i hi)⟩
theorem Grows.below {w w' : World} (h : Grows w w') {B : Nat} (hB : B ≤ w.heap.size) : Below B w w' := ⟨h.os, h.tape, h.output, h.size, fun k hk => h.block k (Nat.lt_of_lt_of_le hk hB)⟩
theorem Grows.cell {w w' : World} (h : Grows w w') {b i : Nat} (hb : b < w.heap.size) : w'.cell? ⟨b, i, none⟩ = w.cell? ⟨b, i, none⟩ := World.cell?_of_block (w := w) (h.block b hb)
theorem Gd_upd {k : Nat} {bk : OB} {b i : Nat} (hb : ∀ lim, (b, lim) ∈ bk → i < lim) (h : Gd B G0 ob b i) : Gd B G0 (updO ob k bk) b i := by
 rcases h with h | ⟨h1, h2⟩
 ·exact .inl h
 ·refine .inr ⟨h1, fun j lim hj => ?_⟩
  by_cases hjk : j = k
  ·subst hjk; rw [updO_same] at hj; exact hb lim hj
  ·rw [updO_other _ _ hjk] at hj; exact h2 j lim hj
theorem Conc.putG (hC : Conc P B G0 W0 n env tm w ob) {k : Nat} {e : E} {v : Value} {bk : OB} (hk : k < n) (hg : Grows w w')
  (hnew : ERep P w' (Gd B G0 (updO ob k bk)) B (tm.setIfInBounds k v) (Fw.put env k e) (if leads k e then .dead else e) v bk)
  (hbk : ∀ b ∈ blocks bk, w.heap.size ≤ b ∧ b < w'.heap.size) (hnodup : (blocks bk).Nodup) :
  Conc P B G0 W0 n (Fw.put env k e) (tm.setIfInBounds k v) w' (updO ob k bk) := by
 refine Conc.put hC hk (hg.below hC.base) (fun j _ g hg' => hg.block g (hC.low j g hg').2) (fun b i hb h => ⟨Gd_upd (fun lim hl => ?_) h, hg.cell hb⟩) hnew (fun j b _ hb hb' => ?_) hnodup (fun b hb => ?_)
 ·have := (hbk b (List.mem_map.2 ⟨_, hl, rfl⟩)).1; omega
 ·have := (hbk b hb').1; have := (hC.low j b hb).2; omega
 ·have h1 := hbk b hb; have h2 := hC.base; exact ⟨by omega, h1.2⟩
theorem Conc.putOld (hC : Conc P B G0 W0 n env tm w ob) {k : Nat} {e : E} {v : Value} (hk : k < n) (hg : Grows w w')
  (hr : ERep P w (Gd B G0 ob) B tm env e v []) : Conc P B G0 W0 n (Fw.put env k e) (tm.setIfInBounds k v) w' (updO ob k []) := by
 refine Conc.putG hC hk hg ?_ (by simp) (by simp)
 split
 ·exact rfl
 ·rename_i hl
  refine ERep.keep (fun b i hb h => ⟨Gd_upd (by simp) h, hg.cell hb⟩) ⟨hg.size, fun b hb => hg.block b (Nat.lt_of_lt_of_le hb hC.base)⟩ (by simp) (fun s hs => ?_) hr
  have hsk : s ≠ k := by rintro rfl; exact hl hs
  have hs2 := ERep.leads hs hr
  refine HomeEq.same (P := P) ?_ (getD_set_other _ _ hsk) (hC.rep s) (fun g hg' => hg.block g (hC.low s g hg').2)
  rw [look_put, if_neg (Ne.symm hsk), leads_home hs2.1]
  simp
theorem Conc.putO (hC : Conc P B G0 W0 n env tm w ob) {d : Option Nat} {e : E} {v : Value} (hk : ∀ k, d = some k → k < n) (hg : Grows w w')
  (hr : ERep P w (Gd B G0 ob) B tm env e v []) (a : Act) (ha : a.tmps = tm) : ∃ ob', Conc P B G0 W0 n (Fw.putO env d e) (a.put d v).tmps w' ob' := by
 cases d with
 | none =>
   refine ⟨ob, ?_⟩
   subst ha
   refine Conc.step hC (hg.below hC.base) (fun b i hb h => ⟨h, hg.cell hb⟩) (fun k => .inl ⟨rfl, rfl, rfl, fun g hg' => hg.block g (hC.low k g hg').2, fun s hs => ?_⟩) hC.dist hC.nodup (fun k b hb => ⟨(hC.low k b hb).1, Nat.lt_of_lt_of_le (hC.low k b hb).2 hg.size⟩) hC.size
   exact HomeEq.same (P := P) rfl rfl (hC.rep s) (fun g hg' => hg.block g (hC.low s g hg').2)
 | some k => subst ha; exact ⟨_, Conc.putOld hC (hk k rfl) hg hr⟩
theorem Conc.relabel (hC : Conc P B G0 W0 n env tm w ob) {s : Nat} {e : E} {bs : OB}
  (hbl : blocks bs = blocks (ob s)) (hlim : ∀ b lim, (b, lim) ∈ bs → ∃ lim', (b, lim') ∈ ob s ∧ lim' ≤ lim)
  (hhome : HomeEq w tm env w tm ((s, e) :: env) s) (hnew : ERep P w (Gd B G0 (updO ob s bs)) B tm ((s, e) :: env) e (tm.getD s undef) bs) :
  Conc P B G0 W0 n ((s, e) :: env) tm w (updO ob s bs) := by
 refine Conc.step hC (Below.refl _ _) (fun b i hb h => ⟨?_, rfl⟩) (fun j => ?_) ?_ ?_ ?_ hC.size
 ·rcases h with h | ⟨h1, h2⟩
  ·exact .inl h
  ·refine .inr ⟨h1, fun j lim hj => ?_⟩
   by_cases hjk : j = s
   ·subst hjk; rw [updO_same] at hj
    obtain ⟨lim', h3, h4⟩ := hlim b lim hj
    exact Nat.lt_of_lt_of_le (h2 j lim' h3) h4
   ·rw [updO_other _ _ hjk] at hj; exact h2 j lim hj
 ·by_cases hj : j = s
  ·subst hj; right; rw [look_cons, if_pos rfl, updO_same]; exact hnew
  ·left
   rw [look_cons, if_neg (Ne.symm hj), updO_other _ _ hj]
   refine ⟨rfl, rfl, rfl, fun _ _ => rfl, fun t ht => ?_⟩
   by_cases hts : t = s
   ·subst hts; exact hhome
   ·exact HomeEq.same (P := P) (by rw [look_cons, if_neg (Ne.symm hts)]) rfl (hC.rep t) (fun _ _ => rfl)
 ·intro i j b hi hj
  have key : ∀ i, b ∈ blocks (updO ob s bs i) → b ∈ blocks (ob i) := by
   intro i hi
   by_cases h : i = s
   ·subst h; rw [updO_same, hbl] at hi; exact hi
   ·rw [updO_other _ _ h] at hi; exact hi
  exact hC.dist i j b (key i hi) (key j hj)
 ·intro j
  by_cases h : j = s
  ·subst h; rw [updO_same, hbl]; exact hC.nodup j
  ·rw [updO_other _ _ h]; exact hC.nodup j
 ·intro j b hb
  by_cases h : j = s
  ·subst h; rw [updO_same, hbl] at hb; exact hC.low j b hb
  ·rw [updO_other _ _ h] at hb; exact hC.low j b hb
theorem Conc.forget (hC : Conc P B G0 W0 n env tm w ob) (h : ∀ k, look env' k = look env k ∨ (look env' k = .dead ∧ (∀ j, leads k (look env' j) = true → False))) :
  ∃ ob', Conc P B G0 W0 n env' tm w ob' := by
 classical
 refine ⟨fun k => if look env' k = look env k then ob k else [], ?_⟩
 refine Conc.step hC (Below.refl _ _) (fun b i hb h => ⟨?_, rfl⟩) (fun j => ?_) ?_ ?_ ?_ hC.size
 ·rcases h with h | ⟨h1, h2⟩
  ·exact .inl h
  ·refine .inr ⟨h1, fun j lim hj => h2 j lim ?_⟩
   simp only at hj
   split at hj
   ·exact hj
   ·exact absurd hj (by simp)
 ·by_cases hj : look env' j = look env j
  ·left
   refine ⟨hj, rfl, by simp [hj], fun _ _ => rfl, fun s hs => ?_⟩
   rcases h s with h1 | h1
   ·exact HomeEq.same (P := P) h1 rfl (hC.rep s) (fun _ _ => rfl)
   ·exact (h1.2 j (by rw [hj]; exact hs)).elim
  ·right
   simp only [hj, if_false]
   rcases h j with h1 | h1
   ·exact absurd h1 hj
   ·rw [h1.1]; exact rfl
 ·intro i j b hi hj
  split at hi <;> split at hj <;> first | exact hC.dist i j b hi hj | exact absurd hi (by simp) | exact absurd hj (by simp)
 ·intro j; split
  ·exact hC.nodup j
  ·simp
 ·intro j b hb
  split at hb
  ·exact hC.low j b hb
  ·exact absurd hb (by simp)
end
end Go.Fw
/- Soundness, part 4: the program's types; constants; reading and writing cells. -/
namespace Go.Fw
open Go Go.RowKit
def eq1 : Value → Value → Bool
 | .int k n, .int k' n' => decide (k = k') && decide (n = n')
 | .bool a, .bool b => a == b
 | .string a, .string b => decide (a = b)
 | .slice none 0 0, .slice none 0 0 => true
 | _, _ => false
theorem eq1_eq {a b : Value} (h : eq1 a b = true) : a = b := by
 unfold eq1 at h
 split at h <;> simp_all
def eqL : List Value → List Value → Bool
 | [], [] => true
 | a :: r, b :: s => eq1 a b && eqL r s
 | _, _ => false
theorem eqL_eq : ∀ {a b : List Value}, eqL a b = true → a = b
 | [], [], _ => rfl
 | a :: r, b :: s, h => by
   simp only [eqL, Bool.and_eq_true] at h
   rw [eq1_eq h.1, eqL_eq h.2]
 | [], _ :: _, h => by simp [eqL] at h
 | _ :: _, [], h => by simp [eqL] at h
def eqV (T : Ty) (vs : List Value) (v : Value) : Bool :=
 match isAggT T, v with
 | true, .agg cs => eqL vs cs.toList
 | false, v => match vs with | [u] => eq1 u v | _ => false
 | _, _ => false
theorem eqV_eq {T : Ty} {vs : List Value} {v : Value} (h : eqV T vs v = true) : v = asVal T vs := by
 unfold eqV at h
 unfold asVal
 split at h
 ·rename_i ht
  rw [if_pos ht, eqL_eq h]
 ·rename_i ht
  split at h
  ·rw [if_neg (by simp [ht]), eq1_eq h]; rfl
  ·exact absurd h (by simp)
 ·exact absurd h (by simp)
def inRb (k : IntKind) (n : Int) : Bool := decide (k.min ≤ n) && decide (n ≤ k.max)
def repM (n : Nat) (l : List Value) : List Value := match n with | 0 => [] | n + 1 => l ++ repM n l
def constV : (T : Ty) → den T → Option (List Value)
 | .int k, n => if inRb k n then some [.int k n] else none
 | .bool, b => some [.bool b]
 | .str, s => if s.length ≤ 1000000 then some [.string ⟨⟨s⟩⟩] else none
 | .unit, _ => some []
 | .sl _, xs => match xs with | [] => some [.slice none 0 0] | _ => none
 | .pair A B, x => match constV A x.1, constV B x.2 with
   | some a, some b => some (a ++ b)
   | _, _ => none
 | .arr n T, xs => if xs.length = n then (List.foldr (fun x acc => match constV T x, acc with | some a, some b => some (a ++ b) | _, _ => none) (some []) xs) else none
 | .fn _ _, _ => none
def annOk : Ty → Ann → Bool
 | .sl _, .hole => false
 | .pair A B, o => annOk A o.l && annOk B o.r
 | _, _ => true
theorem constV_flat (P : Program) : ∀ (T : Ty) {x : den T} {vs : List Value} (w : World) (G : Nat → Nat → Prop) (B : Nat) (o : Ann), annOk T o = true → constV T x = some vs → Flat P T w G B o x vs []
 | .int k, x, vs, w, G, B, o, _, h => by
   simp only [constV] at h
   split at h
   ·rename_i hr
    simp only [inRb, Bool.and_eq_true, decide_eq_true_eq] at hr
    simp only [Option.some.injEq] at h
    unfold Flat; exact ⟨h.symm, hr, rfl⟩
   ·exact absurd h (by simp)
 | .bool, x, vs, w, G, B, o, _, h => by simp only [constV, Option.some.injEq] at h; unfold Flat; exact ⟨h.symm, rfl⟩
 | .str, x, vs, w, G, B, o, _, h => by
   simp only [constV] at h
   split at h
   ·rename_i hr
    simp only [Option.some.injEq] at h
    unfold Flat; exact ⟨h.symm, by unfold maxLen; omega, rfl⟩
   ·exact absurd h (by simp)
 | .unit, x, vs, w, G, B, o, _, h => by simp only [constV, Option.some.injEq] at h; unfold Flat; exact ⟨h.symm, rfl⟩
 | .sl T, x, vs, w, G, B, o, ho, h => by
   simp only [constV] at h
   split at h
   ·simp only [Option.some.injEq] at h
    subst h
    cases o with
    | no => unfold Flat; exact ⟨rfl, none, 0, rfl, by simp, by simp [maxLen], .inl rfl⟩
    | pair => unfold Flat; exact ⟨rfl, none, 0, rfl, by simp, by simp [maxLen], .inl rfl⟩
    | hole => simp [annOk] at ho
    | own wr e o => unfold Flat; exact ⟨_, [], [], rfl, rowX_of (World.ownsRow_nil _ _ _ _), ⟨rfl, rfl⟩, rfl⟩
   ·exact absurd h (by simp)
 | .pair A C, x, vs, w, G, B, o, ho, h => by
   simp only [annOk, Bool.and_eq_true] at ho
   simp only [constV] at h
   split at h
   ·rename_i a b ha hb
    simp only [Option.some.injEq] at h
    subst h
    unfold Flat
    exact ⟨a, b, [], [], rfl, rfl, constV_flat P A w G B o.l ho.1 ha, constV_flat P C w G B o.r ho.2 hb⟩
   ·exact absurd h (by simp)
 | .arr n T, x, vs, w, G, B, o, _, h => by
   simp only [constV] at h
   split at h
   ·rename_i hn
    unfold Flat
    refine ⟨hn, ?_⟩
    clear hn
    revert vs
    induction (x : List (den T)) with
    | nil => intro vs h; simp only [List.foldr_nil, Option.some.injEq] at h; exact ⟨h.symm, rfl⟩
    | cons y ys ih =>
      intro vs h
      simp only [List.foldr_cons] at h
      split at h
      ·rename_i a b ha hb
       simp only [Option.some.injEq] at h
       have hy : Flat P T w G B .no y a [] := constV_flat P T w G B .no (by cases T <;> simp [annOk, Ann.l, Ann.r] <;> exact annOk_no' _ _) ha
       exact ⟨a, b, [], [], h.symm, rfl, hy, ih _ hb⟩
      ·exact absurd h (by simp)
   ·exact absurd h (by simp)
 | .fn _ _, x, vs, w, G, B, o, _, h => by simp [constV] at h
where
 annOk_no : ∀ T, annOk T .no = true
  | .int _ => rfl | .bool => rfl | .str => rfl | .unit => rfl | .sl _ => rfl | .arr _ _ => rfl | .fn _ _ => rfl
  | .pair A B => by simp only [annOk, Bool.and_eq_true]; exact ⟨annOk_no A, annOk_no B⟩
 annOk_no' : ∀ A B, annOk A .no = true ∧ annOk B .no = true := fun A B => ⟨annOk_no A, annOk_no B⟩
def aggD : TypeDesc → Bool
 | .struct _ | .array _ _ => true
 | _ => false
mutual
def tyOk (P : Program) : Nat → TypeId → Ty → Bool
 | 0, _, _ => false
 | n + 1, t, T => (match P.info? t with | some i => i.size == cellsN T | none => false) &&
   match P.underlying t with
   | some (.int k) => (match T with | .int k' => decide (k = k') | _ => false)
   | some .bool => (match T with | .bool => true | _ => false)
   | some .string => (match T with | .str => true | _ => false)
   | some (.slice e) => (match T with | .sl T' => tyOk P n e T' | _ => false)
   | some (.array m e) => (match T with | .arr m' T' => m == m' && tyOk P n e T' | _ => false)
   | some (.struct fs) => fldOk P n fs.toList T 0
   | some (.func _ _ _) => (match T with | .fn _ _ => true | _ => false)
   | _ => false
def fldOk (P : Program) : Nat → List Field → Ty → Nat → Bool
 | 0, _, _, _ => false
 | _ + 1, [], T, _ => (match T with | .unit => true | _ => false)
 | n + 1, f :: fs, T, off => (match T with | .pair A B => f.offset == off && tyOk P n f.type A && fldOk P n fs B (off + cellsN A) | _ => false)
end
structure TyR (P : Program) (t : TypeId) (T : Ty) : Prop where
 ok : ∃ n, tyOk P n t T = true
theorem TyR.size {P : Program} {t : TypeId} {T : Ty} (h : TyR P t T) : ∃ i, P.info? t = some i ∧ i.size = cellsN T := by
 obtain ⟨⟨n, h⟩⟩ := h
 cases n with
 | zero => simp [tyOk] at h
 | succ n =>
   simp only [tyOk, Bool.and_eq_true] at h
   cases hi : P.info? t with
   | none => simp [hi] at h
   | some i => exact ⟨i, rfl, by simpa [hi] using h.1⟩
theorem TyR.agg {P : Program} {t : TypeId} {T : Ty} (h : TyR P t T) : ∃ d, P.underlying t = some d ∧ aggD d = isAggT T := by
 obtain ⟨⟨n, h⟩⟩ := h
 cases n with
 | zero => simp [tyOk] at h
 | succ n =>
   simp only [tyOk, Bool.and_eq_true] at h
   have h2 := h.2
   cases hu : P.underlying t with
   | none => simp [hu] at h2
   | some d =>
     refine ⟨d, rfl, ?_⟩
     cases d with
     | struct fs =>
       simp only [hu] at h2
       cases n with
       | zero => simp [fldOk] at h2
       | succ n =>
         cases hfs : fs.toList with
         | nil => rw [hfs] at h2; cases T <;> first | rfl | (simp [fldOk] at h2; done)
         | cons f fs => rw [hfs] at h2; cases T <;> first | rfl | (simp [fldOk] at h2; done)
     | _ => cases T <;> first | rfl | (simp [hu] at h2; done)
theorem TyR.cases {P : Program} {t : TypeId} {T : Ty} (h : TyR P t T) (hT : ∀ A B, T ≠ .pair A B) (hT' : T ≠ .unit) : ∃ n d, P.underlying t = some d ∧ (∀ fs, d ≠ .struct fs) ∧
  (match d with
  | .int k => (match T with | .int k' => decide (k = k') | _ => false)
  | .bool => (match T with | .bool => true | _ => false)
  | .string => (match T with | .str => true | _ => false)
  | .slice e => (match T with | .sl T' => tyOk P n e T' | _ => false)
  | .array m e => (match T with | .arr m' T' => m == m' && tyOk P n e T' | _ => false)
  | .func _ _ _ => (match T with | .fn _ _ => true | _ => false)
  | _ => false) = true := by
 obtain ⟨⟨n, h⟩⟩ := h
 cases n with
 | zero => simp [tyOk] at h
 | succ n =>
   simp only [tyOk, Bool.and_eq_true] at h
   have h2 := h.2
   cases hu : P.underlying t with
   | none => simp [hu] at h2
   | some d =>
     refine ⟨n, d, rfl, ?_, ?_⟩
     ·rintro fs rfl
      simp only [hu] at h2
      cases n with
      | zero => simp [fldOk] at h2
      | succ n =>
        cases hfs : fs.toList with
        | nil => rw [hfs] at h2; cases T <;> first | exact hT' rfl | (simp [fldOk] at h2; done)
        | cons f fs => rw [hfs] at h2; cases T <;> first | exact hT _ _ rfl | (simp [fldOk] at h2; done)
     ·rw [hu] at h2
      cases d with
      | struct fs =>
        exfalso
        cases n with
        | zero => simp [fldOk] at h2
        | succ n =>
          cases hfs : fs.toList with
          | nil => simp only [hfs] at h2; cases T <;> first | exact hT' rfl | (simp [fldOk] at h2; done)
          | cons f fs => simp only [hfs] at h2; cases T <;> first | exact hT _ _ rfl | (simp [fldOk] at h2; done)
      | _ => cases T <;> first | exact h2 | (simp at h2; done)
theorem TyR.slice {P : Program} {t : TypeId} {T : Ty} (h : TyR P t (.sl T)) : ∃ e, P.underlying t = some (.slice e) ∧ TyR P e T := by
 obtain ⟨n, d, hu, _, h2⟩ := h.cases (by simp) (by simp)
 cases d <;> first | (simp at h2; done) | exact ⟨_, hu, ⟨n, h2⟩⟩
theorem TyR.int {P : Program} {t : TypeId} {k : IntKind} (h : TyR P t (.int k)) : P.underlying t = some (.int k) := by
 obtain ⟨n, d, hu, _, h2⟩ := h.cases (by simp) (by simp)
 cases d <;> first | (simp at h2; done) | (rw [hu, of_decide_eq_true h2])
theorem TyR.bool {P : Program} {t : TypeId} (h : TyR P t .bool) : P.underlying t = some .bool := by
 obtain ⟨n, d, hu, _, h2⟩ := h.cases (by simp) (by simp)
 cases d <;> first | (simp at h2; done) | exact hu
theorem TyR.str {P : Program} {t : TypeId} (h : TyR P t .str) : P.underlying t = some .string := by
 obtain ⟨n, d, hu, _, h2⟩ := h.cases (by simp) (by simp)
 cases d <;> first | (simp at h2; done) | exact hu
theorem TyR.array {P : Program} {t : TypeId} {m : Nat} {T : Ty} (h : TyR P t (.arr m T)) : ∃ e, P.underlying t = some (.array m e) ∧ TyR P e T := by
 obtain ⟨n, d, hu, _, h2⟩ := h.cases (by simp) (by simp)
 cases d <;> first | (simp at h2; done) | skip
 simp only [Bool.and_eq_true, beq_iff_eq] at h2
 exact ⟨_, by rw [hu, h2.1], ⟨n, h2.2⟩⟩
def fpath : Nat → Path
 | 0 => [.l]
 | f + 1 => .r :: fpath f
theorem fld_at (P : Program) : ∀ (fs : List Field) (n : Nat) (T : Ty) (off f : Nat) (fd : Field), fldOk P n fs T off = true → fs[f]? = some fd → ∃ A, subT T (fpath f) = some A ∧ TyR P fd.type A ∧ off + offT T (fpath f) = fd.offset
 | [], n, T, off, f, fd, _, h => by simp at h
 | g :: fs, n, T, off, f, fd, h, hf => by
   cases n with
   | zero => simp [fldOk] at h
   | succ n =>
     simp only [fldOk] at h
     split at h
     ·rename_i A C
      simp only [Bool.and_eq_true, beq_iff_eq] at h
      cases f with
      | zero =>
        simp only [List.getElem?_cons_zero, Option.some.injEq] at hf
        subst hf
        refine ⟨A, ?_, ⟨n, h.1.2⟩, ?_⟩
        ·cases A <;> rfl
        ·have : offT A [] = 0 := by cases A <;> rfl
         simp only [fpath, offT, this]; omega
      | succ f =>
        simp only [List.getElem?_cons_succ] at hf
        obtain ⟨D, h1, h2, h3⟩ := fld_at P fs n C (off + cellsN A) f fd h.2 hf
        exact ⟨D, by simp only [fpath, subT]; exact h1, h2, by simp only [fpath, offT]; omega⟩
     ·exact absurd h (by simp)
theorem TyR.struct {P : Program} {t : TypeId} {T : Ty} {fs : Array Field} (h : TyR P t T) (hu : P.underlying t = some (.struct fs)) {f : Nat} {fd : Field} (hf : fs[f]? = some fd) :
  ∃ A, subT T (fpath f) = some A ∧ TyR P fd.type A ∧ offT T (fpath f) = fd.offset := by
 obtain ⟨⟨n, h⟩⟩ := h
 cases n with
 | zero => simp [tyOk] at h
 | succ n =>
   simp only [tyOk, Bool.and_eq_true, hu] at h
   obtain ⟨A, h1, h2, h3⟩ := fld_at P fs.toList n T 0 f fd h.2 (by simpa using hf)
   exact ⟨A, h1, h2, by omega⟩
theorem add_off (b off j : Nat) : (⟨b, off, none⟩ : Addr).add j = ⟨b, off + j, none⟩ := by unfold Addr.add; split <;> simp_all
section
variable {P : Program}
theorem run_sizeT {t : TypeId} {T : Ty} (h : TyR P t T) (w : World) : (sizeOf t).run P w = .ok (cellsN T) w := by
 obtain ⟨i, hi, hs⟩ := h.size
 simp [sizeOf, typeInfo, hi, hs]
theorem run_isAggT {t : TypeId} {T : Ty} (h : TyR P t T) (w : World) : (isAgg t).run P w = .ok (isAggT T) w := by
 obtain ⟨d, hd, ha⟩ := h.agg
 simp only [isAgg, Sem.run_bind, run_underlying hd, Result.andThen_ok]
 rw [← ha]
 cases d <;> rfl
theorem run_loadT {t : TypeId} {T : Ty} (h : TyR P t T) (w : World) {b off : Nat} {vs : List Value} (hl : vs.length = cellsN T) (hc : ∀ j u, vs[j]? = some u → w.cell? ⟨b, off + j, none⟩ = some u) :
  (loadVar t ⟨b, off, none⟩).run P w = .ok (asVal T vs) w := by
 unfold loadVar
 simp only [Sem.run_bind, run_isAggT h, Result.andThen_ok]
 unfold asVal
 by_cases ha : isAggT T = true
 ·rw [if_pos ha, if_pos ha]
  have := run_loadCells_list (P := P) w ⟨b, off, none⟩ vs (fun j v hj => by rw [add_off]; exact hc j v hj)
  simp only [Sem.run_bind, run_sizeT h, Result.andThen_ok, ← hl, this]
  rfl
 ·rw [if_neg ha, if_neg ha]
  have h1 : vs.length = 1 := by rw [hl]; cases T <;> simp_all [isAggT, cellsN]
  obtain ⟨u, rfl⟩ := List.length_eq_one_iff.1 h1
  have := hc 0 u rfl
  simp only [Nat.add_zero] at this
  simp [run_load, this]
theorem cells_asVal {T : Ty} {vs : List Value} (hl : vs.length = cellsN T) (h1 : ∀ u ∈ vs, u.oneCell' = true) : (asVal T vs).cells = vs.toArray := by
 unfold asVal
 by_cases ha : isAggT T = true
 ·rw [if_pos ha]; rfl
 ·rw [if_neg ha]
  have h1' : vs.length = 1 := by rw [hl]; cases T <;> simp_all [isAggT, cellsN]
  obtain ⟨u, rfl⟩ := List.length_eq_one_iff.1 h1'
  have := h1 u (by simp)
  cases u <;> simp_all [Value.oneCell', Value.cells]
theorem run_storeCellsX (P : Program) (g o : Nat) (t : TypeId) (fz : Nat × Nat) : ∀ (vs : List Value) (i : Nat) (cur : Array Value) (w : World), w.heap[g]? = some (.cells cur t fz) → frzOk fz cur.size → o + i + vs.length ≤ cur.size → (∀ v ∈ vs, v.oneCell' = true) →
  (storeCells ⟨g, o, none⟩ vs i).run P w = .ok () (w.setRow g (cur.toList.take (o + i) ++ vs ++ cur.toList.drop (o + i + vs.length)).toArray)
 | [], i, cur, w, hg, _, _, _ => by
   simp only [storeCells, List.append_nil, List.length_nil, Nat.add_zero, List.take_append_drop, Array.toArray_toList]
   rw [setRow_self w g cur t fz hg]
   rfl
 | v :: rest, i, cur, w, hg, hfz, hl, h1 => by
   have hi : o + i < cur.size := by simp at hl; omega
   have hadd : (⟨g, o, none⟩ : Addr).add i = ⟨g, o + i, none⟩ := by unfold Addr.add; split <;> simp_all
   have hcell : w.cell? ⟨g, o + i, none⟩ = some cur[o + i] := by simp [World.cell?, hg, hi]
   have hfro : w.frozen? ⟨g, o + i, none⟩ = false := by
    obtain ⟨lo, hi'⟩ := fz
    simp only [World.frozen?, hg, Bool.and_eq_false_iff, decide_eq_false_iff_not]
    rcases hfz with hfz | hfz
    ·simp only [Prod.mk.injEq] at hfz; right; omega
    ·simp only at hfz; left; omega
   have hst : (store ((⟨g, o, none⟩ : Addr).add i) v).run P w = .ok () (w.setRow g (cur.setIfInBounds (o + i) v)) := by
    rw [hadd, run_store P w _ v _ (h1 v (by simp)), hcell]
    simp [hfro, setCell_eq_setRow w g (o + i) cur t fz v hg]
   have ih := run_storeCellsX P g o t fz rest (i + 1) (cur.setIfInBounds (o + i) v) (w.setRow g (cur.setIfInBounds (o + i) v)) (setRow_heap w g cur _ t _ hg) (by simpa using hfz) (by simp at hl ⊢; omega) (fun x hx => h1 x (by simp [hx]))
   simp only [storeCells, Sem.run_bind, hst, Result.andThen_ok, ih, setRow_setRow]
   congr 3
   have e := list_seg_step cur.toList (o + i) v rest (by simp at hl ⊢; omega)
   simpa [Array.toList_setIfInBounds, Nat.add_assoc] using e
theorem run_storeT {t : TypeId} {T : Ty} (h : TyR P t T) (w : World) {g off : Nat} {e : TypeId} {fz : Nat × Nat} {cur : Array Value} {vs : List Value} (hg : w.heap[g]? = some (.cells cur e fz)) (hfz : frzOk fz cur.size) (hl : vs.length = cellsN T)
  (h1 : ∀ u ∈ vs, u.oneCell' = true) (hfit : off + vs.length ≤ cur.size) :
  (storeVar t ⟨g, off, none⟩ (asVal T vs)).run P w = .ok () (w.setRow g (cur.toList.take off ++ vs ++ cur.toList.drop (off + vs.length)).toArray) := by
 have := run_storeCellsX P g off e fz vs 0 cur w hg hfz (by simpa using hfit) h1
 simp only [Nat.add_zero] at this
 simp [storeVar, run_sizeT h, cells_asVal hl h1, hl, this]
end
end Go.Fw
/- Soundness, part 5: operands; copies and assignments. -/
namespace Go.Fw
open Go Go.RowKit
def okOd : Operand → Od → Bool
 | .tmp k, .t k' => k == k'
 | .const v, .c T x => (match constV T x with | some vs => eqV T vs v | none => false)
 | .const v, .nil _ _ => eq1 v (.slice none 0 0)
 | .func f, .fn g _ _ => f == g
 | _, _ => false
def obOd (ob : Nat → OB) : Od → OB | .t k => ob k | _ => []
section
variable {P : Program} {B : Nat} {G0 : Nat → Nat → Prop} {W0 : World} {n : Nat} {env : Env} {a : Act} {w : World} {ob : Nat → OB}
theorem ent_rep {x : Operand} {y : Od} (hC : Conc P B G0 W0 n env a.tmps w ob) (h : okOd x y = true) : ERep P w (Gd B G0 ob) B a.tmps env (ent env y) (a.eval x) (obOd ob y) := by
 unfold okOd at h
 split at h
 ·rename_i k k'
  rw [beq_iff_eq] at h; subst h
  exact hC.rep k
 ·rename_i v T x
  split at h
  ·rename_i vs hvs
   exact ⟨rfl, vs, constV_flat P T w _ B .no (constV_flat.annOk_no T) hvs, eqV_eq h⟩
  ·exact absurd h (by simp)
 ·rename_i v e T
  have := eq1_eq h
  subst this
  show Flat P (.sl T) w _ B (.own true e .no) [] [_] _
  unfold Flat
  exact ⟨_, [], [], rfl, rowX_of (World.ownsRow_nil _ _ _ _), ⟨rfl, rfl⟩, rfl⟩
 ·rename_i f g A C
  rw [beq_iff_eq] at h; subst h
  exact ⟨rfl, #[], rfl, rfl, rfl⟩
 ·exact absurd h (by simp)
theorem copy_rep {x : Operand} {y : Od} (hC : Conc P B G0 W0 n env a.tmps w ob) (h : okOd x y = true) : ERep P w (Gd B G0 ob) B a.tmps env (copyE y (ent env y)) (a.eval x) [] ∨ (∃ v e T o xs, copyE y (ent env y) = .own v e T o xs ∧ obOd ob y = [] ∧ xs = [] ∧ a.eval x = .slice none 0 0) := by
 have hr := ent_rep hC h
 cases y with
 | t k =>
   left
   simp only [ent, obOd] at hr ⊢
   have hx : a.eval x = a.tmps.getD k undef := by
    unfold okOd at h
    split at h <;> first | (rename_i k1 k2 _ hh; cases hh; rw [beq_iff_eq] at h; subst h; rfl) | skip
    all_goals first | (rename_i hh; cases hh; done) | (exact absurd h (by simp)) | skip
   cases he : look env k with
   | dead => rw [he] at hr; exact rfl
   | und => rw [he] at hr; exact ⟨hr.1, rfl⟩
   | v T x => rw [he] at hr; exact ⟨rfl, hr.2⟩
   | own wr e T o xs =>
     refine ⟨rfl, ?_, ?_⟩
     ·simp only [headAt, he]; rw [hx]
     ·simp [heldAt, he]
   | loc T o x =>
     rw [he] at hr
     obtain ⟨b, cur, e, ob', h1, _⟩ := hr
     refine ⟨rfl, T, o, x, b, he, by rw [← hx]; exact h1, ?_, ?_⟩
     ·cases T <;> rfl
     ·rw [h1]; cases T <;> rfl
   | ref s p => rw [he] at hr; exact ⟨rfl, hr.2⟩
   | ptr s p => rw [he] at hr; exact ⟨rfl, hr.2⟩
   | ptre s p i q => rw [he] at hr; exact ⟨rfl, hr.2⟩
   | «at» T x => rw [he] at hr; exact ⟨rfl, hr.2⟩
   | tup es => exact rfl
   | it s pos => exact rfl
   | nw T o x => rw [he] at hr; exact ⟨rfl, hr.2⟩
   | clo f A C caps => rw [he] at hr; exact ⟨rfl, hr.2⟩
 | c T x => left; exact hr
 | nil e T =>
   right
   refine ⟨true, e, T, .no, [], rfl, rfl, rfl, ?_⟩
   unfold okOd at h
   split at h <;> first | (rename_i hh; cases hh; exact eq1_eq h) | (rename_i hh; cases hh; done) | (exact absurd h (by simp)) | skip
 | fn f A C => left; exact hr
def KOk (P : Program) (B : Nat) (G0 : Nat → Nat → Prop) (W0 : World) (n : Nat) (a : Act) {R : Type} (K : Kont R) (r : R) (next : Act → World → Prop) : Prop :=
 ∀ env' tm' w' ob', Conc P B G0 W0 n env' tm' w' ob' → K env' = some r → next { a with tmps := tm' } w'
theorem put_tmps (a : Act) (d : Option Tmp) (v : Value) : ({ a with tmps := (a.put d v).tmps } : Act) = a.put d v := by cases d <;> rfl
theorem wp_value {o : Oper} {next : Act → World → Prop} {Q : Exit → Act → World → Prop} {v : Value} {w' : World} (hrun : (execOp a.eval o).run P w = .ok (.value v) w') (h : next (a.put o.dst v) w') : o.wp P a w next Q := by
 unfold Oper.wp; rw [hrun]; exact h
theorem wp_unit {o : Oper} {next : Act → World → Prop} {Q : Exit → Act → World → Prop} {w' : World} (hrun : (execOp a.eval o).run P w = .ok .skip w') (h : next (a.put o.dst undef) w') : o.wp P a w next Q := by
 unfold Oper.wp; rw [hrun]; exact h
variable {R : Type} {K : Kont R} {r : R} {next : Act → World → Prop}
theorem fin0 (hC : Conc P B G0 W0 n env a.tmps w ob) (hK : KOk P B G0 W0 n a K r next) {d : Option Nat} {e : E} {v : Value} {w' : World} (hd : ∀ k, d = some k → k < n) (hg : Grows w w')
  (hr : ERep P w (Gd B G0 ob) B a.tmps env e v []) (hk : K (putO env d e) = some r) : next (a.put d v) w' := by
 obtain ⟨ob', h⟩ := Conc.putO hC hd hg hr a rfl
 have := hK _ _ _ _ h hk
 rwa [put_tmps] at this
theorem fin_nil (hC : Conc P B G0 W0 n env a.tmps w ob) (hK : KOk P B G0 W0 n a K r next) {d : Option Nat} {wr : Bool} {e : TypeId} {T : Ty} {o : Ann} (hd : ∀ k, d = some k → k < n)
  (hk : K (putO env d (.own wr e T o [])) = some r) : next (a.put d (.slice none 0 0)) w := by
 cases d with
 | none =>
   have := hK _ _ _ _ hC hk
   exact this
 | some k =>
   have h := Conc.putG (e := .own wr e T o []) (v := .slice none 0 0) (bk := []) hC (hd k rfl) (Grows.refl w) ?_ (by simp) (by simp)
   ·have := hK _ _ _ _ h hk
    exact this
   ·rw [if_neg (by simp [leads])]
    show Flat P (.sl T) w _ B (.own wr e o) [] [_] _
    unfold Flat
    exact ⟨_, [], [], rfl, rowX_of (World.ownsRow_nil _ _ _ _), ⟨rfl, rfl⟩, rfl⟩
theorem fin_copy (hC : Conc P B G0 W0 n env a.tmps w ob) (hK : KOk P B G0 W0 n a K r next) {d : Option Nat} {x : Operand} {y : Od} (hx : okOd x y = true) (hd : ∀ k, d = some k → k < n)
  (hk : K (putO env d (copyE y (ent env y))) = some r) : next (a.put d (a.eval x)) w := by
 rcases copy_rep hC hx with h | ⟨wr, e, T, o, xs, h1, _, rfl, h4⟩
 ·exact fin0 hC hK hd (Grows.refl w) h hk
 ·rw [h1] at hk
  rw [h4]
  exact fin_nil hC hK hd hk
end
end Go.Fw
