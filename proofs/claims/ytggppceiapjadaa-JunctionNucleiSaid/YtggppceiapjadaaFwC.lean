/- The abstract value machine, part 3: steps, code, calls. -/
import Derived.Test.YtggppceiapjadaaFwR
set_option linter.unusedVariables false
set_option linter.unusedSimpArgs false
namespace Go.Fw
open Go Go.RowKit

inductive AOp where
  | mv (x : Od)
  | asg (x : Od)
  | pick (c a b : Od)
  | alloc (T : Ty) (o : Ann)
  | box (T : Ty) (x : Od)
  | build (T : Ty) (parts : List (Path × Od))
  | buildN (T : Ty) (o : Ann) (parts : List (Path × Od))
  | buildSlice (e : TypeId) (T : Ty) (parts : List Od)
  | load (T : Ty) (a : Od)
  | store (T : Ty) (a x : Od)
  | bin (op : BinOp) (x y : Od)
  | un (op : UnOp) (x : Od)
  | convI (k : IntKind) (x : Od)
  | fieldAddr (S : Ty) (p : Path) (a : Od)
  | indexAddr (T : Ty) (x i : Od)
  | indexArr (n : Nat) (T : Ty) (x i : Od)
  | field (S : Ty) (p : Path) (x : Od)
  | indexS (x i : Od)
  | indexA (n : Nat) (T : Ty) (x i : Od)
  | sliceS (x : Od) (lo hi : Option Od)
  | sliceL (T : Ty) (x : Od) (lo hi mx : Option Od)
  | eqT (neg : Bool) (T : Ty) (x y : Od)
  | mkSlice (e : TypeId) (T : Ty) (lim : Nat) (len cap : Od)
  | append (e : TypeId) (T : Ty) (lim : Nat) (s x : Od)
  | lenS (x : Od)
  | lenL (x : Od)
  | lenA (n : Nat)
  | mm (max : Bool) (x y : Od)
  | call (f : FuncId) (args : List Od)
  | callv (x : Od) (args : List Od)
  | extract (k : Nat) (i : Nat)
  | mkfn (f : FuncId) (A C : Ty) (caps : List Od)
  | rng (x : Od)
  | nxt (k : Nat)
  | bad
  | nilck (x : Od)
  | toSl (x : Od)
  | toStr (x : Od)

structure AI where
  dst : Option Nat
  op : AOp
  guard : Option (Nat × Bool) := none

abbrev Kont (R : Type) := Env → Option R

def Od.slot : Od → Option Nat | .t k => some k | _ => none

def intOf? : E → Option (IntKind × Int)
  | .v (.int k) n => some (k, n)
  | _ => none

def boolOf? : E → Option Bool
  | .v .bool b => some b
  | _ => none

def strOf? : E → Option (List UInt8)
  | .v .str s => some s
  | _ => none

def optInt (env : Env) : Option Od → Option (Option Int)
  | none => some none
  | some x => (intOf? (ent env x)).bind fun q => some (some q.2)

/-- a copy of an entry into another slot -/
def copyE (x : Od) (e : E) : E :=
  match e with
  | .own .. => match x with | .t k => .ref k [] | _ => e
  | .loc .. => match x with | .t k => .ptr k [] | _ => e
  | .tup _ => .dead
  | .it _ _ => .dead
  | _ => e

/-- several results go over as they are -/
def moveE (env : Env) (d : Option Nat) (x : Od) : Env :=
  match ent env x with
  | .tup es => match x, d with
    | .t k, some d => if k == d then env else (d, .tup es) :: (k, .dead) :: (if (look env d).home then kill d env else env)
    | _, _ => putO env d .dead
  | e => putO env d (copyE x e)

/-- an assignment: what a temporary holds goes over -/
def assign (env : Env) (d : Nat) (x : Od) : Env :=
  match ent env x with
  | .own wr e T o xs => match x with
    | .t k => if k == d then env else
      let env := if (look env d).home then kill d env else env
      (d, .own wr e T o xs) :: (k, .ref d []) :: moved k d env
    | _ => put env d (.own wr e T o xs)
  | e => put env d (copyE x e)

def beqV : (T : Ty) → Option (den T → den T → Bool)
  | .int _ => some fun x y => x == y
  | .bool => some fun x y => x == y
  | .str => some fun x y => x == y
  | .unit => some fun _ _ => true
  | .pair A B => match beqV A, beqV B with
    | some f, some g => some fun x y => f x.1 y.1 && g x.2 y.2
    | _, _ => none
  | _ => none

def buildV : (T : Ty) → den T → Env → List (Path × Od) → Option (Env × den T)
  | _, x, env, [] => some (env, x)
  | T, x, env, (p, a) :: r => (pub env a).bind fun q => (setP T p x q.2).bind fun y => buildV T y q.1 r

def buildL (T : Ty) : Env → List Od → Option (Env × List (den T))
  | env, [] => some (env, [])
  | env, a :: r => (pub env a).bind fun q => (cast? T q.2).bind fun x => (buildL T q.1 r).bind fun z => some (z.1, x :: z.2)

def argList (cl : Cal) (env : Env) : List Od → Option (List E)
  | [] => some []
  | a :: r =>
    (match ent env a with
     | .loc T o x => if o.whole then some (E.at T x) else none
     | .clo f A C caps => cloV cl env f A C caps
     | e => argS env e).bind fun x => (argList cl env r).bind fun y => some (x :: y)

def freezeAll (env : Env) : List Od → Env
  | [] => env
  | a :: r => freezeAll (match homeOf a (ent env a) with | some s => freeze env s | none => env) r

def E.plain : E → Bool
  | .v T _ => scalarT T
  | .own _ _ T _ _ => scalarT T
  | _ => false

def resE : List E → E
  | [e] => e
  | es => .tup es

/-- arguments, handed to a callee: its slots -/
def tuple : (A : Ty) → List E → Option (den A)
  | .unit, [] => some ()
  | .pair A B, .v T x :: r => (cast? A ⟨T, x⟩).bind fun y => (tuple B r).bind fun z => some (y, z)
  | _, _ => none

variable {R : Type}

/-- the variable's part that a pointer leads to -/
def locPlace (env : Env) (y : Od) : Option (Nat × Path) :=
  match ent env y with
  | .ptr s p => some (s, p)
  | .loc .. => y.slot.map fun k => (k, [])
  | _ => none

/-- the place of the slice that a slot holds or shows -/
def placeOf (env : Env) (k0 : Nat) : Option (Nat × Path) :=
  match look env k0 with
  | .own .. => some (k0, [])
  | .ref k p => some (k, p)
  | _ => none

/-- the slice at a place is taken away -/
def takeAt (env : Env) (k : Nat) (p : Path) : Option Env :=
  match look env k with
  | .own .. => some ((k, .dead) :: kill k env)
  | .loc T0 o x0 => some ((k, .loc T0 (setAnn o p .hole) x0) :: killR k env)
  | _ => none

def apart (d : Option Nat) (k : Nat) : Bool := match d with | some d => !(d == k) | none => false

/-- may be captured -/
def E.cap : E → Bool
  | .tup _ | .clo _ _ _ _ | .own .. | .it _ _ => false
  | _ => true

def valOf? : E → Option TV
  | .v T x => some ⟨T, x⟩
  | _ => none

/-- one operation; K: what follows -/
def step (cl : Cal) (i : AI) (env : Env) (K : Kont R) : Option R :=
  match i.op with
  | .mv x => K (moveE env i.dst x)
  | .asg x => match i.dst with | some d => K (assign env d x) | none => none
  | .pick c a b => (boolOf? (ent env c)).bind fun q => brB q (K (putO env i.dst (copyE a (ent env a)))) (K (putO env i.dst (copyE b (ent env b))))
  | .alloc T o => K (putO env i.dst (.loc T o (zero T)))
  | .box T x => (pub env x).bind fun q => (cast? T q.2).bind fun y => K (putO q.1 i.dst (.loc T .no y))
  | .build T parts => (buildV T (zero T) env parts).bind fun q => K (putO q.1 i.dst (.v T q.2))
  | .buildN T o parts => (buildV T (zero T) env parts).bind fun q => K (putO q.1 i.dst (.nw T (annParts o parts) q.2))
  | .buildSlice e T parts => (buildL T env parts).bind fun q => K (putO q.1 i.dst (.own true e T .no q.2))
  | .load T a => match ent env a with
    | .at T' x => (cast? T ⟨T', x⟩).bind fun y => K (putO env i.dst (.v T y))
    | .ptre s p j q => (heldAt env s p).bind fun h => if j < h.xs.length then
        (if h.o.pure then (getP h.T q (h.xs.getD j (zero h.T))).bind fun z => (cast? T z).bind fun y => K (putO env i.dst (.v T y)) else none) else none
    | _ => match locPlace env a with
      | some (s, p) => match look env s with
        | .loc T0 o x => match annAt o p with
          | .own .. => match getP T0 p x with
            | some ⟨.sl T', _⟩ => if T = .sl T' then K (putO env i.dst (.ref s p)) else none
            | _ => none
          | b => if b.whole then (getP T0 p x).bind fun z => (cast? T z).bind fun y =>
              K (putO (if b.pure then env else freeze env s) i.dst (.v T y)) else none
        | _ => none
      | none => none
  | .store T a x => match ent env a with
    | .ptre s p j q => match look env s with
      | .own true e T0 o xs => match p with
        | [] => (pub env x).bind fun y => (cast? T y.2).bind fun z => if j < xs.length then
            (setP T0 q (xs.getD j (zero T0)) ⟨T, z⟩).bind fun u => (match look y.1 s with | .own true .. => some () | _ => none).bind fun _ => if o.pure then K ((s, .own true e T0 o (xs.set j u)) :: y.1) else none else none
        | _ => none
      | .loc T0 o x0 => (valOf? (ent env x)).bind fun y => (cast? T y).bind fun z => match annAt o p, getP T0 p x0 with
        | .own true _ o', some ⟨.sl T1, xs⟩ => if j < xs.length then (setP T1 q (xs.getD j (zero T1)) ⟨T, z⟩).bind fun u => (setP T0 p x0 ⟨.sl T1, xs.set j u⟩).bind fun x1 =>
            if o'.pure then K ((s, .loc T0 o x1) :: env) else none else none
        | _, _ => none
      | _ => none
    | _ => match locPlace env a with
      | some (s, p) => match look env s with
        | .loc T0 o x0 =>
          if (scalarT T) then
            (imm env (ent env x)).bind fun y => (cast? T y).bind fun z => (setP T0 p x0 ⟨T, z⟩).bind fun x1 => K ((s, .loc T0 o x1) :: env)
          else match ent env x with
          | .own wr e T1 o1 xs => match x with
            | .t k => (cast? T ⟨.sl T1, xs⟩).bind fun z => (setP T0 p x0 ⟨T, z⟩).bind fun x1 => match hasIx p with
              | true => none
              | false => K ((s, .loc T0 (setAnn o p (.own wr e o1)) x1) :: (k, .ref s p) :: killR s (kill k env))
            | _ => (cast? T ⟨.sl T1, xs⟩).bind fun z => (setP T0 p x0 ⟨T, z⟩).bind fun x1 => match hasIx p with
              | true => none
              | false => K ((s, .loc T0 (setAnn o p (.own wr e o1)) x1) :: killR s env)
          | .nw T1 o1 x2 => (cast? T ⟨T1, x2⟩).bind fun z => (setP T0 p x0 ⟨T, z⟩).bind fun x1 => match hasIx p || !o1.whole with
              | true => none
              | false => K ((s, .loc T0 (setAnn o p o1) x1) :: killR s env)
          | _ => (pub env x).bind fun y => (cast? T y.2).bind fun z => match look y.1 s with
            | .loc T0 o x0 => (setP T0 p x0 ⟨T, z⟩).bind fun x1 => match (annAt o p).pure with
              | true => K ((s, .loc T0 o x1) :: y.1)
              | false => K ((s, .loc T0 (setAnn o p .no) x1) :: killR s y.1)
            | _ => none
        | _ => none
      | none => none
  | .bin op x y => match ent env x, ent env y with
    | .v (.int k) m, .v (.int k') n => if k = k' then
        (match op with
         | .quo => if n = 0 then none else K (putO env i.dst (.v (.int k) (k.wrap (m.tdiv n))))
         | .rem => if n = 0 then none else K (putO env i.dst (.v (.int k) (m.tmod n)))
         | _ => match cmpI op m n with
           | some b => K (putO env i.dst (.v .bool b))
           | none => (arith op k m n).bind fun r => K (putO env i.dst (.v (.int k) r))) else none
    | .v .str s, .v .str t => match op with
      | .eql => K (putO env i.dst (.v .bool (s == t)))
      | .neq => K (putO env i.dst (.v .bool (s != t)))
      | .add => if s.length + t.length ≤ 140737488355328 then K (putO env i.dst (.v .str (s ++ t))) else none
      | .lss => K (putO env i.dst (.v .bool (Op.bytesLess s t)))
      | .leq => K (putO env i.dst (.v .bool (Op.bytesLess s t || s == t)))
      | .gtr => K (putO env i.dst (.v .bool (!(Op.bytesLess s t || s == t))))
      | .geq => K (putO env i.dst (.v .bool (!Op.bytesLess s t)))
      | _ => none
    | _, _ => none
  | .eqT neg T x y => (imm env (ent env x)).bind fun s => (imm env (ent env y)).bind fun t => (cast? T s).bind fun s => (cast? T t).bind fun t => (beqV T).bind fun f =>
      K (putO env i.dst (.v .bool (if neg then !f s t else f s t)))
  | .un op x => match op, ent env x with
    | .not, .v .bool b => K (putO env i.dst (.v .bool (!b)))
    | .neg, .v (.int k) n => K (putO env i.dst (.v (.int k) (k.wrap (0 - n))))
    | _, _ => none
  | .convI k x => (intOf? (ent env x)).bind fun q => K (putO env i.dst (.v (.int k) (k.wrap q.2)))
  | .fieldAddr S p a => match ent env a with
    | .at T x => (cast? S ⟨T, x⟩).bind fun x => (getP S p x).bind fun y => K (putO env i.dst (.at y.1 y.2))
    | .ptr s q => match look env s with
      | .loc T0 _ _ => if subT T0 q = some S then K (putO env i.dst (.ptr s (q ++ p))) else none
      | _ => none
    | .ptre s q j r => (heldAt env s q).bind fun h => if subT h.T r = some S then K (putO env i.dst (.ptre s q j (r ++ p))) else none
    | .loc T0 _ _ => if T0 = S then a.slot.bind fun k => K (putO env i.dst (.ptr k p)) else none
    | _ => none
  | .indexAddr T x ix => (intOf? (ent env ix)).bind fun q => match ent env x with
    | .v T' xs => (cast? (.sl T) ⟨T', xs⟩).bind fun xs => if 0 ≤ q.2 ∧ q.2 < (xs.length : Int) then K (putO env i.dst (.at T (xs.getD q.2.toNat (zero T)))) else none
    | .own _ _ T' _ xs => if T' = T then x.slot.bind fun s => if 0 ≤ q.2 ∧ q.2 < (xs.length : Int) then K (putO env i.dst (.ptre s [] q.2.toNat [])) else none else none
    | .ref s p => (heldAt env s p).bind fun h => if h.T = T then if 0 ≤ q.2 ∧ q.2 < (h.xs.length : Int) then K (putO env i.dst (.ptre s p q.2.toNat [])) else none else none
    | _ => none
  | .indexArr n T x ix => (intOf? (ent env ix)).bind fun q => match ent env x with
    | .at T' xs => (cast? (.arr n T) ⟨T', xs⟩).bind fun xs => if 0 ≤ q.2 ∧ q.2 < (n : Int) then K (putO env i.dst (.at T (xs.getD q.2.toNat (zero T)))) else none
    | _ => match locPlace env x with
      | some (s, p) => match look env s with
        | .loc T0 _ _ => if subT T0 p = some (.arr n T) then if 0 ≤ q.2 ∧ q.2 < (n : Int) then K (putO env i.dst (.ptr s (p ++ [.ix q.2.toNat]))) else none else none
        | _ => none
      | none => none
  | .field S p x => (imm env (ent env x)).bind fun y => (cast? S y).bind fun y => (getP S p y).bind fun z => K (putO env i.dst (.v z.1 z.2))
  | .indexS x ix => (intOf? (ent env ix)).bind fun q => (strOf? (ent env x)).bind fun s =>
      if 0 ≤ q.2 ∧ q.2 < (s.length : Int) then K (putO env i.dst (.v (.int .u8) ((s.getD q.2.toNat 0).toNat : Int))) else none
  | .indexA n T x ix => (intOf? (ent env ix)).bind fun q => match ent env x with
    | .v T' xs => (cast? (.arr n T) ⟨T', xs⟩).bind fun xs => if 0 ≤ q.2 ∧ q.2 < (n : Int) then K (putO env i.dst (.v T (xs.getD q.2.toNat (zero T)))) else none
    | _ => none
  | .sliceS x lo hi => (optInt env lo).bind fun lo => (optInt env hi).bind fun hi => (strOf? (ent env x)).bind fun s =>
      if 0 ≤ lo.getD 0 ∧ lo.getD 0 ≤ hi.getD (s.length : Int) ∧ hi.getD (s.length : Int) ≤ (s.length : Int) then
        K (putO env i.dst (.v .str ((s.drop (lo.getD 0).toNat).take ((hi.getD (s.length : Int)).toNat - (lo.getD 0).toNat)))) else none
  | .sliceL T x lo hi mx => (optInt env lo).bind fun lo => (optInt env hi).bind fun hi => (optInt env mx).bind fun mx => (pub env x).bind fun y => (cast? (.sl T) y.2).bind fun xs =>
      if 0 ≤ lo.getD 0 ∧ lo.getD 0 ≤ hi.getD (xs.length : Int) ∧ hi.getD (xs.length : Int) ≤ mx.getD (xs.length : Int) ∧ mx.getD (xs.length : Int) ≤ (xs.length : Int) then
        K (putO y.1 i.dst (.v (.sl T) ((xs.drop (lo.getD 0).toNat).take ((hi.getD (xs.length : Int)).toNat - (lo.getD 0).toNat)))) else none
  | .mkSlice e T lim l c => match ent env l, ent env c with
    | .v (.int .i64) m, .v (.int .i64) n => if 0 ≤ m ∧ m ≤ n ∧ n ≤ (lim : Int) then K (putO env i.dst (.own true e T .no (List.replicate m.toNat (zero T)))) else none
    | _, _ => none
  | .append e T lim s x => (pub env x).bind fun y => (cast? (.sl T) y.2).bind fun ys => match s with
    | .nil e' _ => if e = e' then if ys.length ≤ lim then K (putO y.1 i.dst (.own true e T .no ys)) else none else none
    | .t k0 => (placeOf y.1 k0).bind fun q => (heldAt y.1 q.1 q.2).bind fun h => (cast? (.sl T) ⟨.sl h.T, h.xs⟩).bind fun xs => (takeAt y.1 q.1 q.2).bind fun env2 =>
        match apart i.dst q.1 && h.o.pure && (h.e == e) with
        | true => if xs.length + ys.length ≤ lim then K (putO env2 i.dst (.own h.wr e T .no (xs ++ ys))) else none
        | false => none
    | _ => none
  | .lenS x => (strOf? (ent env x)).bind fun s => K (putO env i.dst (.v (.int .i64) (s.length : Int)))
  | .lenL x => (imm env (ent env x)).bind fun y => match y with
    | ⟨.sl _, xs⟩ => K (putO env i.dst (.v (.int .i64) (xs.length : Int)))
    | _ => none
  | .lenA m => K (putO env i.dst (.v (.int .i64) (m : Int)))
  | .mm mx x y => match ent env x, ent env y with
    | .v (.int k) m, .v (.int k') n => if k = k' then K (putO env i.dst (.v (.int k) (if mx then (if n > m then n else m) else (if n < m then n else m)))) else none
    | _, _ => none
  | .call f args => (argList cl env args).bind fun as => cl.runK f as fun res =>
      K (putO (if res.all E.plain then env else freezeAll env args) i.dst (resE res))
  | .callv x args => match ent env x with
    | .v (.fn A C) g => (argList cl env args).bind fun as => (tuple A as).bind fun a => (g a).bind fun r => if scalarT C then K (putO env i.dst (.v C r)) else none
    | .clo f _ _ caps => (argList cl env args).bind fun as => (argsS env caps).bind fun cs => cl.runK f (as ++ cs) fun res =>
        if res.all E.plain then K (putO env i.dst (resE res)) else none
    | _ => none
  | .extract k j => match look env k with
    | .tup es => match es[j]? with
      | some e => (match e with
        | .v T x => K (putO env i.dst (.v T x))
        | .own wr e' T o xs => K (putO ((k, .tup (es.set j .dead)) :: env) i.dst (.own wr e' T o xs))
        | _ => none)
      | none => none
    | _ => none
  | .mkfn f A C caps => if (caps.all fun a => (ent env a).cap) then K (putO env i.dst (.clo f A C (caps.map fun a => copyE a (ent env a)))) else none
  | .bad => none
  | .toSl x => (strOf? (ent env x)).bind fun s => K (putO env i.dst (.own true BUF (.int .u8) .no (s.map fun b => (b.toNat : Int))))
  | .toStr x => (imm env (ent env x)).bind fun y => (cast? (.sl (.int .u8)) y).bind fun xs => K (putO env i.dst (.v .str (xs.map fun n => UInt8.ofNat n.toNat)))
  | .nilck x => match ent env x with
    | .ptr .. | .ptre .. | .at .. | .loc .. => K (putO env i.dst (copyE x (ent env x)))
    | _ => none
  | .rng x => (strOf? (ent env x)).bind fun s => K (putO env i.dst (.it s 0))
  | .nxt k => match look env k with
    | .it s pos => brB (decide (pos < s.length)) (K (putO ((k, .it s (pos + (Utf8.decode ⟨⟨s⟩⟩ pos).2)) :: env) i.dst (.tup [.v .bool true, .v (.int .i64) (pos : Int), .v (.int .i32) ((Utf8.decode ⟨⟨s⟩⟩ pos).1 : Int)]))) (K (putO env i.dst (.tup [.v .bool false])))
    | _ => none

/-- a guarded operation; where the guard isn't decided, both ways -/
def guardX (g : Option (Nat × Bool)) (env : Env) (yes no : Kont R) : Option R :=
  match g with
  | none => yes env
  | some (s, pol) => match look env s with
    | .v .bool b => brB b ((if pol then yes else no) ((s, .v .bool true) :: env)) ((if pol then no else yes) ((s, .v .bool false) :: env))
    | .und => no env
    | _ => none

def ops (cl : Cal) : List AI → Env → Kont R → Option R
  | [], env, K => K env
  | i :: r, env, K => guardX i.guard env (fun env => step cl i env (fun env => ops cl r env K)) (fun env => ops cl r (putO env i.dst .und) K)

/-! ### Operations whose order is open -/
def leadsOff (d : Nat) (e : E) : E := if leads d e then .dead else e
def one (d : Option Nat) (e : E) : List (Nat × E) := match d with | some d => [(d, leadsOff d e)] | none => []

/-- may be copied as it stands -/
def E.lie : E → Bool
  | .own .. | .loc .. | .tup _ | .dead | .it _ _ => false
  | _ => true

def lieR (x : Od) : Rd E := (entR x).bind fun e => if e.lie then .ok e else .no

/-- a copy: what a variable holds is shown, not taken -/
def cpE (x : Od) (e : E) : Option E :=
  match e with
  | .tup _ | .dead | .it _ _ => none
  | .own .. | .loc .. => match x with | .t _ => some (copyE x e) | _ => none
  | e => some e
def cpR (x : Od) : Rd E := (entR x).bind fun e => match cpE x e with | some f => .ok f | none => .no

def intR (x : Od) : Rd (IntKind × Int) := (entR x).bind fun e => .of (intOf? e)
def boolR (x : Od) : Rd Bool := (entR x).bind fun e => .of (boolOf? e)
def strR (x : Od) : Rd (List UInt8) := (entR x).bind fun e => .of (strOf? e)
def optIntR : Option Od → Rd (Option Int)
  | none => .ok none
  | some x => (intR x).bind fun q => .ok (some q.2)

/-- a value that nobody holds -/
def valR (x : Od) : Rd TV := (entR x).bind fun e => .of (valOf? e)

def binR (op : BinOp) (a b : E) : Rd E :=
  match a, b with
  | .v (.int k) m, .v (.int k') n => if k = k' then
      (match op with
       | .quo => .ite (n = 0) .no (.ok (.v (.int k) (k.wrap (m.tdiv n))))
       | .rem => .ite (n = 0) .no (.ok (.v (.int k) (m.tmod n)))
       | _ => match cmpI op m n with
         | some b => .ok (.v .bool b)
         | none => match arith op k m n with
           | some r => .ok (.v (.int k) r)
           | none => .no) else .no
  | .v .str s, .v .str t => match op with
    | .eql => .ok (.v .bool (s == t))
    | .neq => .ok (.v .bool (s != t))
    | .add => .ite (s.length + t.length ≤ 140737488355328) (.ok (.v .str (s ++ t))) .no
    | .lss => .ok (.v .bool (Op.bytesLess s t))
    | .leq => .ok (.v .bool (Op.bytesLess s t || s == t))
    | .gtr => .ok (.v .bool (!(Op.bytesLess s t || s == t)))
    | .geq => .ok (.v .bool (!Op.bytesLess s t))
    | _ => .no
  | _, _ => .no

def unOE (op : UnOp) (x : E) : Option E :=
  match op, x with
  | .not, .v .bool b => some (.v .bool (!b))
  | .neg, .v (.int k) n => some (.v (.int k) (k.wrap (0 - n)))
  | _, _ => none

/-- the variable's part that a pointer leads to, with the variable -/
def placeR (x : Od) : Rd ((Nat × Path) × E) := (entR x).bind fun e => match e with
  | .ptr s p => (Rd.get s).bind fun f => .ok ((s, p), f)
  | .loc .. => match x with | .t k => .ok ((k, []), e) | _ => .no
  | _ => .no

def loadR (T : Ty) (s : Nat) (p : Path) : E → Rd E
  | .loc T0 o x => match annAt o p with
    | .own .. => match getP T0 p x with
      | some ⟨.sl T', _⟩ => if T = .sl T' then .ok (.ref s p) else .no
      | _ => .no
    | b => if b.whole && b.pure then (Rd.of ((getP T0 p x).bind fun z => cast? T z)).bind fun y => .ok (.v T y) else .no
  | _ => .no

def loadH (T : Ty) (j : Nat) (q : Path) (h : Held) : Rd E :=
  .ite (j < h.xs.length)
    (if h.o.pure then (Rd.of ((getP h.T q (h.xs.getD j (zero h.T))).bind fun z => cast? T z)).bind fun y => .ok (.v T y) else .no) .no

def fldE (S : Ty) (s : Nat) (q p : Path) : E → Option E
  | .loc T0 _ _ => if subT T0 q = some S then some (.ptr s (q ++ p)) else none
  | _ => none

def arrR (n : Nat) (T : Ty) (i : Int) (s : Nat) (p : Path) : E → Rd E
  | .loc T0 _ _ => if subT T0 p = some (.arr n T) then .ite (0 ≤ i ∧ i < (n : Int)) (.ok (.ptr s (p ++ [.ix i.toNat]))) .no else .no
  | _ => .no

def buildR : (T : Ty) → den T → List (Path × Od) → Rd (den T)
  | _, x, [] => .ok x
  | T, x, (p, a) :: r => (valR a).bind fun q => (Rd.of (setP T p x q)).bind fun y => buildR T y r

def buildLR (T : Ty) : List Od → Rd (List (den T))
  | [] => .ok []
  | a :: r => (valR a).bind fun q => (Rd.of (cast? T q)).bind fun x => (buildLR T r).bind fun z => .ok (x :: z)

def argR1 (cl : Cal) : E → Rd E
  | .loc T o x => if o.whole then .ok (E.at T x) else .no
  | .clo f A C caps => cloR cl f A C caps
  | e => argR e

def argListR (cl : Cal) : List Od → Rd (List E)
  | [] => .ok []
  | a :: r => ((entR a).bind (argR1 cl)).bind fun x => (argListR cl r).bind fun y => .ok (x :: y)

/-- none of them leads to what is held -/
def homelessR : List Od → Rd Unit
  | [] => .ok ()
  | a :: r => (entR a).bind fun e => if (homeOf a e).isNone then homelessR r else .no

def resR (args : List Od) (res : List E) : Rd E := if res.all E.plain then .ok (resE res) else (homelessR args).bind fun _ => .ok (resE res)

def capsR : List Od → Rd (List E)
  | [] => .ok []
  | a :: r => (entR a).bind fun e => if e.cap then (capsR r).bind fun y => .ok (copyE a e :: y) else .no

def extE (j : Nat) : E → Option E
  | .tup es => match es[j]? with
    | some (.v T x) => some (.v T x)
    | _ => none
  | _ => none

/-- what an operation without effect yields -/
def valE (cl : Cal) (d : Option Nat) : AOp → Rd E
  | .mv x => cpR x
  | .asg x => if d.isSome then lieR x else .no
  | .pick c a b => (boolR c).bind fun q => .br q (cpR a) (cpR b)
  | .alloc T o => .ok (.loc T o (zero T))
  | .box T x => (valR x).bind fun q => (Rd.of (cast? T q)).bind fun y => .ok (.loc T .no y)
  | .build T parts => (buildR T (zero T) parts).bind fun y => .ok (.v T y)
  | .buildN T o parts => (buildR T (zero T) parts).bind fun y => .ok (.nw T (annParts o parts) y)
  | .buildSlice e T parts => (buildLR T parts).bind fun y => .ok (.own true e T .no y)
  | .load T a => (entR a).bind fun e => match e with
    | .at T' x => (Rd.of (cast? T ⟨T', x⟩)).bind fun y => .ok (.v T y)
    | .ptre s p j q => (heldR s p).bind fun h => loadH T j q h
    | .ptr s p => (Rd.get s).bind fun f => loadR T s p f
    | .loc .. => match a with | .t k => loadR T k [] e | _ => .no
    | _ => .no
  | .bin op x y => (entR x).bind fun a => (entR y).bind fun b => binR op a b
  | .eqT neg T x y => (entR x).bind fun a => (entR y).bind fun b => (immR a).bind fun s => (immR b).bind fun t => (Rd.of (cast? T s)).bind fun s => (Rd.of (cast? T t)).bind fun t => (Rd.of (beqV T)).bind fun f =>
      .ok (.v .bool (if neg then !f s t else f s t))
  | .un op x => (entR x).bind fun a => .of (unOE op a)
  | .convI k x => (intR x).bind fun q => .ok (.v (.int k) (k.wrap q.2))
  | .fieldAddr S p a => (entR a).bind fun e => match e with
    | .at T x => (Rd.of (cast? S ⟨T, x⟩)).bind fun x => (Rd.of (getP S p x)).bind fun y => .ok (.at y.1 y.2)
    | .ptr s q => (Rd.get s).bind fun f => .of (fldE S s q p f)
    | .ptre s q j r => (heldR s q).bind fun h => if subT h.T r = some S then .ok (.ptre s q j (r ++ p)) else .no
    | .loc T0 _ _ => if T0 = S then match a with | .t k => .ok (.ptr k p) | _ => .no else .no
    | _ => .no
  | .indexAddr T x ix => (intR ix).bind fun q => (entR x).bind fun e => match e with
    | .v T' xs => (Rd.of (cast? (.sl T) ⟨T', xs⟩)).bind fun xs => .ite (0 ≤ q.2 ∧ q.2 < (xs.length : Int)) (.ok (.at T (xs.getD q.2.toNat (zero T)))) .no
    | .own _ _ T' _ xs => if T' = T then match x with | .t s => .ite (0 ≤ q.2 ∧ q.2 < (xs.length : Int)) (.ok (.ptre s [] q.2.toNat [])) .no | _ => .no else .no
    | .ref s p => (heldR s p).bind fun h => if h.T = T then .ite (0 ≤ q.2 ∧ q.2 < (h.xs.length : Int)) (.ok (.ptre s p q.2.toNat [])) .no else .no
    | _ => .no
  | .indexArr n T x ix => (intR ix).bind fun q => (entR x).bind fun e => match e with
    | .at T' xs => (Rd.of (cast? (.arr n T) ⟨T', xs⟩)).bind fun xs => .ite (0 ≤ q.2 ∧ q.2 < (n : Int)) (.ok (.at T (xs.getD q.2.toNat (zero T)))) .no
    | .ptr s p => (Rd.get s).bind fun f => arrR n T q.2 s p f
    | .loc .. => match x with | .t k => arrR n T q.2 k [] e | _ => .no
    | _ => .no
  | .field S p x => (entR x).bind fun e => (immR e).bind fun y => (Rd.of (cast? S y)).bind fun y => (Rd.of (getP S p y)).bind fun z => .ok (.v z.1 z.2)
  | .indexS x ix => (intR ix).bind fun q => (strR x).bind fun s =>
      .ite (0 ≤ q.2 ∧ q.2 < (s.length : Int)) (.ok (.v (.int .u8) ((s.getD q.2.toNat 0).toNat : Int))) .no
  | .indexA n T x ix => (intR ix).bind fun q => (entR x).bind fun e => match e with
    | .v T' xs => (Rd.of (cast? (.arr n T) ⟨T', xs⟩)).bind fun xs => .ite (0 ≤ q.2 ∧ q.2 < (n : Int)) (.ok (.v T (xs.getD q.2.toNat (zero T)))) .no
    | _ => .no
  | .sliceS x lo hi => (optIntR lo).bind fun lo => (optIntR hi).bind fun hi => (strR x).bind fun s =>
      .ite (0 ≤ lo.getD 0 ∧ lo.getD 0 ≤ hi.getD (s.length : Int) ∧ hi.getD (s.length : Int) ≤ (s.length : Int))
        (.ok (.v .str ((s.drop (lo.getD 0).toNat).take ((hi.getD (s.length : Int)).toNat - (lo.getD 0).toNat)))) .no
  | .sliceL T x lo hi mx => (optIntR lo).bind fun lo => (optIntR hi).bind fun hi => (optIntR mx).bind fun mx => (valR x).bind fun y => (Rd.of (cast? (.sl T) y)).bind fun xs =>
      .ite (0 ≤ lo.getD 0 ∧ lo.getD 0 ≤ hi.getD (xs.length : Int) ∧ hi.getD (xs.length : Int) ≤ mx.getD (xs.length : Int) ∧ mx.getD (xs.length : Int) ≤ (xs.length : Int))
        (.ok (.v (.sl T) ((xs.drop (lo.getD 0).toNat).take ((hi.getD (xs.length : Int)).toNat - (lo.getD 0).toNat)))) .no
  | .mkSlice e T lim l c => (intR l).bind fun m => (intR c).bind fun n => if m.1 = .i64 ∧ n.1 = .i64 then .ite (0 ≤ m.2 ∧ m.2 ≤ n.2 ∧ n.2 ≤ (lim : Int)) (.ok (.own true e T .no (List.replicate m.2.toNat (zero T)))) .no else .no
  | .lenS x => (strR x).bind fun s => .ok (.v (.int .i64) (s.length : Int))
  | .lenL x => (entR x).bind fun e => (immR e).bind fun y => match y with
    | ⟨.sl _, xs⟩ => .ok (.v (.int .i64) (xs.length : Int))
    | _ => .no
  | .lenA m => .ok (.v (.int .i64) (m : Int))
  | .mm mx x y => (intR x).bind fun m => (intR y).bind fun n => if m.1 = n.1 then .ok (.v (.int m.1) (if mx then (if n.2 > m.2 then n.2 else m.2) else (if n.2 < m.2 then n.2 else m.2))) else .no
  | .call f args => (argListR cl args).bind fun es => (Rd.call cl f es).bind fun res => resR args res
  | .callv x args => (entR x).bind fun e => match e with
    | .v (.fn A C) g => (argListR cl args).bind fun es => (Rd.of (tuple A es)).bind fun a => (Rd.of (g a)).bind fun r => if scalarT C then .ok (.v C r) else .no
    | .clo f _ _ caps => (argListR cl args).bind fun es => (argsR caps).bind fun cs => (Rd.call cl f (es ++ cs)).bind fun res => if res.all E.plain then .ok (resE res) else .no
    | _ => .no
  | .extract k j => (Rd.get k).bind fun e => .of (extE j e)
  | .mkfn f A C caps => (capsR caps).bind fun cs => .ok (.clo f A C cs)
  | _ => .no

/-- a store of a value that holds nothing -/
def stoR (T : Ty) (z : den T) (s : Nat) (p : Path) : E → Rd (List (Nat × E))
  | .loc T0 o x0 => if scalarT T || (annAt o p).pure then (Rd.of (setP T0 p x0 ⟨T, z⟩)).bind fun x1 => .ok [(s, .loc T0 o x1)] else .no
  | _ => .no

def stoH (T : Ty) (z : den T) (s : Nat) (j : Nat) (q : Path) : E → Rd (List (Nat × E))
  | .own true e T0 o xs => .ite (j < xs.length) ((Rd.of (setP T0 q (xs.getD j (zero T0)) ⟨T, z⟩)).bind fun u => if o.pure then .ok [(s, .own true e T0 o (xs.set j u))] else .no) .no
  | _ => .no

/-- a part of a slice that a variable holds -/
def slcR (T : Ty) {T' : Ty} (xs : List (den T')) (lo hi mx : Option Od) : Rd E :=
  (optIntR lo).bind fun lo => (optIntR hi).bind fun hi => (optIntR mx).bind fun mx => (Rd.of (cast? (.sl T) ⟨.sl T', xs⟩)).bind fun xs =>
      .ite (0 ≤ lo.getD 0 ∧ lo.getD 0 ≤ hi.getD (xs.length : Int) ∧ hi.getD (xs.length : Int) ≤ mx.getD (xs.length : Int) ∧ mx.getD (xs.length : Int) ≤ (xs.length : Int))
        (.ok (.v (.sl T) ((xs.drop (lo.getD 0).toNat).take ((hi.getD (xs.length : Int)).toNat - (lo.getD 0).toNat)))) .no

/-- what an operation writes -/
def wrR (cl : Cal) (d : Option Nat) : AOp → Rd (List (Nat × E))
  | .store T a x => (valR x).bind fun y => (Rd.of (cast? T y)).bind fun z => (entR a).bind fun e => match e with
    | .ptre s [] j q => (Rd.get s).bind fun f => stoH T z s j q f
    | .ptr s p => (Rd.get s).bind fun f => stoR T z s p f
    | .loc .. => match a with | .t k => stoR T z k [] e | _ => .no
    | _ => .no
  | .sliceL T x lo hi mx => (entR x).bind fun e => match e with
    | .ref s p => match p with
      | [] => (Rd.get s).bind fun f => match f with
        | .own _ ed T' o xs => if o.pure then (slcR T xs (T' := T') lo hi mx).bind fun v => .ok (one d v ++ [(s, .own false ed T' o.frz xs)]) else .no
        | _ => .no
      | _ => .no
    | _ => (valE cl d (.sliceL T x lo hi mx)).bind fun e => .ok (one d e)
  | op => (valE cl d op).bind fun e => .ok (one d e)

/-- an operation of a region whose order is open: hide: the slots that it may not look at, wr: those that it may write, pre: what comes ahead of it in any order -/
structure DI where
  ai : AI
  hide : List Nat
  wr : List Nat
  pre : List Nat
  piv : Bool := false

def hid (l : List Nat) (L : Nat → E) : Nat → E := fun k => match l.any (fun j => j == k) with | true => .dead | false => L k

def free (env : Env) (d : Option Nat) : Bool := match d with | some d => !(look env d).home | none => true

def okW (i : DI) (env : Env) (δ : List (Nat × E)) : Bool := free env i.ai.dst && δ.all fun q => i.wr.any fun k => k == q.1

def draws (cl : Cal) : List DI → Env → Kont R → Option R
  | [], env, K => K env
  | i :: r, env, K =>
    let yes := fun env' => (wrR cl i.ai.dst i.ai.op).runK (hid i.hide (look env)) fun δ => match okW i env δ with
      | true => draws cl r (δ ++ env') K
      | false => none
    let nope := fun env' => match okW i env (one i.ai.dst .und) with
      | true => draws cl r (one i.ai.dst .und ++ env') K
      | false => none
    match i.piv with
    | true => step cl i.ai env fun env' => draws cl r env' K
    | false => match i.ai.guard with
      | none => yes env
      | some (s, pol) => match hid i.hide (look env) s with
        | .v .bool b => brB b ((if pol then yes else nope) ((s, .v .bool true) :: env)) ((if pol then nope else yes) ((s, .v .bool false) :: env))
        | .und => nope env
        | _ => none

/-! ### Code -/
inductive AC where
  | skip
  | reg (live : List Nat) (l : List AI)
  | draw (live : List Nat) (l : List DI)
  | seq (a b : AC)
  | cond (c : Od) (x y : AC)
  | block (id : Nat) (b : AC)
  | loop (live : List Nat) (b : AC)
  | out (live : List Nat) (b : AC)
  | exit (id : Nat)
  | ret

inductive Ex where
  | normal | exit (id : Nat) | ret

abbrev KE (R : Type) := Ex → Env → Option R

def iter (live : List Nat) (body : Env → KE R → Option R) (K : KE R) : Nat → Env → Option R
  | 0, _ => none
  | m + 1, env => body env fun e env => match e with
    | .normal => iter live body K m (keep live env)
    | .exit id => K (.exit id) env
    | .ret => K .ret env

def seqK (y : Env → Option R) (K : KE R) : KE R := fun e env => match e with
  | .normal => y env
  | .exit id => K (.exit id) env
  | .ret => K .ret env

def blockK (id : Nat) (K : KE R) : KE R := fun e env => match e with
  | .normal => K .normal env
  | .exit j => match Nat.decEq j id with | .isTrue _ => K .normal env | .isFalse _ => K (.exit j) env
  | .ret => K .ret env

def exec (cl : Cal) (N : Nat) : AC → Env → KE R → Option R
  | .skip, env, K => K .normal env
  | .reg live l, env, K => ops cl l (keep live env) (K .normal)
  | .draw live l, env, K => draws cl l (keep live env) (K .normal)
  | .seq a b, env, K => exec cl N a env (seqK (fun env => exec cl N b env K) K)
  | .cond c x y, env, K => (boolOf? (ent env c)).bind fun q => brB q (exec cl N x env K) (exec cl N y env K)
  | .block id b, env, K => exec cl N b env (blockK id K)
  | .loop live b, env, K => iter live (fun env K => exec cl N b env K) K N (keep live env)
  | .out live b, env, K => exec cl N b env (fun e env => K e (keep live env))
  | .exit id, env, K => K (.exit id) env
  | .ret, env, K => K .ret env

/-- a result variable: a slot, or a slot with its address -/
inductive RV where
  | t (k : Nat)
  | cell (k : Nat) (T : Ty)
  | p (k : Nat)

structure FD where
  nargs : Nat
  body : AC
  res : List RV

def retE (env : Env) : RV → Option (E × List Nat)
  | .t k => match look env k with
    | .v T x => some (.v T x, [])
    | .own wr e T o xs => if o.pure then some (.own wr e T o xs, [k]) else none
    | .ref s p => (heldAt env s p).bind fun h => if h.o.pure then some (.own h.wr h.e h.T h.o h.xs, [s]) else none
    | _ => none
  | .cell k T => match look env k with
    | .loc T' o x => if o.whole then (cast? T ⟨T', x⟩).bind fun y => some (.v T y, if o.pure then [] else [k]) else none
    | _ => none
  | .p k => match look env k with
    | .v T x => some (.v T x, [])
    | .own _ _ T o xs => if o.pure then some (.v (.sl T) xs, [k]) else none
    | .ref s p => (heldAt env s p).bind fun h => if h.o.pure then some (.v (.sl h.T) h.xs, [s]) else none
    | _ => none

def retL (env : Env) : List RV → Option (List E × List Nat)
  | [] => some ([], [])
  | r :: rs => (retE env r).bind fun x => (retL env rs).bind fun y => some (x.1 :: y.1, x.2 ++ y.2)

def distinct : List Nat → Bool
  | [] => true
  | x :: r => !r.any (· == x) && distinct r

/-- may be handed back -/
def E.back : E → Bool
  | .v T _ => noFnT T
  | .own _ _ T o _ => noFnT T && o.pure
  | _ => false

def retK (fd : FD) : KE (List E) := fun e env => match e with
  | .exit _ => none
  | _ => (retL env fd.res).bind fun q => match distinct q.2 && q.1.all E.back with | true => some q.1 | false => none

def params : Nat → List E → Env
  | _, [] => []
  | k, e :: r => (k, e) :: params (k + 1) r

abbrev Table := FuncId → Option FD
abbrev Prims := FuncId → Option (List E → Option (List E))

/-- a call: D: how deep, N: how many rounds of a loop -/
def acall (tb : Table) (pr : Prims) (N : Nat) : Nat → Cal
  | 0 => .of fun _ _ => none
  | D + 1 => .of fun f args => match pr f with
    | some p => p args
    | none => match tb f with
      | some fd => match Nat.decEq args.length fd.nargs with
        | .isTrue _ => exec (acall tb pr N D) N fd.body (params 0 args) (retK fd)
        | .isFalse _ => none
      | none => none

end Go.Fw
