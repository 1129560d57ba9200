/- The abstract value machine, part 1: types of values, native values, what memory shows of them. -/
import Derived.WalkKit
import Derived.KernelRfl
set_option linter.unusedVariables false
set_option linter.unusedSimpArgs false
namespace Go.Fw
open Go Go.RowKit

/-! ### Types of values -/
inductive Ty where
  | int (k : IntKind) | bool | str | unit
  | sl (T : Ty) | pair (A B : Ty) | arr (n : Nat) (T : Ty)
  | fn (A B : Ty)
  deriving DecidableEq

abbrev den : Ty → Type
  | .int _ => Int
  | .bool => Bool
  | .str => List UInt8
  | .unit => Unit
  | .sl T => List (den T)
  | .pair A B => den A × den B
  | .arr _ T => List (den T)
  | .fn A B => den A → Option (den B)

def zero : (T : Ty) → den T
  | .int _ => (0 : Int)
  | .bool => false
  | .str => ([] : List UInt8)
  | .unit => ()
  | .sl _ => []
  | .pair A B => (zero A, zero B)
  | .arr n T => List.replicate n (zero T)
  | .fn _ _ => fun _ => none

/-- how many cells a value takes -/
def cellsN : Ty → Nat
  | .unit => 0
  | .pair A B => cellsN A + cellsN B
  | .arr n T => n * cellsN T
  | _ => 1

def isAggT : Ty → Bool
  | .unit | .pair _ _ | .arr _ _ => true
  | _ => false

/-- no slice and no function in it -/
def scalarT : Ty → Bool
  | .sl _ | .fn _ _ => false
  | .pair A B => scalarT A && scalarT B
  | .arr _ T => scalarT T
  | _ => true

/-- no function in it -/
def noFnT : Ty → Bool
  | .fn _ _ => false
  | .sl T => noFnT T
  | .pair A B => noFnT A && noFnT B
  | .arr _ T => noFnT T
  | _ => true

/-- who may write to a slice: nobody; the one who holds it (wr: also its elements that are there), of elements of the type e that are held as o says -/
inductive Ann where
  | no
  | hole
  | own (wr : Bool) (e : TypeId) (o : Ann)
  | pair (a b : Ann)

def Ann.l : Ann → Ann | .pair a _ => a | _ => .no
def Ann.r : Ann → Ann | .pair _ b => b | _ => .no

/-! ### What memory shows of a value -/
abbrev OB := List (Nat × Nat)

def Elems {α : Type} (R : α → List Value → OB → Prop) : List α → List Value → OB → Prop
  | [], vs, ob => vs = [] ∧ ob = []
  | x :: xs, vs, ob => ∃ v1 v2 b1 b2, vs = v1 ++ v2 ∧ ob = b1 ++ b2 ∧ R x v1 b1 ∧ Elems R xs v2 b2

/-- the letters of a text, made a slice: written to, never appended to -/
def BUF : TypeId := 4294967295

def frzOk (fz : Nat × Nat) (n : Nat) : Prop := fz = (0, 0) ∨ n ≤ fz.1

/-- a row that is one's own; of BUF: beyond its end something may be frozen -/
def rowX (w : World) (base : Nat) (e : TypeId) (size : Nat) (v : Value) (n : Nat) (xs : List Value) : Prop :=
  xs.length = n * size ∧
  ((v = .slice none 0 0 ∧ n = 0) ∨
   ∃ g cap cur e' fz, v = .slice (some ⟨g, 0, none⟩) n cap ∧ base ≤ g ∧ w.heap[g]? = some (.cells cur e' fz) ∧ n ≤ cap ∧ cap ≤ maxLen ∧ cur.size = cap * size ∧ cur.toList.take (n * size) = xs ∧ (e ≠ BUF → e' = e ∧ fz = (0, 0)) ∧ frzOk fz cur.size)

def inR (k : IntKind) (n : Int) : Prop := k.min ≤ n ∧ n ≤ k.max

/-- a value as one Value: structs and arrays are aggregates -/
def asVal (T : Ty) (vs : List Value) : Value := if isAggT T then .agg vs.toArray else vs.headD undef

def obOf (v : Value) (lim : Nat) : OB := match v.ownBlock with | some b => [(b, lim)] | none => []

/-- the memory that stays: what lies below block B -/
def Later (B : Nat) (w w' : World) : Prop := w.heap.size ≤ w'.heap.size ∧ ∀ b, b < B → w'.heap[b]? = w.heap[b]?

/-- a function with a body -/
def Callable (P : Program) (f : FuncId) : Prop := ∃ fn, P.funcs[f]? = some fn ∧ (fn.name == "runtime.NumGoroutine") = false ∧ fn.body.isNone = false

mutual
/-- the cells 'vs' show the value: G: the cells that may be read, B: the first block of the call's own; the last list: the blocks that the value holds (each with the first of its cells that may change) -/
def Flat (P : Program) : (T : Ty) → World → (Nat → Nat → Prop) → Nat → Ann → den T → List Value → OB → Prop
  | .int k, _, _, _, _, n, vs, ob => vs = [.int k n] ∧ inR k n ∧ ob = []
  | .bool, _, _, _, _, b, vs, ob => vs = [.bool b] ∧ ob = []
  | .str, _, _, _, _, s, vs, ob => vs = [.string ⟨⟨s⟩⟩] ∧ s.length ≤ maxLen ∧ ob = []
  | .unit, _, _, _, _, _, vs, ob => vs = [] ∧ ob = []
  | .pair A C, w, G, B, o, x, vs, ob => ∃ v1 v2 b1 b2, vs = v1 ++ v2 ∧ ob = b1 ++ b2 ∧ Flat P A w G B o.l x.1 v1 b1 ∧ Flat P C w G B o.r x.2 v2 b2
  | .arr n T, w, G, B, _, xs, vs, ob => xs.length = n ∧ Elems (Flat P T w G B .no) xs vs ob
  | .sl T, w, G, B, .own wr e o, xs, vs, ob => ∃ v cells ob', vs = [v] ∧ rowX w B e (cellsN T) v xs.length cells ∧ Elems (Flat P T w G B o) xs cells ob' ∧
      ob = obOf v (if wr then 0 else xs.length * cellsN T) ++ ob'
  | .sl _, _, _, _, .hole, _, vs, ob => vs.length = 1 ∧ ob = []
  | .sl T, w, G, B, _, xs, vs, ob => ob = [] ∧ ∃ A c, vs = [.slice A xs.length c] ∧ xs.length ≤ c ∧ c ≤ maxLen ∧
      (xs = [] ∨ ∃ b off cells, A = some ⟨b, off, none⟩ ∧ Elems (Flat P T w G B .no) xs cells [] ∧ ∀ j v, cells[j]? = some v → w.cell? ⟨b, off + j, none⟩ = some v ∧ G b (off + j))
  | .fn A C, w, _, B, _, g, vs, ob => ob = [] ∧ scalarT C = true ∧ ∃ f caps, vs = [.func (.func f) #[] caps] ∧
      ∀ (w' : World) (G' : Nat → Nat → Prop) (x : den A) (vals : List Value), Later B w w' → FArgs P A w' G' x vals → ∀ r, g x = some r →
        Callable P f ∧ Calls P f (vals.toArray ++ caps) w' (fun e w'' => ∃ rs, Flat P C w'' G' B .no r rs [] ∧ e = .returned (asVal C rs) ∧ Below w'.heap.size w' w'')
/-- the arguments of a call, each a Value -/
def FArgs (P : Program) : (A : Ty) → World → (Nat → Nat → Prop) → den A → List Value → Prop
  | .pair A C, w, G, x, vals => ∃ v1 rest, Flat P A w G w.heap.size .no x.1 v1 [] ∧ vals = asVal A v1 :: rest ∧ FArgs P C w G x.2 rest
  | .unit, _, _, _, vals => vals = []
  | _, _, _, _, _ => False
end

end Go.Fw
