/- Printed by an own program for this claim: the machine's code of functions, or their typed forms with their equations; no conditions. -/
import Derived.Test.YtggppceiapjadaaFwLs19
import Derived.Test.YtggppceiapjadaaFwB5
import Derived.Lib.Bytealg
set_option linter.unusedVariables false
set_option linter.unusedSimpArgs false
namespace Go.Fw.L19
open Go Go.Fw
set_option maxRecDepth 100000
set_option linter.unusedVariables false
def ctr23 (S : V8 → Option V9) : Ctr := { A := V8 × Unit, B := V8, f := 23, enc := fun a => [.v U17 a.1], dec := (decC (decV U17) dec0), S := fun a => S a.1, ent := fun b => [.own true 55 U15 .no b], ok := (decV_cons (T := U17) (fun es b h => dec0_some h)) }
def S23 (_ : Nat) (x0 : List (Int × (Int × (List UInt8 × Unit)))) : Option (List (Int × (Int × (List UInt8 × Unit)))) := if x0.length ≤ 4398046511104 then some x0 else none
def ctr49 (S : Int → Option V9) : Ctr := { A := Int × Unit, B := V8, f := 49, enc := fun a => [.dead, .v U2 a.1], dec := (decN (decC (decV U2) dec0)), S := fun a => S a.1, ent := fun b => [.own true 55 U15 .no b], ok := (decN_cons (decV_cons (T := U2) (fun es b h => dec0_some h))) }
def S49 (_ : Nat) (x0 : Int) : Option (List (Int × (Int × (List UInt8 × Unit)))) := if 0 ≤ x0 ∧ x0 ≤ (4398046511104 : Int) then some [] else none
def ctr109 (S : V1 → Int → Option (Int)) : Ctr := { A := V1 × Int × Unit, B := Int, f := 109, enc := fun a => [.v .str a.1, .v U0 a.2.1], dec := (decC (decV .str) (decC (decV U0) dec0)), S := fun a => S a.1 a.2.1, ent := fun b => [.v U2 b], ok := (decV_cons (T := .str) (decV_cons (T := U0) (fun es b h => dec0_some h))) }
def S109 (_ : Nat) (x0 : List UInt8) (x1 : Int) : Option Int := some (Go.Lib.indexByte x0 x1.toNat.toUInt8)
def ctr8 (S : Option (Bool)) : Ctr := { A := Unit, B := Bool, f := 8, enc := fun a => [], dec := dec0, S := fun a => S, ent := fun b => [.v .bool b], ok := (fun es b h => dec0_some h) }
def S8 (_ : Nat) : Option Bool := some true
def prims : Prims := fun f => match f with
  | 23 => some (ctr23 (S23 0)).prim
  | 49 => some (ctr49 (S49 0)).prim
  | 109 => some (ctr109 (S109 0)).prim
  | _ => none
end Go.Fw.L19
