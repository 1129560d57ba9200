/- Printed by an own program for this claim: the machine's code of functions, or their typed forms with their equations; no conditions. -/
import Derived.Test.YtggppceiapjadaaGreatFwLp19
import Derived.Test.YtggppceiapjadaaGreatFwB1
import Derived.Lib.Bytealg
set_option linter.unusedVariables false
set_option linter.unusedSimpArgs false
namespace Go.Fw.L19
open Go Go.Fw
set_option maxRecDepth 100000
set_option linter.unusedVariables false
def ctr9 (S : V7 → Option V8) : Ctr := { A := V7 × Unit, B := V7, f := 9, enc := fun a => [.v U17 a.1], dec := (decC (decV U17) dec0), S := fun a => S a.1, ent := fun b => [.own true 30 U14 .no b], ok := (decV_cons (T := U17) (fun es b h => dec0_some h)) }
def S9 (_ : Nat) (x0 : List (Int × (Int × (List UInt8 × Unit)))) : Option (List (Int × (Int × (List UInt8 × Unit)))) := if x0.length ≤ 4398046511104 then some x0 else none
def ctr119 (S : V1 → Int → Option (Int)) : Ctr := { A := V1 × Int × Unit, B := Int, f := 119, enc := fun a => [.v .str a.1, .v U0 a.2.1], dec := (decC (decV .str) (decC (decV U0) dec0)), S := fun a => S a.1 a.2.1, ent := fun b => [.v U2 b], ok := (decV_cons (T := .str) (decV_cons (T := U0) (fun es b h => dec0_some h))) }
def S119 (_ : Nat) (x0 : List UInt8) (x1 : Int) : Option Int := some (Go.Lib.indexByte x0 x1.toNat.toUInt8)
def ctr6 (S : Option (Bool)) : Ctr := { A := Unit, B := Bool, f := 6, enc := fun a => [], dec := dec0, S := fun a => S, ent := fun b => [.v .bool b], ok := (fun es b h => dec0_some h) }
def S6 (_ : Nat) : Option Bool := some true
def prims : Prims := fun f => match f with
  | 9 => some (ctr9 (S9 0)).prim
  | 119 => some (ctr119 (S119 0)).prim
  | _ => none
end Go.Fw.L19
