/- Printed by an own program for this claim: the machine's code of functions, or their typed forms with their equations; no conditions. -/
import Derived.Test.YtnobiophckdjfaaFwLs51
import Derived.Test.YtnobiophckdjfaaFwB4
import Derived.Lib.Bytealg
set_option linter.unusedVariables false
set_option linter.unusedSimpArgs false
namespace Go.Fw.L51
open Go Go.Fw
set_option maxRecDepth 100000
set_option linter.unusedVariables false
def ctr117 (S : V0 → Option V2) : Ctr := { A := V0 × Unit, B := V0, f := 117, enc := fun a => [.v U2 a.1], dec := (decC (decV U2) dec0), S := fun a => S a.1, ent := fun b => [.own true 3 U1 .no b], ok := (decV_cons (T := U2) (fun es b h => dec0_some h)) }
def S117 (_ : Nat) (x0 : List Int) : Option V0 := if x0.length ≤ 17592186044416 then some x0 else none
def ctr120 (S : V0 → Option V2) : Ctr := { A := V0 × Unit, B := V0, f := 120, enc := fun a => [.und, .own true 3 U1 .no a.1], dec := decW 3 U1, S := fun a => S a.1, ent := fun b => [.own true 3 U1 .no b], ok := decW_some (e := 3) (T := U1) }
def S120 (_ : Nat) (x0 : List Int) : Option V0 := if x0.length ≤ 9223372036854775807 then some x0.reverse else none
def ctr11 (S : Option (Bool)) : Ctr := { A := Unit, B := Bool, f := 11, enc := fun a => [], dec := dec0, S := fun a => S, ent := fun b => [.v .bool b], ok := (fun es b h => dec0_some h) }
def S11 (_ : Nat) : Option Bool := some true
def ctr70 (S : V5 → V5 → V5 → V5 → Option (Int)) : Ctr := { A := V5 × V5 × V5 × V5 × Unit, B := Int, f := 70, enc := fun a => [.v U5 a.1, .v U5 a.2.1, .v U5 a.2.2.1, .v U5 a.2.2.2.1], dec := (decC (decV U5) (decC (decV U5) (decC (decV U5) (decC (decV U5) dec0)))), S := fun a => S a.1 a.2.1 a.2.2.1 a.2.2.2.1, ent := fun b => [.v U1 b], ok := (decV_cons (T := U5) (decV_cons (T := U5) (decV_cons (T := U5) (decV_cons (T := U5) (fun es b h => dec0_some h))))) }
def prims0 : Prims := fun f => match f with
 | 117 => some (ctr117 (S117 0)).prim
 | 120 => some (ctr120 (S120 0)).prim
 | _ => none
def rc70 : Nat → Cal := recC 70 d70 2000 (acall table prims0 2000 5)
def prims : Prims := fun f => match f with
 | 70 => some fun es => (rc70 250).run 70 es
 | f => prims0 f
end Go.Fw.L51
