/- Printed by an own program for this claim: the machine's code of functions, or their typed forms with their equations; no conditions. -/
import Derived.Test.YtggppceiapjadaaFwMm19
import Derived.Test.YtggppceiapjadaaFwB1
import Derived.Test.YtggppceiapjadaaFwXm19
set_option linter.unusedVariables false
set_option linter.unusedSimpArgs false
namespace Go.Fw.L19
open Go Go.Fw
set_option maxRecDepth 100000
theorem ho23 (D : Nat) : (ctr23 (S23 2000)).holds (acall table prims 2000 (D + 1)) := prim_holds rfl (by intro a; kernel_rfl)
theorem ho109 (D : Nat) : (ctr109 (S109 2000)).holds (acall table prims 2000 (D + 1)) := prim_holds rfl (by intro a; kernel_rfl)
theorem ho8 (D : Nat) : (ctr8 (S8 2000)).holds (acall table prims 2000 (D + 12)) := fun a => fd8 D
theorem va33 (D : Nat) (x0 : V7) (x1 : Int) : acall table prims 2000 (D + 1) 33 [.v U0 x0, .v U2 x1] = (S33 2000 x0 x1).bind fun b => some [.v U2 b] := by
  have e1 := acall_succ (tb := table) (pr := prims) (N := 2000) (D := D + 0) (f := 33) (fd := d33) (es := [.v U0 x0, .v U2 x1]) rfl rfl rfl
  exact e1.trans (fn_of (fd := d33) (B := Int) (ent := fun b => [.v U2 b]) (dr := fun es => ((decC (decV U2) dec0) es).map fun q => (q.1)) (by intro b; kernel_rfl) (fun {R} k => g33 2000 x0 x1 (fun (r0 : Int) => k (r0))) (fun k => gen33 x0 x1 k))
theorem ho33 (D : Nat) : (ctr33 (S33 2000)).holds (acall table prims 2000 (D + 1)) := fun a => va33 D a.1 a.2.1
theorem va9 (D : Nat) (x0 : V26) : acall table prims 2000 (D + 2) 9 [.v U28 x0] = (S9 2000 x0).bind fun b => some [.v .bool b] := by
  have h33 : (ctr33 (S33 2000)).holds (acall table prims 2000 (D + 1)) := ho33 (D + 0)
  have e1 := acall_succ (tb := table) (pr := prims) (N := 2000) (D := D + 1) (f := 9) (fd := d9) (es := [.v U28 x0]) rfl rfl rfl
  exact e1.trans (fn_of (fd := d9) (B := Bool) (ent := fun b => [.v .bool b]) (dr := fun es => ((decC (decV .bool) dec0) es).map fun q => (q.1)) (by intro b; kernel_rfl) (fun {R} k => g9 2000 (S33 2000) x0 (fun (r0 : Bool) => k (r0))) (fun k => gen9 (S33 2000) h33 x0 k))
theorem ho9 (D : Nat) : (ctr9 (S9 2000)).holds (acall table prims 2000 (D + 2)) := fun a => va9 D a.1
theorem va34 (D : Nat) (x0 : Int) : acall table prims 2000 (D + 1) 34 [.v U1 x0] = (S34 2000 x0).bind fun b => some [.v U18 b] := by
  have e1 := acall_succ (tb := table) (pr := prims) (N := 2000) (D := D + 0) (f := 34) (fd := d34) (es := [.v U1 x0]) rfl rfl rfl
  exact e1.trans (fn_of (fd := d34) (B := V17) (ent := fun b => [.v U18 b]) (dr := fun es => ((decC (decV U18) dec0) es).map fun q => (q.1)) (by intro b; kernel_rfl) (fun {R} k => g34 x0 (fun (r0 : V17) => k (r0))) (fun k => gen34 x0 k))
theorem ho34 (D : Nat) : (ctr34 (S34 2000)).holds (acall table prims 2000 (D + 1)) := fun a => va34 D a.1
theorem va10 (D : Nat) (x0 : V0) : acall table prims 2000 (D + 2) 10 [.v U4 x0] = (S10 2000 x0).bind fun b => some [.own true 55 U18 .no b] := by
  have h34 : (ctr34 (S34 2000)).holds (acall table prims 2000 (D + 1)) := ho34 (D + 0)
  have e1 := acall_succ (tb := table) (pr := prims) (N := 2000) (D := D + 1) (f := 10) (fd := d10) (es := [.v U4 x0]) rfl rfl rfl
  exact e1.trans (fn_of (fd := d10) (B := V19) (ent := fun b => [.own true 55 U18 .no b]) (dr := fun es => ((decC (decO U18) dec0) es).map fun q => (q.1)) (by intro b; kernel_rfl) (fun {R} k => g10 2000 (S34 2000) x0 (fun (r0 : V19) => k (r0))) (fun k => gen10 (S34 2000) h34 x0 k))
theorem ho10 (D : Nat) : (ctr10 (S10 2000)).holds (acall table prims 2000 (D + 2)) := fun a => va10 D a.1
theorem va76 (D : Nat) (x0 : Int) : acall table prims 2000 (D + 1) 76 [.v U1 x0] = (S76 2000 x0).bind fun b => some [.v .bool b] := by
  have e1 := acall_succ (tb := table) (pr := prims) (N := 2000) (D := D + 0) (f := 76) (fd := d76) (es := [.v U1 x0]) rfl rfl rfl
  exact e1.trans (fn_of (fd := d76) (B := Bool) (ent := fun b => [.v .bool b]) (dr := fun es => ((decC (decV .bool) dec0) es).map fun q => (q.1)) (by intro b; kernel_rfl) (fun {R} k => g76 x0 (fun (r0 : Bool) => k (r0))) (fun k => gen76 x0 k))
theorem ho76 (D : Nat) : (ctr76 (S76 2000)).holds (acall table prims 2000 (D + 1)) := fun a => va76 D a.1
theorem va77 (D : Nat) (x0 : Int) : acall table prims 2000 (D + 1) 77 [.v U1 x0] = (S77 2000 x0).bind fun b => some [.v .bool b] := by
  have e1 := acall_succ (tb := table) (pr := prims) (N := 2000) (D := D + 0) (f := 77) (fd := d77) (es := [.v U1 x0]) rfl rfl rfl
  exact e1.trans (fn_of (fd := d77) (B := Bool) (ent := fun b => [.v .bool b]) (dr := fun es => ((decC (decV .bool) dec0) es).map fun q => (q.1)) (by intro b; kernel_rfl) (fun {R} k => g77 x0 (fun (r0 : Bool) => k (r0))) (fun k => gen77 x0 k))
theorem ho77 (D : Nat) : (ctr77 (S77 2000)).holds (acall table prims 2000 (D + 1)) := fun a => va77 D a.1
theorem va58 (D : Nat) (x0 : V1) : acall table prims 2000 (D + 2) 58 [.v .str x0] = (S58 2000 x0).bind fun b => some [.v U2 b] := by
  have h76 : (ctr76 (S76 2000)).holds (acall table prims 2000 (D + 1)) := ho76 (D + 0)
  have h77 : (ctr77 (S77 2000)).holds (acall table prims 2000 (D + 1)) := ho77 (D + 0)
  have e1 := acall_succ (tb := table) (pr := prims) (N := 2000) (D := D + 1) (f := 58) (fd := d58) (es := [.v .str x0]) rfl rfl rfl
  exact e1.trans (fn_of (fd := d58) (B := Int) (ent := fun b => [.v U2 b]) (dr := fun es => ((decC (decV U2) dec0) es).map fun q => (q.1)) (by intro b; kernel_rfl) (fun {R} k => g58 2000 (S76 2000) (S77 2000) x0 (fun (r0 : Int) => k (r0))) (fun k => gen58 (S76 2000) (S77 2000) h76 h77 x0 k))
theorem ho58 (D : Nat) : (ctr58 (S58 2000)).holds (acall table prims 2000 (D + 2)) := fun a => va58 D a.1
theorem va40 (D : Nat) (x0 : V1) : acall table prims 2000 (D + 3) 40 [.v .str x0] = (S40 2000 x0).bind fun b => some [.v .bool b] := by
  have h58 : (ctr58 (S58 2000)).holds (acall table prims 2000 (D + 2)) := ho58 (D + 0)
  have e1 := acall_succ (tb := table) (pr := prims) (N := 2000) (D := D + 2) (f := 40) (fd := d40) (es := [.v .str x0]) rfl rfl rfl
  exact e1.trans (fn_of (fd := d40) (B := Bool) (ent := fun b => [.v .bool b]) (dr := fun es => ((decC (decV .bool) dec0) es).map fun q => (q.1)) (by intro b; kernel_rfl) (fun {R} k => g40 (S58 2000) x0 (fun (r0 : Bool) => k (r0))) (fun k => gen40 (S58 2000) h58 x0 k))
theorem ho40 (D : Nat) : (ctr40 (S40 2000)).holds (acall table prims 2000 (D + 3)) := fun a => va40 D a.1
theorem va78 (D : Nat) (x0 : V1) : acall table prims 2000 (D + 1) 78 [.v .str x0] = (S78 2000 x0).bind fun b => some [.v .str b] := by
  have e1 := acall_succ (tb := table) (pr := prims) (N := 2000) (D := D + 0) (f := 78) (fd := d78) (es := [.v .str x0]) rfl rfl rfl
  exact e1.trans (fn_of (fd := d78) (B := V1) (ent := fun b => [.v .str b]) (dr := fun es => ((decC (decV .str) dec0) es).map fun q => (q.1)) (by intro b; kernel_rfl) (fun {R} k => g78 2000 x0 (fun (r0 : V1) => k (r0))) (fun k => gen78 x0 k))
theorem ho78 (D : Nat) : (ctr78 (S78 2000)).holds (acall table prims 2000 (D + 1)) := fun a => va78 D a.1
theorem va79 (D : Nat) (x0 : Int) : acall table prims 2000 (D + 1) 79 [.v U1 x0] = (S79 2000 x0).bind fun b => some [.v .bool b] := by
  have e1 := acall_succ (tb := table) (pr := prims) (N := 2000) (D := D + 0) (f := 79) (fd := d79) (es := [.v U1 x0]) rfl rfl rfl
  exact e1.trans (fn_of (fd := d79) (B := Bool) (ent := fun b => [.v .bool b]) (dr := fun es => ((decC (decV .bool) dec0) es).map fun q => (q.1)) (by intro b; kernel_rfl) (fun {R} k => g79 2000 x0 (fun (r0 : Bool) => k (r0))) (fun k => gen79 x0 k))
theorem ho79 (D : Nat) : (ctr79 (S79 2000)).holds (acall table prims 2000 (D + 1)) := fun a => va79 D a.1
theorem va59 (D : Nat) (x0 : V1) : acall table prims 2000 (D + 2) 59 [.v .str x0] = (S59 2000 x0).bind fun b => some [.v U2 b] := by
  have h78 : (ctr78 (S78 2000)).holds (acall table prims 2000 (D + 1)) := ho78 (D + 0)
  have h79 : (ctr79 (S79 2000)).holds (acall table prims 2000 (D + 1)) := ho79 (D + 0)
  have e1 := acall_succ (tb := table) (pr := prims) (N := 2000) (D := D + 1) (f := 59) (fd := d59) (es := [.v .str x0]) rfl rfl rfl
  exact e1.trans (fn_of (fd := d59) (B := Int) (ent := fun b => [.v U2 b]) (dr := fun es => ((decC (decV U2) dec0) es).map fun q => (q.1)) (by intro b; kernel_rfl) (fun {R} k => g59 2000 (S78 2000) (S79 2000) x0 (fun (r0 : Int) => k (r0))) (fun k => gen59 (S78 2000) (S79 2000) h78 h79 x0 k))
theorem ho59 (D : Nat) : (ctr59 (S59 2000)).holds (acall table prims 2000 (D + 2)) := fun a => va59 D a.1
theorem va60 (D : Nat) (x0 : V7) (x1 : V1) : acall table prims 2000 (D + 1) 60 [.v U0 x0, .v .str x1] = (S60 2000 x0 x1).bind fun b => some [.v .bool b] := by
  have e1 := acall_succ (tb := table) (pr := prims) (N := 2000) (D := D + 0) (f := 60) (fd := d60) (es := [.v U0 x0, .v .str x1]) rfl rfl rfl
  exact e1.trans (fn_of (fd := d60) (B := Bool) (ent := fun b => [.v .bool b]) (dr := fun es => ((decC (decV .bool) dec0) es).map fun q => (q.1)) (by intro b; kernel_rfl) (fun {R} k => g60 2000 x0 x1 (fun (r0 : Bool) => k (r0))) (fun k => gen60 x0 x1 k))
theorem ho60 (D : Nat) : (ctr60 (S60 2000)).holds (acall table prims 2000 (D + 1)) := fun a => va60 D a.1 a.2.1
theorem va41 (D : Nat) (x0 : V20) : acall table prims 2000 (D + 3) 41 [.v U21 x0] = (S41 2000 x0).bind fun b => some [.v U2 b] := by
  have h59 : (ctr59 (S59 2000)).holds (acall table prims 2000 (D + 2)) := ho59 (D + 0)
  have h60 : (ctr60 (S60 2000)).holds (acall table prims 2000 (D + 2)) := ho60 (D + 1)
  have e1 := acall_succ (tb := table) (pr := prims) (N := 2000) (D := D + 2) (f := 41) (fd := d41) (es := [.v U21 x0]) rfl rfl rfl
  exact e1.trans (fn_of (fd := d41) (B := Int) (ent := fun b => [.v U2 b]) (dr := fun es => ((decC (decV U2) dec0) es).map fun q => (q.1)) (by intro b; kernel_rfl) (fun {R} k => g41 2000 (S59 2000) (S60 2000) x0 (fun (r0 : Int) => k (r0))) (fun k => gen41 (S59 2000) (S60 2000) h59 h60 x0 k))
theorem ho41 (D : Nat) : (ctr41 (S41 2000)).holds (acall table prims 2000 (D + 3)) := fun a => va41 D a.1
theorem va12 (D : Nat) (x0 : V26) : acall table prims 2000 (D + 4) 12 [.v U28 x0] = (S12 2000 x0).bind fun b => some [.v U2 b] := by
  have h40 : (ctr40 (S40 2000)).holds (acall table prims 2000 (D + 3)) := ho40 (D + 0)
  have h41 : (ctr41 (S41 2000)).holds (acall table prims 2000 (D + 3)) := ho41 (D + 0)
  have e1 := acall_succ (tb := table) (pr := prims) (N := 2000) (D := D + 3) (f := 12) (fd := d12) (es := [.v U28 x0]) rfl rfl rfl
  exact e1.trans (fn_of (fd := d12) (B := Int) (ent := fun b => [.v U2 b]) (dr := fun es => ((decC (decV U2) dec0) es).map fun q => (q.1)) (by intro b; kernel_rfl) (fun {R} k => g12 2000 (S40 2000) (S41 2000) x0 (fun (r0 : Int) => k (r0))) (fun k => gen12 (S40 2000) (S41 2000) h40 h41 x0 k))
theorem ho12 (D : Nat) : (ctr12 (S12 2000)).holds (acall table prims 2000 (D + 4)) := fun a => va12 D a.1
theorem va18 (D : Nat) (x0 : V26) (x1 : V26) : acall table prims 2000 (D + 5) 18 [.v U28 x0, .v U28 x1] = (S18 2000 x0 x1).bind fun b => some [.v U28 b.1, .v U2 b.2] := by
  have h12 : (ctr12 (S12 2000)).holds (acall table prims 2000 (D + 4)) := ho12 (D + 0)
  have e1 := acall_succ (tb := table) (pr := prims) (N := 2000) (D := D + 4) (f := 18) (fd := d18) (es := [.v U28 x0, .v U28 x1]) rfl rfl rfl
  exact e1.trans (fn_of (fd := d18) (B := V26 × Int) (ent := fun b => [.v U28 b.1, .v U2 b.2]) (dr := fun es => ((decC (decV U28) (decC (decV U2) dec0)) es).map fun q => (q.1, q.2.1)) (by intro b; kernel_rfl) (fun {R} k => g18 (S12 2000) x0 x1 (fun (r0 : V26) (r1 : Int) => k (r0, r1))) (fun k => gen18 (S12 2000) h12 x0 x1 k))
theorem ho18 (D : Nat) : (ctr18 (S18 2000)).holds (acall table prims 2000 (D + 5)) := fun a => va18 D a.1 a.2.1
theorem va86 (D : Nat) (x0 : Int) : acall table prims 2000 (D + 1) 86 [.v U1 x0] = (S86 2000 x0).bind fun b => some [.v .bool b] := by
  have e1 := acall_succ (tb := table) (pr := prims) (N := 2000) (D := D + 0) (f := 86) (fd := d86) (es := [.v U1 x0]) rfl rfl rfl
  exact e1.trans (fn_of (fd := d86) (B := Bool) (ent := fun b => [.v .bool b]) (dr := fun es => ((decC (decV .bool) dec0) es).map fun q => (q.1)) (by intro b; kernel_rfl) (fun {R} k => g86 x0 (fun (r0 : Bool) => k (r0))) (fun k => gen86 x0 k))
theorem ho86 (D : Nat) : (ctr86 (S86 2000)).holds (acall table prims 2000 (D + 1)) := fun a => va86 D a.1
theorem va87 (D : Nat) (x0 : Int) : acall table prims 2000 (D + 1) 87 [.v U1 x0] = (S87 2000 x0).bind fun b => some [.v .bool b] := by
  have e1 := acall_succ (tb := table) (pr := prims) (N := 2000) (D := D + 0) (f := 87) (fd := d87) (es := [.v U1 x0]) rfl rfl rfl
  exact e1.trans (fn_of (fd := d87) (B := Bool) (ent := fun b => [.v .bool b]) (dr := fun es => ((decC (decV .bool) dec0) es).map fun q => (q.1)) (by intro b; kernel_rfl) (fun {R} k => g87 x0 (fun (r0 : Bool) => k (r0))) (fun k => gen87 x0 k))
theorem ho87 (D : Nat) : (ctr87 (S87 2000)).holds (acall table prims 2000 (D + 1)) := fun a => va87 D a.1
theorem va72 (D : Nat) (x0 : V1) : acall table prims 2000 (D + 2) 72 [.v .str x0] = (S72 2000 x0).bind fun b => some [.v U2 b] := by
  have h86 : (ctr86 (S86 2000)).holds (acall table prims 2000 (D + 1)) := ho86 (D + 0)
  have h87 : (ctr87 (S87 2000)).holds (acall table prims 2000 (D + 1)) := ho87 (D + 0)
  have e1 := acall_succ (tb := table) (pr := prims) (N := 2000) (D := D + 1) (f := 72) (fd := d72) (es := [.v .str x0]) rfl rfl rfl
  exact e1.trans (fn_of (fd := d72) (B := Int) (ent := fun b => [.v U2 b]) (dr := fun es => ((decC (decV U2) dec0) es).map fun q => (q.1)) (by intro b; kernel_rfl) (fun {R} k => g72 2000 (S86 2000) (S87 2000) x0 (fun (r0 : Int) => k (r0))) (fun k => gen72 (S86 2000) (S87 2000) h86 h87 x0 k))
theorem ho72 (D : Nat) : (ctr72 (S72 2000)).holds (acall table prims 2000 (D + 2)) := fun a => va72 D a.1
theorem va53 (D : Nat) (x0 : V1) : acall table prims 2000 (D + 3) 53 [.v .str x0] = (S53 2000 x0).bind fun b => some [.v .bool b] := by
  have h72 : (ctr72 (S72 2000)).holds (acall table prims 2000 (D + 2)) := ho72 (D + 0)
  have e1 := acall_succ (tb := table) (pr := prims) (N := 2000) (D := D + 2) (f := 53) (fd := d53) (es := [.v .str x0]) rfl rfl rfl
  exact e1.trans (fn_of (fd := d53) (B := Bool) (ent := fun b => [.v .bool b]) (dr := fun es => ((decC (decV .bool) dec0) es).map fun q => (q.1)) (by intro b; kernel_rfl) (fun {R} k => g53 (S72 2000) x0 (fun (r0 : Bool) => k (r0))) (fun k => gen53 (S72 2000) h72 x0 k))
theorem ho53 (D : Nat) : (ctr53 (S53 2000)).holds (acall table prims 2000 (D + 3)) := fun a => va53 D a.1
theorem va104 (D : Nat) (x0 : V1) (x1 : Int) : acall table prims 2000 (D + 2) 104 [.v .str x0, .v U1 x1] = (S104 2000 x0 x1).bind fun b => some [.v U2 b] := by
  have h109 : (ctr109 (S109 2000)).holds (acall table prims 2000 (D + 1)) := ho109 (D + 0)
  have e1 := acall_succ (tb := table) (pr := prims) (N := 2000) (D := D + 1) (f := 104) (fd := d104) (es := [.v .str x0, .v U1 x1]) rfl rfl rfl
  exact e1.trans (fn_of (fd := d104) (B := Int) (ent := fun b => [.v U2 b]) (dr := fun es => ((decC (decV U2) dec0) es).map fun q => (q.1)) (by intro b; kernel_rfl) (fun {R} k => g104 (S109 2000) x0 x1 (fun (r0 : Int) => k (r0))) (fun k => gen104 (S109 2000) h109 x0 x1 k))
theorem ho104 (D : Nat) : (ctr104 (S104 2000)).holds (acall table prims 2000 (D + 2)) := fun a => va104 D a.1 a.2.1
theorem va99 (D : Nat) (x0 : Int) : acall table prims 2000 (D + 3) 99 [.v U1 x0] = (S99 2000 x0).bind fun b => some [.v .bool b] := by
  have h104 : (ctr104 (S104 2000)).holds (acall table prims 2000 (D + 2)) := ho104 (D + 0)
  have e1 := acall_succ (tb := table) (pr := prims) (N := 2000) (D := D + 2) (f := 99) (fd := d99) (es := [.v U1 x0]) rfl rfl rfl
  exact e1.trans (fn_of (fd := d99) (B := Bool) (ent := fun b => [.v .bool b]) (dr := fun es => ((decC (decV .bool) dec0) es).map fun q => (q.1)) (by intro b; kernel_rfl) (fun {R} k => g99 (S104 2000) x0 (fun (r0 : Bool) => k (r0))) (fun k => gen99 (S104 2000) h104 x0 k))
theorem ho99 (D : Nat) : (ctr99 (S99 2000)).holds (acall table prims 2000 (D + 3)) := fun a => va99 D a.1
theorem va98 (D : Nat) (x0 : Int) : acall table prims 2000 (D + 4) 98 [.v U1 x0] = (S98 2000 x0).bind fun b => some [.v .bool b] := by
  have h99 : (ctr99 (S99 2000)).holds (acall table prims 2000 (D + 3)) := ho99 (D + 0)
  have e1 := acall_succ (tb := table) (pr := prims) (N := 2000) (D := D + 3) (f := 98) (fd := d98) (es := [.v U1 x0]) rfl rfl rfl
  exact e1.trans (fn_of (fd := d98) (B := Bool) (ent := fun b => [.v .bool b]) (dr := fun es => ((decC (decV .bool) dec0) es).map fun q => (q.1)) (by intro b; kernel_rfl) (fun {R} k => g98 (S99 2000) x0 (fun (r0 : Bool) => k (r0))) (fun k => gen98 (S99 2000) h99 x0 k))
theorem ho98 (D : Nat) : (ctr98 (S98 2000)).holds (acall table prims 2000 (D + 4)) := fun a => va98 D a.1
theorem va103 (D : Nat) (x0 : V0) (x1 : V13) : acall table prims 2000 (D + 1) 103 [.v U4 x0, .v U11 x1] = (S103 2000 x0 x1).bind fun b => some [.v U2 b] := by
  have e1 := acall_succ (tb := table) (pr := prims) (N := 2000) (D := D + 0) (f := 103) (fd := d103) (es := [.v U4 x0, .v U11 x1]) rfl rfl rfl
  exact e1.trans (fn_of (fd := d103) (B := Int) (ent := fun b => [.v U2 b]) (dr := fun es => ((decC (decV U2) dec0) es).map fun q => (q.1)) (by intro b; kernel_rfl) (fun {R} k => g103 2000 x0 x1 (fun (r0 : Int) => k (r0))) (fun k => gen103 x0 x1 k))
theorem ho103 (D : Nat) : (ctr103 (S103 2000)).holds (acall table prims 2000 (D + 1)) := fun a => va103 D a.1 a.2.1
theorem va97 (D : Nat) (x0 : V0) (x1 : V13) : acall table prims 2000 (D + 2) 97 [.v U4 x0, .v U11 x1] = (S97 2000 x0 x1).bind fun b => some [.v .bool b] := by
  have h103 : (ctr103 (S103 2000)).holds (acall table prims 2000 (D + 1)) := ho103 (D + 0)
  have e1 := acall_succ (tb := table) (pr := prims) (N := 2000) (D := D + 1) (f := 97) (fd := d97) (es := [.v U4 x0, .v U11 x1]) rfl rfl rfl
  exact e1.trans (fn_of (fd := d97) (B := Bool) (ent := fun b => [.v .bool b]) (dr := fun es => ((decC (decV .bool) dec0) es).map fun q => (q.1)) (by intro b; kernel_rfl) (fun {R} k => g97 (S103 2000) x0 x1 (fun (r0 : Bool) => k (r0))) (fun k => gen97 (S103 2000) h103 x0 x1 k))
theorem ho97 (D : Nat) : (ctr97 (S97 2000)).holds (acall table prims 2000 (D + 2)) := fun a => va97 D a.1 a.2.1
theorem va100 (D : Nat) (x0 : V7) (x1 : V1) : acall table prims 2000 (D + 1) 100 [.v U0 x0, .v .str x1] = (S100 2000 x0 x1).bind fun b => some [.v .str b] := by
  have e1 := acall_succ (tb := table) (pr := prims) (N := 2000) (D := D + 0) (f := 100) (fd := d100) (es := [.v U0 x0, .v .str x1]) rfl rfl rfl
  exact e1.trans (fn_of (fd := d100) (B := V1) (ent := fun b => [.v .str b]) (dr := fun es => ((decC (decV .str) dec0) es).map fun q => (q.1)) (by intro b; kernel_rfl) (fun {R} k => g100 2000 x0 x1 (fun (r0 : V1) => k (r0))) (fun k => gen100 x0 x1 k))
theorem ho100 (D : Nat) : (ctr100 (S100 2000)).holds (acall table prims 2000 (D + 1)) := fun a => va100 D a.1 a.2.1
theorem va88 (D : Nat) (x0 : V7) : acall table prims 2000 (D + 5) 88 [.v U0 x0] = (S88 2000 x0).bind fun b => some [.v .str b.1, .v U2 b.2] := by
  have h97 : (ctr97 (S97 2000)).holds (acall table prims 2000 (D + 4)) := ho97 (D + 2)
  have h98 : (ctr98 (S98 2000)).holds (acall table prims 2000 (D + 4)) := ho98 (D + 0)
  have h100 : (ctr100 (S100 2000)).holds (acall table prims 2000 (D + 4)) := ho100 (D + 3)
  have e1 := acall_succ (tb := table) (pr := prims) (N := 2000) (D := D + 4) (f := 88) (fd := d88) (es := [.v U0 x0]) rfl rfl rfl
  exact e1.trans (fn_of (fd := d88) (B := V1 × Int) (ent := fun b => [.v .str b.1, .v U2 b.2]) (dr := fun es => ((decC (decV .str) (decC (decV U2) dec0)) es).map fun q => (q.1, q.2.1)) (by intro b; kernel_rfl) (fun {R} k => g88 2000 (S97 2000) (S98 2000) (S100 2000) x0 (fun (r0 : V1) (r1 : Int) => k (r0, r1))) (fun k => gen88 (S97 2000) (S98 2000) (S100 2000) h97 h98 h100 x0 k))
theorem ho88 (D : Nat) : (ctr88 (S88 2000)).holds (acall table prims 2000 (D + 5)) := fun a => va88 D a.1
theorem va56 (D : Nat) (x0 : V1) : acall table prims 2000 (D + 1) 56 [.v .str x0] = (S56 2000 x0).bind fun b => some [.v .str b] := by
  have e1 := acall_succ (tb := table) (pr := prims) (N := 2000) (D := D + 0) (f := 56) (fd := d56) (es := [.v .str x0]) rfl rfl rfl
  exact e1.trans (fn_of (fd := d56) (B := V1) (ent := fun b => [.v .str b]) (dr := fun es => ((decC (decV .str) dec0) es).map fun q => (q.1)) (by intro b; kernel_rfl) (fun {R} k => g56 2000 x0 (fun (r0 : V1) => k (r0))) (fun k => gen56 x0 k))
theorem ho56 (D : Nat) : (ctr56 (S56 2000)).holds (acall table prims 2000 (D + 1)) := fun a => va56 D a.1
theorem va73 (D : Nat) (x0 : V1) : acall table prims 2000 (D + 6) 73 [.v .str x0] = (S73 2000 x0).bind fun b => some [.v U2 b] := by
  have h56 : (ctr56 (S56 2000)).holds (acall table prims 2000 (D + 5)) := ho56 (D + 4)
  have h88 : (ctr88 (S88 2000)).holds (acall table prims 2000 (D + 5)) := ho88 (D + 0)
  have e1 := acall_succ (tb := table) (pr := prims) (N := 2000) (D := D + 5) (f := 73) (fd := d73) (es := [.v .str x0]) rfl rfl rfl
  exact e1.trans (fn_of (fd := d73) (B := Int) (ent := fun b => [.v U2 b]) (dr := fun es => ((decC (decV U2) dec0) es).map fun q => (q.1)) (by intro b; kernel_rfl) (fun {R} k => g73 (S56 2000) (S88 2000) x0 (fun (r0 : Int) => k (r0))) (fun k => gen73 (S56 2000) (S88 2000) h56 h88 x0 k))
theorem ho73 (D : Nat) : (ctr73 (S73 2000)).holds (acall table prims 2000 (D + 6)) := fun a => va73 D a.1
theorem va89 (D : Nat) (x0 : V7) (x1 : V1) : acall table prims 2000 (D + 1) 89 [.v U0 x0, .v .str x1] = (S89 2000 x0 x1).bind fun b => some [.v U2 b] := by
  have e1 := acall_succ (tb := table) (pr := prims) (N := 2000) (D := D + 0) (f := 89) (fd := d89) (es := [.v U0 x0, .v .str x1]) rfl rfl rfl
  exact e1.trans (fn_of (fd := d89) (B := Int) (ent := fun b => [.v U2 b]) (dr := fun es => ((decC (decV U2) dec0) es).map fun q => (q.1)) (by intro b; kernel_rfl) (fun {R} k => g89 2000 x0 x1 (fun (r0 : Int) => k (r0))) (fun k => gen89 x0 x1 k))
theorem ho89 (D : Nat) : (ctr89 (S89 2000)).holds (acall table prims 2000 (D + 1)) := fun a => va89 D a.1 a.2.1
theorem va74 (D : Nat) (x0 : V7) (x1 : V1) : acall table prims 2000 (D + 2) 74 [.v U0 x0, .v .str x1] = (S74 2000 x0 x1).bind fun b => some [.v .bool b] := by
  have h89 : (ctr89 (S89 2000)).holds (acall table prims 2000 (D + 1)) := ho89 (D + 0)
  have e1 := acall_succ (tb := table) (pr := prims) (N := 2000) (D := D + 1) (f := 74) (fd := d74) (es := [.v U0 x0, .v .str x1]) rfl rfl rfl
  exact e1.trans (fn_of (fd := d74) (B := Bool) (ent := fun b => [.v .bool b]) (dr := fun es => ((decC (decV .bool) dec0) es).map fun q => (q.1)) (by intro b; kernel_rfl) (fun {R} k => g74 (S89 2000) x0 x1 (fun (r0 : Bool) => k (r0))) (fun k => gen74 (S89 2000) h89 x0 x1 k))
theorem ho74 (D : Nat) : (ctr74 (S74 2000)).holds (acall table prims 2000 (D + 2)) := fun a => va74 D a.1 a.2.1
theorem va54 (D : Nat) (x0 : V20) : acall table prims 2000 (D + 7) 54 [.v U21 x0] = (S54 2000 x0).bind fun b => some [.v U2 b] := by
  have h73 : (ctr73 (S73 2000)).holds (acall table prims 2000 (D + 6)) := ho73 (D + 0)
  have h74 : (ctr74 (S74 2000)).holds (acall table prims 2000 (D + 6)) := ho74 (D + 4)
  have e1 := acall_succ (tb := table) (pr := prims) (N := 2000) (D := D + 6) (f := 54) (fd := d54) (es := [.v U21 x0]) rfl rfl rfl
  exact e1.trans (fn_of (fd := d54) (B := Int) (ent := fun b => [.v U2 b]) (dr := fun es => ((decC (decV U2) dec0) es).map fun q => (q.1)) (by intro b; kernel_rfl) (fun {R} k => g54 2000 (S73 2000) (S74 2000) x0 (fun (r0 : Int) => k (r0))) (fun k => gen54 (S73 2000) (S74 2000) h73 h74 x0 k))
theorem ho54 (D : Nat) : (ctr54 (S54 2000)).holds (acall table prims 2000 (D + 7)) := fun a => va54 D a.1
theorem va35 (D : Nat) (x0 : V26) : acall table prims 2000 (D + 8) 35 [.v U28 x0] = (S35 2000 x0).bind fun b => some [.v U2 b] := by
  have h53 : (ctr53 (S53 2000)).holds (acall table prims 2000 (D + 7)) := ho53 (D + 4)
  have h54 : (ctr54 (S54 2000)).holds (acall table prims 2000 (D + 7)) := ho54 (D + 0)
  have e1 := acall_succ (tb := table) (pr := prims) (N := 2000) (D := D + 7) (f := 35) (fd := d35) (es := [.v U28 x0]) rfl rfl rfl
  exact e1.trans (fn_of (fd := d35) (B := Int) (ent := fun b => [.v U2 b]) (dr := fun es => ((decC (decV U2) dec0) es).map fun q => (q.1)) (by intro b; kernel_rfl) (fun {R} k => g35 2000 (S53 2000) (S54 2000) x0 (fun (r0 : Int) => k (r0))) (fun k => gen35 (S53 2000) (S54 2000) h53 h54 x0 k))
theorem ho35 (D : Nat) : (ctr35 (S35 2000)).holds (acall table prims 2000 (D + 8)) := fun a => va35 D a.1
theorem va90 (D : Nat) (x0 : V17) : acall table prims 2000 (D + 1) 90 [.v U18 x0] = (S90 2000 x0).bind fun b => some [.v .bool b] := by
  have e1 := acall_succ (tb := table) (pr := prims) (N := 2000) (D := D + 0) (f := 90) (fd := d90) (es := [.v U18 x0]) rfl rfl rfl
  exact e1.trans (fn_of (fd := d90) (B := Bool) (ent := fun b => [.v .bool b]) (dr := fun es => ((decC (decV .bool) dec0) es).map fun q => (q.1)) (by intro b; kernel_rfl) (fun {R} k => g90 x0 (fun (r0 : Bool) => k (r0))) (fun k => gen90 x0 k))
theorem ho90 (D : Nat) : (ctr90 (S90 2000)).holds (acall table prims 2000 (D + 1)) := fun a => va90 D a.1
theorem va93 (D : Nat) (x0 : Int) : acall table prims 2000 (D + 1) 93 [.v U3 x0] = (S93 2000 x0).bind fun b => some [.v .bool b] := by
  have e1 := acall_succ (tb := table) (pr := prims) (N := 2000) (D := D + 0) (f := 93) (fd := d93) (es := [.v U3 x0]) rfl rfl rfl
  exact e1.trans (fn_of (fd := d93) (B := Bool) (ent := fun b => [.v .bool b]) (dr := fun es => ((decC (decV .bool) dec0) es).map fun q => (q.1)) (by intro b; kernel_rfl) (fun {R} k => g93 x0 (fun (r0 : Bool) => k (r0))) (fun k => gen93 x0 k))
theorem ho93 (D : Nat) : (ctr93 (S93 2000)).holds (acall table prims 2000 (D + 1)) := fun a => va93 D a.1
theorem va92 (D : Nat) (x0 : Int) : acall table prims 2000 (D + 2) 92 [.v U3 x0] = (S92 2000 x0).bind fun b => some [.v .bool b] := by
  have h93 : (ctr93 (S93 2000)).holds (acall table prims 2000 (D + 1)) := ho93 (D + 0)
  have e1 := acall_succ (tb := table) (pr := prims) (N := 2000) (D := D + 1) (f := 92) (fd := d92) (es := [.v U3 x0]) rfl rfl rfl
  exact e1.trans (fn_of (fd := d92) (B := Bool) (ent := fun b => [.v .bool b]) (dr := fun es => ((decC (decV .bool) dec0) es).map fun q => (q.1)) (by intro b; kernel_rfl) (fun {R} k => g92 (S93 2000) x0 (fun (r0 : Bool) => k (r0))) (fun k => gen92 (S93 2000) h93 x0 k))
theorem ho92 (D : Nat) : (ctr92 (S92 2000)).holds (acall table prims 2000 (D + 2)) := fun a => va92 D a.1
theorem va108 (D : Nat) (x0 : V1) (x1 : V13) (x2 : Bool) : acall table prims 2000 (D + 1) 108 [.v .str x0, .v U12 x1, .v .bool x2] = (S108 2000 x0 x1 x2).bind fun b => some [.v U2 b] := by
  have e1 := acall_succ (tb := table) (pr := prims) (N := 2000) (D := D + 0) (f := 108) (fd := d108) (es := [.v .str x0, .v U12 x1, .v .bool x2]) rfl rfl rfl
  exact e1.trans (fn_of (fd := d108) (B := Int) (ent := fun b => [.v U2 b]) (dr := fun es => ((decC (decV U2) dec0) es).map fun q => (q.1)) (by intro b; kernel_rfl) (fun {R} k => g108 2000 x0 x1 x2 (fun (r0 : Int) => k (r0))) (fun k => gen108 x0 x1 x2 k))
theorem ho108 (D : Nat) : (ctr108 (S108 2000)).holds (acall table prims 2000 (D + 1)) := fun a => va108 D a.1 a.2.1 a.2.2.1
theorem va101 (D : Nat) (x0 : V1) (x1 : V13) : acall table prims 2000 (D + 2) 101 [.v .str x0, .v U12 x1] = (S101 2000 x0 x1).bind fun b => some [.v U2 b] := by
  have h108 : (ctr108 (S108 2000)).holds (acall table prims 2000 (D + 1)) := ho108 (D + 0)
  have e1 := acall_succ (tb := table) (pr := prims) (N := 2000) (D := D + 1) (f := 101) (fd := d101) (es := [.v .str x0, .v U12 x1]) rfl rfl rfl
  exact e1.trans (fn_of (fd := d101) (B := Int) (ent := fun b => [.v U2 b]) (dr := fun es => ((decC (decV U2) dec0) es).map fun q => (q.1)) (by intro b; kernel_rfl) (fun {R} k => g101 (S108 2000) x0 x1 (fun (r0 : Int) => k (r0))) (fun k => gen101 (S108 2000) h108 x0 x1 k))
theorem ho101 (D : Nat) : (ctr101 (S101 2000)).holds (acall table prims 2000 (D + 2)) := fun a => va101 D a.1 a.2.1
theorem va91 (D : Nat) (x0 : V1) (x1 : V13) : acall table prims 2000 (D + 3) 91 [.v .str x0, .v U12 x1] = (S91 2000 x0 x1).bind fun b => some [.v .bool b] := by
  have h101 : (ctr101 (S101 2000)).holds (acall table prims 2000 (D + 2)) := ho101 (D + 0)
  have e1 := acall_succ (tb := table) (pr := prims) (N := 2000) (D := D + 2) (f := 91) (fd := d91) (es := [.v .str x0, .v U12 x1]) rfl rfl rfl
  exact e1.trans (fn_of (fd := d91) (B := Bool) (ent := fun b => [.v .bool b]) (dr := fun es => ((decC (decV .bool) dec0) es).map fun q => (q.1)) (by intro b; kernel_rfl) (fun {R} k => g91 (S101 2000) x0 x1 (fun (r0 : Bool) => k (r0))) (fun k => gen91 (S101 2000) h101 x0 x1 k))
theorem ho91 (D : Nat) : (ctr91 (S91 2000)).holds (acall table prims 2000 (D + 3)) := fun a => va91 D a.1 a.2.1
theorem va75 (D : Nat) (x0 : V17) : acall table prims 2000 (D + 4) 75 [.v U18 x0] = (S75 2000 x0).bind fun b => some [.v U2 b] := by
  have h90 : (ctr90 (S90 2000)).holds (acall table prims 2000 (D + 3)) := ho90 (D + 2)
  have h91 : (ctr91 (S91 2000)).holds (acall table prims 2000 (D + 3)) := ho91 (D + 0)
  have h92 : (ctr92 (S92 2000)).holds (acall table prims 2000 (D + 3)) := ho92 (D + 1)
  have e1 := acall_succ (tb := table) (pr := prims) (N := 2000) (D := D + 3) (f := 75) (fd := d75) (es := [.v U18 x0]) rfl rfl rfl
  exact e1.trans (fn_of (fd := d75) (B := Int) (ent := fun b => [.v U2 b]) (dr := fun es => ((decC (decV U2) dec0) es).map fun q => (q.1)) (by intro b; kernel_rfl) (fun {R} k => g75 (S90 2000) (S91 2000) (S92 2000) x0 (fun (r0 : Int) => k (r0))) (fun k => gen75 (S90 2000) (S91 2000) (S92 2000) h90 h91 h92 x0 k))
theorem ho75 (D : Nat) : (ctr75 (S75 2000)).holds (acall table prims 2000 (D + 4)) := fun a => va75 D a.1
theorem va55 (D : Nat) (x0 : V19) : acall table prims 2000 (D + 5) 55 [.v U22 x0] = (S55 2000 x0).bind fun b => some [.v U2 b] := by
  have h75 : (ctr75 (S75 2000)).holds (acall table prims 2000 (D + 4)) := ho75 (D + 0)
  have e1 := acall_succ (tb := table) (pr := prims) (N := 2000) (D := D + 4) (f := 55) (fd := d55) (es := [.v U22 x0]) rfl rfl rfl
  exact e1.trans (fn_of (fd := d55) (B := Int) (ent := fun b => [.v U2 b]) (dr := fun es => ((decC (decV U2) dec0) es).map fun q => (q.1)) (by intro b; kernel_rfl) (fun {R} k => g55 2000 (S75 2000) x0 (fun (r0 : Int) => k (r0))) (fun k => gen55 (S75 2000) h75 x0 k))
theorem ho55 (D : Nat) : (ctr55 (S55 2000)).holds (acall table prims 2000 (D + 5)) := fun a => va55 D a.1
theorem va36 (D : Nat) (x0 : V19) (x1 : V19) : acall table prims 2000 (D + 6) 36 [.v U22 x0, .v U22 x1] = (S36 2000 x0 x1).bind fun b => some [.v U2 b] := by
  have h55 : (ctr55 (S55 2000)).holds (acall table prims 2000 (D + 5)) := ho55 (D + 0)
  have e1 := acall_succ (tb := table) (pr := prims) (N := 2000) (D := D + 5) (f := 36) (fd := d36) (es := [.v U22 x0, .v U22 x1]) rfl rfl rfl
  exact e1.trans (fn_of (fd := d36) (B := Int) (ent := fun b => [.v U2 b]) (dr := fun es => ((decC (decV U2) dec0) es).map fun q => (q.1)) (by intro b; kernel_rfl) (fun {R} k => g36 (S55 2000) x0 x1 (fun (r0 : Int) => k (r0))) (fun k => gen36 (S55 2000) h55 x0 x1 k))
theorem ho36 (D : Nat) : (ctr36 (S36 2000)).holds (acall table prims 2000 (D + 6)) := fun a => va36 D a.1 a.2.1
theorem va43 (D : Nat) (x0 : V17) : acall table prims 2000 (D + 1) 43 [.v U18 x0] = (S43 2000 x0).bind fun b => some [.v .bool b] := by
  have e1 := acall_succ (tb := table) (pr := prims) (N := 2000) (D := D + 0) (f := 43) (fd := d43) (es := [.v U18 x0]) rfl rfl rfl
  exact e1.trans (fn_of (fd := d43) (B := Bool) (ent := fun b => [.v .bool b]) (dr := fun es => ((decC (decV .bool) dec0) es).map fun q => (q.1)) (by intro b; kernel_rfl) (fun {R} k => g43 x0 (fun (r0 : Bool) => k (r0))) (fun k => gen43 x0 k))
theorem ho43 (D : Nat) : (ctr43 (S43 2000)).holds (acall table prims 2000 (D + 1)) := fun a => va43 D a.1
theorem va14 (D : Nat) (x0 : V19) : acall table prims 2000 (D + 2) 14 [.v U22 x0] = (S14 2000 x0).bind fun b => some [.v U2 b] := by
  have h43 : (ctr43 (S43 2000)).holds (acall table prims 2000 (D + 1)) := ho43 (D + 0)
  have e1 := acall_succ (tb := table) (pr := prims) (N := 2000) (D := D + 1) (f := 14) (fd := d14) (es := [.v U22 x0]) rfl rfl rfl
  exact e1.trans (fn_of (fd := d14) (B := Int) (ent := fun b => [.v U2 b]) (dr := fun es => ((decC (decV U2) dec0) es).map fun q => (q.1)) (by intro b; kernel_rfl) (fun {R} k => g14 (S43 2000) x0 (fun (r0 : Int) => k (r0))) (fun k => gen14 (S43 2000) h43 x0 k))
theorem ho14 (D : Nat) : (ctr14 (S14 2000)).holds (acall table prims 2000 (D + 2)) := fun a => va14 D a.1
theorem va62 (D : Nat) (x0 : V17) : acall table prims 2000 (D + 1) 62 [.v U18 x0] = (S62 2000 x0).bind fun b => some [.v .bool b] := by
  have e1 := acall_succ (tb := table) (pr := prims) (N := 2000) (D := D + 0) (f := 62) (fd := d62) (es := [.v U18 x0]) rfl rfl rfl
  exact e1.trans (fn_of (fd := d62) (B := Bool) (ent := fun b => [.v .bool b]) (dr := fun es => ((decC (decV .bool) dec0) es).map fun q => (q.1)) (by intro b; kernel_rfl) (fun {R} k => g62 x0 (fun (r0 : Bool) => k (r0))) (fun k => gen62 x0 k))
theorem ho62 (D : Nat) : (ctr62 (S62 2000)).holds (acall table prims 2000 (D + 1)) := fun a => va62 D a.1
theorem va61 (D : Nat) (x0 : V19) (x1 : V25) : acall table prims 2000 (D + 1) 61 [.v U22 x0, .v U27 x1] = (S61 2000 x0 x1).bind fun b => some [.v U2 b] := by
  have e1 := acall_succ (tb := table) (pr := prims) (N := 2000) (D := D + 0) (f := 61) (fd := d61) (es := [.v U22 x0, .v U27 x1]) rfl rfl rfl
  exact e1.trans (fn_of (fd := d61) (B := Int) (ent := fun b => [.v U2 b]) (dr := fun es => ((decC (decV U2) dec0) es).map fun q => (q.1)) (by intro b; kernel_rfl) (fun {R} k => g61 2000 x0 x1 (fun (r0 : Int) => k (r0))) (fun k => gen61 x0 x1 k))
theorem ho61 (D : Nat) : (ctr61 (S61 2000)).holds (acall table prims 2000 (D + 1)) := fun a => va61 D a.1 a.2.1
theorem va42 (D : Nat) (x0 : V19) : acall table prims 2000 (D + 2) 42 [.v U22 x0] = (S42 2000 x0).bind fun b => some [.v U2 b] := by
  have h61 : (ctr61 (S61 2000)).holds (acall table prims 2000 (D + 1)) := ho61 (D + 0)
  have h62 : (ctr62 (S62 2000)).holds (acall table prims 2000 (D + 1)) := ho62 (D + 0)
  have e1 := acall_succ (tb := table) (pr := prims) (N := 2000) (D := D + 1) (f := 42) (fd := d42) (es := [.v U22 x0]) rfl rfl rfl
  exact e1.trans (fn_of (fd := d42) (B := Int) (ent := fun b => [.v U2 b]) (dr := fun es => ((decC (decV U2) dec0) es).map fun q => (q.1)) (by intro b; kernel_rfl) (fun {R} k => g42 (S61 2000) (S62 2000) x0 (fun (r0 : Int) => k (r0))) (fun k => gen42 (S61 2000) (S62 2000) h61 h62 x0 k))
theorem ho42 (D : Nat) : (ctr42 (S42 2000)).holds (acall table prims 2000 (D + 2)) := fun a => va42 D a.1
theorem va13 (D : Nat) (x0 : V19) : acall table prims 2000 (D + 3) 13 [.v U22 x0] = (S13 2000 x0).bind fun b => some [.v .bool b] := by
  have h42 : (ctr42 (S42 2000)).holds (acall table prims 2000 (D + 2)) := ho42 (D + 0)
  have h43 : (ctr43 (S43 2000)).holds (acall table prims 2000 (D + 2)) := ho43 (D + 1)
  have e1 := acall_succ (tb := table) (pr := prims) (N := 2000) (D := D + 2) (f := 13) (fd := d13) (es := [.v U22 x0]) rfl rfl rfl
  exact e1.trans (fn_of (fd := d13) (B := Bool) (ent := fun b => [.v .bool b]) (dr := fun es => ((decC (decV .bool) dec0) es).map fun q => (q.1)) (by intro b; kernel_rfl) (fun {R} k => g13 (S42 2000) (S43 2000) x0 (fun (r0 : Bool) => k (r0))) (fun k => gen13 (S42 2000) (S43 2000) h42 h43 x0 k))
theorem ho13 (D : Nat) : (ctr13 (S13 2000)).holds (acall table prims 2000 (D + 3)) := fun a => va13 D a.1
theorem va37 (D : Nat) (x0 : V19) (x1 : V19) : acall table prims 2000 (D + 4) 37 [.v U22 x0, .v U22 x1] = (S37 2000 x0 x1).bind fun b => some [.own true 3 U2 .no b] := by
  have h13 : (ctr13 (S13 2000)).holds (acall table prims 2000 (D + 3)) := ho13 (D + 0)
  have h14 : (ctr14 (S14 2000)).holds (acall table prims 2000 (D + 3)) := ho14 (D + 1)
  have e1 := acall_succ (tb := table) (pr := prims) (N := 2000) (D := D + 3) (f := 37) (fd := d37) (es := [.v U22 x0, .v U22 x1]) rfl rfl rfl
  exact e1.trans (fn_of (fd := d37) (B := V0) (ent := fun b => [.own true 3 U2 .no b]) (dr := fun es => ((decC (decO U2) dec0) es).map fun q => (q.1)) (by intro b; kernel_rfl) (fun {R} k => g37 (S13 2000) (S14 2000) x0 x1 (fun (r0 : V0) => k (r0))) (fun k => gen37 (S13 2000) (S14 2000) h13 h14 x0 x1 k))
theorem ho37 (D : Nat) : (ctr37 (S37 2000)).holds (acall table prims 2000 (D + 4)) := fun a => va37 D a.1 a.2.1
theorem va39 (D : Nat) (x0 : Int) (x1 : Int) : acall table prims 2000 (D + 1) 39 [.v U2 x0, .v U2 x1] = (S39 2000 x0 x1).bind fun b => some [.v U2 b] := by
  have e1 := acall_succ (tb := table) (pr := prims) (N := 2000) (D := D + 0) (f := 39) (fd := d39) (es := [.v U2 x0, .v U2 x1]) rfl rfl rfl
  exact e1.trans (fn_of (fd := d39) (B := Int) (ent := fun b => [.v U2 b]) (dr := fun es => ((decC (decV U2) dec0) es).map fun q => (q.1)) (by intro b; kernel_rfl) (fun {R} k => g39 x0 x1 (fun (r0 : Int) => k (r0))) (fun k => gen39 x0 x1 k))
theorem ho39 (D : Nat) : (ctr39 (S39 2000)).holds (acall table prims 2000 (D + 1)) := fun a => va39 D a.1 a.2.1
theorem va57 (D : Nat) (x0 : V20) (x1 : V1) : acall table prims 2000 (D + 3) 57 [.v U21 x0, .v .str x1] = (S57 2000 x0 x1).bind fun b => some [.v .bool b] := by
  have h74 : (ctr74 (S74 2000)).holds (acall table prims 2000 (D + 2)) := ho74 (D + 0)
  have e1 := acall_succ (tb := table) (pr := prims) (N := 2000) (D := D + 2) (f := 57) (fd := d57) (es := [.v U21 x0, .v .str x1]) rfl rfl rfl
  exact e1.trans (fn_of (fd := d57) (B := Bool) (ent := fun b => [.v .bool b]) (dr := fun es => ((decC (decV .bool) dec0) es).map fun q => (q.1)) (by intro b; kernel_rfl) (fun {R} k => g57 (S74 2000) x0 x1 (fun (r0 : Bool) => k (r0))) (fun k => gen57 (S74 2000) h74 x0 x1 k))
theorem ho57 (D : Nat) : (ctr57 (S57 2000)).holds (acall table prims 2000 (D + 3)) := fun a => va57 D a.1 a.2.1
theorem va38 (D : Nat) (x0 : V26) (x1 : Int) (x2 : V1) : acall table prims 2000 (D + 4) 38 [.v U28 x0, .v U2 x1, .v .str x2] = (S38 2000 x0 x1 x2).bind fun b => some [.v U2 b.1, .v .bool b.2] := by
  have h56 : (ctr56 (S56 2000)).holds (acall table prims 2000 (D + 3)) := ho56 (D + 2)
  have h57 : (ctr57 (S57 2000)).holds (acall table prims 2000 (D + 3)) := ho57 (D + 0)
  have e1 := acall_succ (tb := table) (pr := prims) (N := 2000) (D := D + 3) (f := 38) (fd := d38) (es := [.v U28 x0, .v U2 x1, .v .str x2]) rfl rfl rfl
  exact e1.trans (fn_of (fd := d38) (B := Int × Bool) (ent := fun b => [.v U2 b.1, .v .bool b.2]) (dr := fun es => ((decC (decV U2) (decC (decV .bool) dec0)) es).map fun q => (q.1, q.2.1)) (by intro b; kernel_rfl) (fun {R} k => g38 2000 (S56 2000) (S57 2000) x0 x1 x2 (fun (r0 : Int) (r1 : Bool) => k (r0, r1))) (fun k => gen38 (S56 2000) (S57 2000) h56 h57 x0 x1 x2 k))
theorem ho38 (D : Nat) : (ctr38 (S38 2000)).holds (acall table prims 2000 (D + 4)) := fun a => va38 D a.1 a.2.1 a.2.2.1
theorem va11 (D : Nat) (x0 : V26) (x1 : V1) (x2 : V1) (x3 : V19) (x4 : V19) : acall table prims 2000 (D + 9) 11 [.v U28 x0, .v .str x1, .v .str x2, .v U22 x3, .v U22 x4] = (S11 2000 x0 x1 x2 x3 x4).bind fun b => some [.own true 39 U16 .no b.1, .v U2 b.2] := by
  have h14 : (ctr14 (S14 2000)).holds (acall table prims 2000 (D + 8)) := ho14 (D + 6)
  have h35 : (ctr35 (S35 2000)).holds (acall table prims 2000 (D + 8)) := ho35 (D + 0)
  have h36 : (ctr36 (S36 2000)).holds (acall table prims 2000 (D + 8)) := ho36 (D + 2)
  have h37 : (ctr37 (S37 2000)).holds (acall table prims 2000 (D + 8)) := ho37 (D + 4)
  have h38 : (ctr38 (S38 2000)).holds (acall table prims 2000 (D + 8)) := ho38 (D + 4)
  have h39 : (ctr39 (S39 2000)).holds (acall table prims 2000 (D + 8)) := ho39 (D + 7)
  have e1 := acall_succ (tb := table) (pr := prims) (N := 2000) (D := D + 8) (f := 11) (fd := d11) (es := [.v U28 x0, .v .str x1, .v .str x2, .v U22 x3, .v U22 x4]) rfl rfl rfl
  exact e1.trans (fn_of (fd := d11) (B := V11 × Int) (ent := fun b => [.own true 39 U16 .no b.1, .v U2 b.2]) (dr := fun es => ((decC (decO U16) (decC (decV U2) dec0)) es).map fun q => (q.1, q.2.1)) (by intro b; kernel_rfl) (fun {R} k => g11 2000 (S14 2000) (S35 2000) (S36 2000) (S37 2000) (S38 2000) (S39 2000) x0 x1 x2 x3 x4 (fun (r0 : V11) (r1 : Int) => k (r0, r1))) (fun k => gen11 (S14 2000) (S35 2000) (S36 2000) (S37 2000) (S38 2000) (S39 2000) h14 h35 h36 h37 h38 h39 x0 x1 x2 x3 x4 k))
theorem ho11 (D : Nat) : (ctr11 (S11 2000)).holds (acall table prims 2000 (D + 9)) := fun a => va11 D a.1 a.2.1 a.2.2.1 a.2.2.2.1 a.2.2.2.2.1
theorem va21 (D : Nat) (x0 : V8) (x1 : V8) : acall table prims 2000 (D + 1) 21 [.v U16 x0, .at U16 x1] = (S21 2000 x0 x1).bind fun b => some [.v .bool b] := by
  have e1 := acall_succ (tb := table) (pr := prims) (N := 2000) (D := D + 0) (f := 21) (fd := d21) (es := [.v U16 x0, .at U16 x1]) rfl rfl rfl
  exact e1.trans (fn_of (fd := d21) (B := Bool) (ent := fun b => [.v .bool b]) (dr := fun es => ((decC (decV .bool) dec0) es).map fun q => (q.1)) (by intro b; kernel_rfl) (fun {R} k => g21 x0 x1 (fun (r0 : Bool) => k (r0))) (fun k => gen21 x0 x1 k))
theorem ho21 (D : Nat) : (ctr21 (S21 2000)).holds (acall table prims 2000 (D + 1)) := fun a => va21 D a.1 a.2.1
theorem va46 (D : Nat) (x0 : V11) (x1 : V21) : acall table prims 2000 (D + 1) 46 [.v U17 x0, .v U24 x1] = (S46 2000 x0 x1).bind fun b => some [.v U2 b] := by
  have e1 := acall_succ (tb := table) (pr := prims) (N := 2000) (D := D + 0) (f := 46) (fd := d46) (es := [.v U17 x0, .v U24 x1]) rfl rfl rfl
  exact e1.trans (fn_of (fd := d46) (B := Int) (ent := fun b => [.v U2 b]) (dr := fun es => ((decC (decV U2) dec0) es).map fun q => (q.1)) (by intro b; kernel_rfl) (fun {R} k => g46 2000 x0 x1 (fun (r0 : Int) => k (r0))) (fun k => gen46 x0 x1 k))
theorem ho46 (D : Nat) : (ctr46 (S46 2000)).holds (acall table prims 2000 (D + 1)) := fun a => va46 D a.1 a.2.1
theorem va19 (D : Nat) (x0 : V11) (x1 : V21) : acall table prims 2000 (D + 2) 19 [.v U17 x0, .v U24 x1] = (S19 2000 x0 x1).bind fun b => some [.v .bool b] := by
  have h46 : (ctr46 (S46 2000)).holds (acall table prims 2000 (D + 1)) := ho46 (D + 0)
  have e1 := acall_succ (tb := table) (pr := prims) (N := 2000) (D := D + 1) (f := 19) (fd := d19) (es := [.v U17 x0, .v U24 x1]) rfl rfl rfl
  exact e1.trans (fn_of (fd := d19) (B := Bool) (ent := fun b => [.v .bool b]) (dr := fun es => ((decC (decV .bool) dec0) es).map fun q => (q.1)) (by intro b; kernel_rfl) (fun {R} k => g19 (S46 2000) x0 x1 (fun (r0 : Bool) => k (r0))) (fun k => gen19 (S46 2000) h46 x0 x1 k))
theorem ho19 (D : Nat) : (ctr19 (S19 2000)).holds (acall table prims 2000 (D + 2)) := fun a => va19 D a.1 a.2.1
theorem va20 (D : Nat) (x0 : V8) (x1 : V11) : acall table prims 2000 (D + 3) 20 [.v U16 x0, .at U17 x1] = (S20 2000 x0 x1).bind fun b => some [.v .bool b] := by
  have h19 : (ctr19 (S19 2000)).holds (acall table prims 2000 (D + 2)) := ho19 (D + 0)
  have h21 : (ctr21 (S21 2000)).holds (acall table prims 2000 (D + 2)) := ho21 (D + 1)
  have e1 := acall_succ (tb := table) (pr := prims) (N := 2000) (D := D + 2) (f := 20) (fd := d20) (es := [.v U16 x0, .at U17 x1]) rfl rfl rfl
  exact e1.trans (fn_of (fd := d20) (B := Bool) (ent := fun b => [.v .bool b]) (dr := fun es => ((decC (decV .bool) dec0) es).map fun q => (q.1)) (by intro b; kernel_rfl) (fun {R} k => g20 (S19 2000) (S21 2000) x0 x1 (fun (r0 : Bool) => k (r0))) (fun k => gen20 (S19 2000) (S21 2000) h19 h21 x0 x1 k))
theorem ho20 (D : Nat) : (ctr20 (S20 2000)).holds (acall table prims 2000 (D + 3)) := fun a => va20 D a.1 a.2.1
theorem va5 (D : Nat) (x0 : V26) (x1 : V26) (x2 : V6) : acall table prims 2000 (D + 13) 5 [.v U28 x0, .v U28 x1, .v U10 x2] = (S5 2000 x0 x1 x2).bind fun b => some [.v .bool b] := by
  have h8 : (ctr8 (S8 2000)).holds (acall table prims 2000 (D + 12)) := ho8 (D + 0)
  have h9 : (ctr9 (S9 2000)).holds (acall table prims 2000 (D + 12)) := ho9 (D + 10)
  have h10 : (ctr10 (S10 2000)).holds (acall table prims 2000 (D + 12)) := ho10 (D + 10)
  have h11 : (ctr11 (S11 2000)).holds (acall table prims 2000 (D + 12)) := ho11 (D + 3)
  have h18 : (ctr18 (S18 2000)).holds (acall table prims 2000 (D + 12)) := ho18 (D + 7)
  have h19 : (ctr19 (S19 2000)).holds (acall table prims 2000 (D + 12)) := ho19 (D + 10)
  have h20 : (ctr20 (S20 2000)).holds (acall table prims 2000 (D + 12)) := ho20 (D + 9)
  have e1 := acall_succ (tb := table) (pr := prims) (N := 2000) (D := D + 12) (f := 5) (fd := d5) (es := [.v U28 x0, .v U28 x1, .v U10 x2]) rfl rfl rfl
  exact e1.trans (fn_of (fd := d5) (B := Bool) (ent := fun b => [.v .bool b]) (dr := fun es => ((decC (decV .bool) dec0) es).map fun q => (q.1)) (by intro b; kernel_rfl) (fun {R} k => g5 (S8 2000) (S9 2000) (S10 2000) (S11 2000) (S18 2000) (S19 2000) (S20 2000) x0 x1 x2 (fun (r0 : Bool) => k (r0))) (fun k => gen5 (S8 2000) (S9 2000) (S10 2000) (S11 2000) (S18 2000) (S19 2000) (S20 2000) h8 h9 h10 h11 h18 h19 h20 x0 x1 x2 k))
theorem ho5 (D : Nat) : (ctr5 (S5 2000)).holds (acall table prims 2000 (D + 13)) := fun a => va5 D a.1 a.2.1 a.2.2.1
end Go.Fw.L19
