/- Printed by an own program for this claim: the machine's code of functions, or their typed forms with their equations; no conditions. -/
import Derived.Test.YtggppceiapjadaaGreatFwMp19
import Derived.Test.YtggppceiapjadaaGreatFwB1
import Derived.Test.YtggppceiapjadaaGreatFwXp19
set_option linter.unusedVariables false
set_option linter.unusedSimpArgs false
namespace Go.Fw.L19
open Go Go.Fw
set_option maxRecDepth 100000
theorem ho9 (D : Nat) : (ctr9 (S9 2000)).holds (acall table prims 2000 (D + 1)) := prim_holds rfl (by intro a; kernel_rfl)
theorem ho119 (D : Nat) : (ctr119 (S119 2000)).holds (acall table prims 2000 (D + 1)) := prim_holds rfl (by intro a; kernel_rfl)
theorem ho6 (D : Nat) : (ctr6 (S6 2000)).holds (acall table prims 2000 (D + 12)) := fun a => fd6 D
theorem va7 (D : Nat) (x0 : V7) (x1 : Int) : acall table prims 2000 (D + 1) 7 [.v U17 x0, .v U2 x1] = (S7 2000 x0 x1).bind fun b => some [.v .bool b] := by
  have e1 := acall_succ (tb := table) (pr := prims) (N := 2000) (D := D + 0) (f := 7) (fd := d7) (es := [.v U17 x0, .v U2 x1]) rfl rfl rfl
  exact e1.trans (fn_of (fd := d7) (B := Bool) (ent := fun b => [.v .bool b]) (dr := fun es => ((decC (decV .bool) dec0) es).map fun q => (q.1)) (by intro b; kernel_rfl) (fun {R} k => g7 2000 x0 x1 (fun (r0 : Bool) => k (r0))) (fun k => gen7 x0 x1 k))
theorem ho7 (D : Nat) : (ctr7 (S7 2000)).holds (acall table prims 2000 (D + 1)) := fun a => va7 D a.1 a.2.1
theorem va97 (D : Nat) (x0 : V6) : acall table prims 2000 (D + 1) 97 [.v U14 x0] = (S97 2000 x0).bind fun b => some [.v .bool b] := by
  have e1 := acall_succ (tb := table) (pr := prims) (N := 2000) (D := D + 0) (f := 97) (fd := d97) (es := [.v U14 x0]) rfl rfl rfl
  exact e1.trans (fn_of (fd := d97) (B := Bool) (ent := fun b => [.v .bool b]) (dr := fun es => ((decC (decV .bool) dec0) es).map fun q => (q.1)) (by intro b; kernel_rfl) (fun {R} k => g97 x0 (fun (r0 : Bool) => k (r0))) (fun k => gen97 x0 k))
theorem ho97 (D : Nat) : (ctr97 (S97 2000)).holds (acall table prims 2000 (D + 1)) := fun a => va97 D a.1
theorem va100 (D : Nat) (x0 : Int) : acall table prims 2000 (D + 1) 100 [.v U3 x0] = (S100 2000 x0).bind fun b => some [.v .bool b] := by
  have e1 := acall_succ (tb := table) (pr := prims) (N := 2000) (D := D + 0) (f := 100) (fd := d100) (es := [.v U3 x0]) rfl rfl rfl
  exact e1.trans (fn_of (fd := d100) (B := Bool) (ent := fun b => [.v .bool b]) (dr := fun es => ((decC (decV .bool) dec0) es).map fun q => (q.1)) (by intro b; kernel_rfl) (fun {R} k => g100 x0 (fun (r0 : Bool) => k (r0))) (fun k => gen100 x0 k))
theorem ho100 (D : Nat) : (ctr100 (S100 2000)).holds (acall table prims 2000 (D + 1)) := fun a => va100 D a.1
theorem va99 (D : Nat) (x0 : Int) : acall table prims 2000 (D + 2) 99 [.v U3 x0] = (S99 2000 x0).bind fun b => some [.v .bool b] := by
  have h100 : (ctr100 (S100 2000)).holds (acall table prims 2000 (D + 1)) := ho100 (D + 0)
  have e1 := acall_succ (tb := table) (pr := prims) (N := 2000) (D := D + 1) (f := 99) (fd := d99) (es := [.v U3 x0]) rfl rfl rfl
  exact e1.trans (fn_of (fd := d99) (B := Bool) (ent := fun b => [.v .bool b]) (dr := fun es => ((decC (decV .bool) dec0) es).map fun q => (q.1)) (by intro b; kernel_rfl) (fun {R} k => g99 (S100 2000) x0 (fun (r0 : Bool) => k (r0))) (fun k => gen99 (S100 2000) h100 x0 k))
theorem ho99 (D : Nat) : (ctr99 (S99 2000)).holds (acall table prims 2000 (D + 2)) := fun a => va99 D a.1
theorem va118 (D : Nat) (x0 : V1) (x1 : V4) (x2 : Bool) : acall table prims 2000 (D + 1) 118 [.v .str x0, .v U9 x1, .v .bool x2] = (S118 2000 x0 x1 x2).bind fun b => some [.v U2 b] := by
  have e1 := acall_succ (tb := table) (pr := prims) (N := 2000) (D := D + 0) (f := 118) (fd := d118) (es := [.v .str x0, .v U9 x1, .v .bool x2]) rfl rfl rfl
  exact e1.trans (fn_of (fd := d118) (B := Int) (ent := fun b => [.v U2 b]) (dr := fun es => ((decC (decV U2) dec0) es).map fun q => (q.1)) (by intro b; kernel_rfl) (fun {R} k => g118 2000 x0 x1 x2 (fun (r0 : Int) => k (r0))) (fun k => gen118 x0 x1 x2 k))
theorem ho118 (D : Nat) : (ctr118 (S118 2000)).holds (acall table prims 2000 (D + 1)) := fun a => va118 D a.1 a.2.1 a.2.2.1
theorem va111 (D : Nat) (x0 : V1) (x1 : V4) : acall table prims 2000 (D + 2) 111 [.v .str x0, .v U9 x1] = (S111 2000 x0 x1).bind fun b => some [.v U2 b] := by
  have h118 : (ctr118 (S118 2000)).holds (acall table prims 2000 (D + 1)) := ho118 (D + 0)
  have e1 := acall_succ (tb := table) (pr := prims) (N := 2000) (D := D + 1) (f := 111) (fd := d111) (es := [.v .str x0, .v U9 x1]) rfl rfl rfl
  exact e1.trans (fn_of (fd := d111) (B := Int) (ent := fun b => [.v U2 b]) (dr := fun es => ((decC (decV U2) dec0) es).map fun q => (q.1)) (by intro b; kernel_rfl) (fun {R} k => g111 (S118 2000) x0 x1 (fun (r0 : Int) => k (r0))) (fun k => gen111 (S118 2000) h118 x0 x1 k))
theorem ho111 (D : Nat) : (ctr111 (S111 2000)).holds (acall table prims 2000 (D + 2)) := fun a => va111 D a.1 a.2.1
theorem va98 (D : Nat) (x0 : V1) (x1 : V4) : acall table prims 2000 (D + 3) 98 [.v .str x0, .v U9 x1] = (S98 2000 x0 x1).bind fun b => some [.v .bool b] := by
  have h111 : (ctr111 (S111 2000)).holds (acall table prims 2000 (D + 2)) := ho111 (D + 0)
  have e1 := acall_succ (tb := table) (pr := prims) (N := 2000) (D := D + 2) (f := 98) (fd := d98) (es := [.v .str x0, .v U9 x1]) rfl rfl rfl
  exact e1.trans (fn_of (fd := d98) (B := Bool) (ent := fun b => [.v .bool b]) (dr := fun es => ((decC (decV .bool) dec0) es).map fun q => (q.1)) (by intro b; kernel_rfl) (fun {R} k => g98 (S111 2000) x0 x1 (fun (r0 : Bool) => k (r0))) (fun k => gen98 (S111 2000) h111 x0 x1 k))
theorem ho98 (D : Nat) : (ctr98 (S98 2000)).holds (acall table prims 2000 (D + 3)) := fun a => va98 D a.1 a.2.1
theorem va85 (D : Nat) (x0 : V6) : acall table prims 2000 (D + 4) 85 [.v U14 x0] = (S85 2000 x0).bind fun b => some [.v U2 b] := by
  have h97 : (ctr97 (S97 2000)).holds (acall table prims 2000 (D + 3)) := ho97 (D + 2)
  have h98 : (ctr98 (S98 2000)).holds (acall table prims 2000 (D + 3)) := ho98 (D + 0)
  have h99 : (ctr99 (S99 2000)).holds (acall table prims 2000 (D + 3)) := ho99 (D + 1)
  have e1 := acall_succ (tb := table) (pr := prims) (N := 2000) (D := D + 3) (f := 85) (fd := d85) (es := [.v U14 x0]) rfl rfl rfl
  exact e1.trans (fn_of (fd := d85) (B := Int) (ent := fun b => [.v U2 b]) (dr := fun es => ((decC (decV U2) dec0) es).map fun q => (q.1)) (by intro b; kernel_rfl) (fun {R} k => g85 (S97 2000) (S98 2000) (S99 2000) x0 (fun (r0 : Int) => k (r0))) (fun k => gen85 (S97 2000) (S98 2000) (S99 2000) h97 h98 h99 x0 k))
theorem ho85 (D : Nat) : (ctr85 (S85 2000)).holds (acall table prims 2000 (D + 4)) := fun a => va85 D a.1
theorem va60 (D : Nat) (x0 : V7) : acall table prims 2000 (D + 5) 60 [.v U17 x0] = (S60 2000 x0).bind fun b => some [.v U2 b] := by
  have h85 : (ctr85 (S85 2000)).holds (acall table prims 2000 (D + 4)) := ho85 (D + 0)
  have e1 := acall_succ (tb := table) (pr := prims) (N := 2000) (D := D + 4) (f := 60) (fd := d60) (es := [.v U17 x0]) rfl rfl rfl
  exact e1.trans (fn_of (fd := d60) (B := Int) (ent := fun b => [.v U2 b]) (dr := fun es => ((decC (decV U2) dec0) es).map fun q => (q.1)) (by intro b; kernel_rfl) (fun {R} k => g60 2000 (S85 2000) x0 (fun (r0 : Int) => k (r0))) (fun k => gen60 (S85 2000) h85 x0 k))
theorem ho60 (D : Nat) : (ctr60 (S60 2000)).holds (acall table prims 2000 (D + 5)) := fun a => va60 D a.1
theorem va33 (D : Nat) (x0 : V7) (x1 : V7) : acall table prims 2000 (D + 6) 33 [.v U17 x0, .v U17 x1] = (S33 2000 x0 x1).bind fun b => some [.v U2 b] := by
  have h60 : (ctr60 (S60 2000)).holds (acall table prims 2000 (D + 5)) := ho60 (D + 0)
  have e1 := acall_succ (tb := table) (pr := prims) (N := 2000) (D := D + 5) (f := 33) (fd := d33) (es := [.v U17 x0, .v U17 x1]) rfl rfl rfl
  exact e1.trans (fn_of (fd := d33) (B := Int) (ent := fun b => [.v U2 b]) (dr := fun es => ((decC (decV U2) dec0) es).map fun q => (q.1)) (by intro b; kernel_rfl) (fun {R} k => g33 (S60 2000) x0 x1 (fun (r0 : Int) => k (r0))) (fun k => gen33 (S60 2000) h60 x0 x1 k))
theorem ho33 (D : Nat) : (ctr33 (S33 2000)).holds (acall table prims 2000 (D + 6)) := fun a => va33 D a.1 a.2.1
theorem va64 (D : Nat) (x0 : V6) : acall table prims 2000 (D + 1) 64 [.v U14 x0] = (S64 2000 x0).bind fun b => some [.v .bool b] := by
  have e1 := acall_succ (tb := table) (pr := prims) (N := 2000) (D := D + 0) (f := 64) (fd := d64) (es := [.v U14 x0]) rfl rfl rfl
  exact e1.trans (fn_of (fd := d64) (B := Bool) (ent := fun b => [.v .bool b]) (dr := fun es => ((decC (decV .bool) dec0) es).map fun q => (q.1)) (by intro b; kernel_rfl) (fun {R} k => g64 x0 (fun (r0 : Bool) => k (r0))) (fun k => gen64 x0 k))
theorem ho64 (D : Nat) : (ctr64 (S64 2000)).holds (acall table prims 2000 (D + 1)) := fun a => va64 D a.1
theorem va37 (D : Nat) (x0 : V7) : acall table prims 2000 (D + 2) 37 [.v U17 x0] = (S37 2000 x0).bind fun b => some [.v U2 b] := by
  have h64 : (ctr64 (S64 2000)).holds (acall table prims 2000 (D + 1)) := ho64 (D + 0)
  have e1 := acall_succ (tb := table) (pr := prims) (N := 2000) (D := D + 1) (f := 37) (fd := d37) (es := [.v U17 x0]) rfl rfl rfl
  exact e1.trans (fn_of (fd := d37) (B := Int) (ent := fun b => [.v U2 b]) (dr := fun es => ((decC (decV U2) dec0) es).map fun q => (q.1)) (by intro b; kernel_rfl) (fun {R} k => g37 (S64 2000) x0 (fun (r0 : Int) => k (r0))) (fun k => gen37 (S64 2000) h64 x0 k))
theorem ho37 (D : Nat) : (ctr37 (S37 2000)).holds (acall table prims 2000 (D + 2)) := fun a => va37 D a.1
theorem va81 (D : Nat) (x0 : V6) : acall table prims 2000 (D + 1) 81 [.v U14 x0] = (S81 2000 x0).bind fun b => some [.v .bool b] := by
  have e1 := acall_succ (tb := table) (pr := prims) (N := 2000) (D := D + 0) (f := 81) (fd := d81) (es := [.v U14 x0]) rfl rfl rfl
  exact e1.trans (fn_of (fd := d81) (B := Bool) (ent := fun b => [.v .bool b]) (dr := fun es => ((decC (decV .bool) dec0) es).map fun q => (q.1)) (by intro b; kernel_rfl) (fun {R} k => g81 x0 (fun (r0 : Bool) => k (r0))) (fun k => gen81 x0 k))
theorem ho81 (D : Nat) : (ctr81 (S81 2000)).holds (acall table prims 2000 (D + 1)) := fun a => va81 D a.1
theorem va80 (D : Nat) (x0 : V7) (x1 : V10) : acall table prims 2000 (D + 1) 80 [.v U17 x0, .v U21 x1] = (S80 2000 x0 x1).bind fun b => some [.v U2 b] := by
  have e1 := acall_succ (tb := table) (pr := prims) (N := 2000) (D := D + 0) (f := 80) (fd := d80) (es := [.v U17 x0, .v U21 x1]) rfl rfl rfl
  exact e1.trans (fn_of (fd := d80) (B := Int) (ent := fun b => [.v U2 b]) (dr := fun es => ((decC (decV U2) dec0) es).map fun q => (q.1)) (by intro b; kernel_rfl) (fun {R} k => g80 2000 x0 x1 (fun (r0 : Int) => k (r0))) (fun k => gen80 x0 x1 k))
theorem ho80 (D : Nat) : (ctr80 (S80 2000)).holds (acall table prims 2000 (D + 1)) := fun a => va80 D a.1 a.2.1
theorem va53 (D : Nat) (x0 : V7) : acall table prims 2000 (D + 2) 53 [.v U17 x0] = (S53 2000 x0).bind fun b => some [.v U2 b] := by
  have h80 : (ctr80 (S80 2000)).holds (acall table prims 2000 (D + 1)) := ho80 (D + 0)
  have h81 : (ctr81 (S81 2000)).holds (acall table prims 2000 (D + 1)) := ho81 (D + 0)
  have e1 := acall_succ (tb := table) (pr := prims) (N := 2000) (D := D + 1) (f := 53) (fd := d53) (es := [.v U17 x0]) rfl rfl rfl
  exact e1.trans (fn_of (fd := d53) (B := Int) (ent := fun b => [.v U2 b]) (dr := fun es => ((decC (decV U2) dec0) es).map fun q => (q.1)) (by intro b; kernel_rfl) (fun {R} k => g53 (S80 2000) (S81 2000) x0 (fun (r0 : Int) => k (r0))) (fun k => gen53 (S80 2000) (S81 2000) h80 h81 x0 k))
theorem ho53 (D : Nat) : (ctr53 (S53 2000)).holds (acall table prims 2000 (D + 2)) := fun a => va53 D a.1
theorem va61 (D : Nat) (x0 : V7) : acall table prims 2000 (D + 3) 61 [.v U17 x0] = (S61 2000 x0).bind fun b => some [.v .bool b] := by
  have h53 : (ctr53 (S53 2000)).holds (acall table prims 2000 (D + 2)) := ho53 (D + 0)
  have h64 : (ctr64 (S64 2000)).holds (acall table prims 2000 (D + 2)) := ho64 (D + 1)
  have e1 := acall_succ (tb := table) (pr := prims) (N := 2000) (D := D + 2) (f := 61) (fd := d61) (es := [.v U17 x0]) rfl rfl rfl
  exact e1.trans (fn_of (fd := d61) (B := Bool) (ent := fun b => [.v .bool b]) (dr := fun es => ((decC (decV .bool) dec0) es).map fun q => (q.1)) (by intro b; kernel_rfl) (fun {R} k => g61 (S53 2000) (S64 2000) x0 (fun (r0 : Bool) => k (r0))) (fun k => gen61 (S53 2000) (S64 2000) h53 h64 x0 k))
theorem ho61 (D : Nat) : (ctr61 (S61 2000)).holds (acall table prims 2000 (D + 3)) := fun a => va61 D a.1
theorem va34 (D : Nat) (x0 : V7) (x1 : V7) : acall table prims 2000 (D + 4) 34 [.v U17 x0, .v U17 x1] = (S34 2000 x0 x1).bind fun b => some [.own true 3 U2 .no b] := by
  have h37 : (ctr37 (S37 2000)).holds (acall table prims 2000 (D + 3)) := ho37 (D + 1)
  have h61 : (ctr61 (S61 2000)).holds (acall table prims 2000 (D + 3)) := ho61 (D + 0)
  have e1 := acall_succ (tb := table) (pr := prims) (N := 2000) (D := D + 3) (f := 34) (fd := d34) (es := [.v U17 x0, .v U17 x1]) rfl rfl rfl
  exact e1.trans (fn_of (fd := d34) (B := V0) (ent := fun b => [.own true 3 U2 .no b]) (dr := fun es => ((decC (decO U2) dec0) es).map fun q => (q.1)) (by intro b; kernel_rfl) (fun {R} k => g34 (S37 2000) (S61 2000) x0 x1 (fun (r0 : V0) => k (r0))) (fun k => gen34 (S37 2000) (S61 2000) h37 h61 x0 x1 k))
theorem ho34 (D : Nat) : (ctr34 (S34 2000)).holds (acall table prims 2000 (D + 4)) := fun a => va34 D a.1 a.2.1
theorem va79 (D : Nat) (x0 : V0) (x1 : Int) : acall table prims 2000 (D + 1) 79 [.v U4 x0, .v U2 x1] = (S79 2000 x0 x1).bind fun b => some [.v U2 b] := by
  have e1 := acall_succ (tb := table) (pr := prims) (N := 2000) (D := D + 0) (f := 79) (fd := d79) (es := [.v U4 x0, .v U2 x1]) rfl rfl rfl
  exact e1.trans (fn_of (fd := d79) (B := Int) (ent := fun b => [.v U2 b]) (dr := fun es => ((decC (decV U2) dec0) es).map fun q => (q.1)) (by intro b; kernel_rfl) (fun {R} k => g79 2000 x0 x1 (fun (r0 : Int) => k (r0))) (fun k => gen79 x0 x1 k))
theorem ho79 (D : Nat) : (ctr79 (S79 2000)).holds (acall table prims 2000 (D + 1)) := fun a => va79 D a.1 a.2.1
theorem va52 (D : Nat) (x0 : V0) (x1 : Int) : acall table prims 2000 (D + 2) 52 [.v U4 x0, .v U2 x1] = (S52 2000 x0 x1).bind fun b => some [.v .bool b] := by
  have h79 : (ctr79 (S79 2000)).holds (acall table prims 2000 (D + 1)) := ho79 (D + 0)
  have e1 := acall_succ (tb := table) (pr := prims) (N := 2000) (D := D + 1) (f := 52) (fd := d52) (es := [.v U4 x0, .v U2 x1]) rfl rfl rfl
  exact e1.trans (fn_of (fd := d52) (B := Bool) (ent := fun b => [.v .bool b]) (dr := fun es => ((decC (decV .bool) dec0) es).map fun q => (q.1)) (by intro b; kernel_rfl) (fun {R} k => g52 (S79 2000) x0 x1 (fun (r0 : Bool) => k (r0))) (fun k => gen52 (S79 2000) h79 x0 x1 k))
theorem ho52 (D : Nat) : (ctr52 (S52 2000)).holds (acall table prims 2000 (D + 2)) := fun a => va52 D a.1 a.2.1
theorem va27 (D : Nat) (x0 : V7) (x1 : V7) (x2 : Int) : acall table prims 2000 (D + 7) 27 [.v U17 x0, .v U17 x1, .v U2 x2] = (S27 2000 x0 x1 x2).bind fun b => some [.v U17 b.1, .own true 30 U14 .no b.2.1, .own true 30 U14 .no b.2.2.1, .v U2 b.2.2.2] := by
  have h9 : (ctr9 (S9 2000)).holds (acall table prims 2000 (D + 6)) := ho9 (D + 5)
  have h33 : (ctr33 (S33 2000)).holds (acall table prims 2000 (D + 6)) := ho33 (D + 0)
  have h34 : (ctr34 (S34 2000)).holds (acall table prims 2000 (D + 6)) := ho34 (D + 2)
  have h37 : (ctr37 (S37 2000)).holds (acall table prims 2000 (D + 6)) := ho37 (D + 4)
  have h52 : (ctr52 (S52 2000)).holds (acall table prims 2000 (D + 6)) := ho52 (D + 4)
  have h53 : (ctr53 (S53 2000)).holds (acall table prims 2000 (D + 6)) := ho53 (D + 4)
  have e1 := acall_succ (tb := table) (pr := prims) (N := 2000) (D := D + 6) (f := 27) (fd := d27) (es := [.v U17 x0, .v U17 x1, .v U2 x2]) rfl rfl rfl
  exact e1.trans (fn_of (fd := d27) (B := V7 × V7 × V7 × Int) (ent := fun b => [.v U17 b.1, .own true 30 U14 .no b.2.1, .own true 30 U14 .no b.2.2.1, .v U2 b.2.2.2]) (dr := fun es => ((decC (decV U17) (decC (decO U14) (decC (decO U14) (decC (decV U2) dec0)))) es).map fun q => (q.1, q.2.1, q.2.2.1, q.2.2.2.1)) (by intro b; kernel_rfl) (fun {R} k => g27 (S9 2000) (S33 2000) (S34 2000) (S37 2000) (S52 2000) (S53 2000) x0 x1 x2 (fun (r0 : V7) (r1 : V7) (r2 : V7) (r3 : Int) => k (r0, r1, r2, r3))) (fun k => gen27 (S9 2000) (S33 2000) (S34 2000) (S37 2000) (S52 2000) (S53 2000) h9 h33 h34 h37 h52 h53 x0 x1 x2 k))
theorem ho27 (D : Nat) : (ctr27 (S27 2000)).holds (acall table prims 2000 (D + 7)) := fun a => va27 D a.1 a.2.1 a.2.2.1
theorem va8 (D : Nat) (x0 : V7) (x1 : V7) (x2 : Int) : acall table prims 2000 (D + 8) 8 [.v U17 x0, .v U17 x1, .v U2 x2] = (S8 2000 x0 x1 x2).bind fun b => some [.v U17 b.1, .own true 30 U14 .no b.2.1, .v U2 b.2.2] := by
  have h27 : (ctr27 (S27 2000)).holds (acall table prims 2000 (D + 7)) := ho27 (D + 0)
  have e1 := acall_succ (tb := table) (pr := prims) (N := 2000) (D := D + 7) (f := 8) (fd := d8) (es := [.v U17 x0, .v U17 x1, .v U2 x2]) rfl rfl rfl
  exact e1.trans (fn_of (fd := d8) (B := V7 × V7 × Int) (ent := fun b => [.v U17 b.1, .own true 30 U14 .no b.2.1, .v U2 b.2.2]) (dr := fun es => ((decC (decV U17) (decC (decO U14) (decC (decV U2) dec0))) es).map fun q => (q.1, q.2.1, q.2.2.1)) (by intro b; kernel_rfl) (fun {R} k => g8 (S27 2000) x0 x1 x2 (fun (r0 : V7) (r1 : V7) (r2 : Int) => k (r0, r1, r2))) (fun k => gen8 (S27 2000) h27 x0 x1 x2 k))
theorem ho8 (D : Nat) : (ctr8 (S8 2000)).holds (acall table prims 2000 (D + 8)) := fun a => va8 D a.1 a.2.1 a.2.2.1
theorem va88 (D : Nat) (x0 : Int) : acall table prims 2000 (D + 1) 88 [.v U0 x0] = (S88 2000 x0).bind fun b => some [.v .bool b] := by
  have e1 := acall_succ (tb := table) (pr := prims) (N := 2000) (D := D + 0) (f := 88) (fd := d88) (es := [.v U0 x0]) rfl rfl rfl
  exact e1.trans (fn_of (fd := d88) (B := Bool) (ent := fun b => [.v .bool b]) (dr := fun es => ((decC (decV .bool) dec0) es).map fun q => (q.1)) (by intro b; kernel_rfl) (fun {R} k => g88 x0 (fun (r0 : Bool) => k (r0))) (fun k => gen88 x0 k))
theorem ho88 (D : Nat) : (ctr88 (S88 2000)).holds (acall table prims 2000 (D + 1)) := fun a => va88 D a.1
theorem va73 (D : Nat) (x0 : V6) : acall table prims 2000 (D + 2) 73 [.v U14 x0] = (S73 2000 x0).bind fun b => some [.v U2 b] := by
  have h88 : (ctr88 (S88 2000)).holds (acall table prims 2000 (D + 1)) := ho88 (D + 0)
  have e1 := acall_succ (tb := table) (pr := prims) (N := 2000) (D := D + 1) (f := 73) (fd := d73) (es := [.v U14 x0]) rfl rfl rfl
  exact e1.trans (fn_of (fd := d73) (B := Int) (ent := fun b => [.v U2 b]) (dr := fun es => ((decC (decV U2) dec0) es).map fun q => (q.1)) (by intro b; kernel_rfl) (fun {R} k => g73 2000 (S88 2000) x0 (fun (r0 : Int) => k (r0))) (fun k => gen73 (S88 2000) h88 x0 k))
theorem ho73 (D : Nat) : (ctr73 (S73 2000)).holds (acall table prims 2000 (D + 2)) := fun a => va73 D a.1
theorem va67 (D : Nat) (x0 : V7) : acall table prims 2000 (D + 3) 67 [.v U17 x0] = (S67 2000 x0).bind fun b => some [.v U2 b] := by
  have h73 : (ctr73 (S73 2000)).holds (acall table prims 2000 (D + 2)) := ho73 (D + 0)
  have e1 := acall_succ (tb := table) (pr := prims) (N := 2000) (D := D + 2) (f := 67) (fd := d67) (es := [.v U17 x0]) rfl rfl rfl
  exact e1.trans (fn_of (fd := d67) (B := Int) (ent := fun b => [.v U2 b]) (dr := fun es => ((decC (decV U2) dec0) es).map fun q => (q.1)) (by intro b; kernel_rfl) (fun {R} k => g67 2000 (S73 2000) x0 (fun (r0 : Int) => k (r0))) (fun k => gen67 (S73 2000) h73 x0 k))
theorem ho67 (D : Nat) : (ctr67 (S67 2000)).holds (acall table prims 2000 (D + 3)) := fun a => va67 D a.1
theorem va39 (D : Nat) (x0 : V7) (x1 : V7) : acall table prims 2000 (D + 4) 39 [.v U17 x0, .v U17 x1] = (S39 2000 x0 x1).bind fun b => some [.v U2 b] := by
  have h67 : (ctr67 (S67 2000)).holds (acall table prims 2000 (D + 3)) := ho67 (D + 0)
  have e1 := acall_succ (tb := table) (pr := prims) (N := 2000) (D := D + 3) (f := 39) (fd := d39) (es := [.v U17 x0, .v U17 x1]) rfl rfl rfl
  exact e1.trans (fn_of (fd := d39) (B := Int) (ent := fun b => [.v U2 b]) (dr := fun es => ((decC (decV U2) dec0) es).map fun q => (q.1)) (by intro b; kernel_rfl) (fun {R} k => g39 (S67 2000) x0 x1 (fun (r0 : Int) => k (r0))) (fun k => gen39 (S67 2000) h67 x0 x1 k))
theorem ho39 (D : Nat) : (ctr39 (S39 2000)).holds (acall table prims 2000 (D + 4)) := fun a => va39 D a.1 a.2.1
theorem va71 (D : Nat) (x0 : V6) : acall table prims 2000 (D + 1) 71 [.v U14 x0] = (S71 2000 x0).bind fun b => some [.v .bool b] := by
  have e1 := acall_succ (tb := table) (pr := prims) (N := 2000) (D := D + 0) (f := 71) (fd := d71) (es := [.v U14 x0]) rfl rfl rfl
  exact e1.trans (fn_of (fd := d71) (B := Bool) (ent := fun b => [.v .bool b]) (dr := fun es => ((decC (decV .bool) dec0) es).map fun q => (q.1)) (by intro b; kernel_rfl) (fun {R} k => g71 x0 (fun (r0 : Bool) => k (r0))) (fun k => gen71 x0 k))
theorem ho71 (D : Nat) : (ctr71 (S71 2000)).holds (acall table prims 2000 (D + 1)) := fun a => va71 D a.1
theorem va43 (D : Nat) (x0 : V7) : acall table prims 2000 (D + 2) 43 [.v U17 x0] = (S43 2000 x0).bind fun b => some [.v U2 b] := by
  have h71 : (ctr71 (S71 2000)).holds (acall table prims 2000 (D + 1)) := ho71 (D + 0)
  have e1 := acall_succ (tb := table) (pr := prims) (N := 2000) (D := D + 1) (f := 43) (fd := d43) (es := [.v U17 x0]) rfl rfl rfl
  exact e1.trans (fn_of (fd := d43) (B := Int) (ent := fun b => [.v U2 b]) (dr := fun es => ((decC (decV U2) dec0) es).map fun q => (q.1)) (by intro b; kernel_rfl) (fun {R} k => g43 (S71 2000) x0 (fun (r0 : Int) => k (r0))) (fun k => gen43 (S71 2000) h71 x0 k))
theorem ho43 (D : Nat) : (ctr43 (S43 2000)).holds (acall table prims 2000 (D + 2)) := fun a => va43 D a.1
theorem va56 (D : Nat) (x0 : V7) : acall table prims 2000 (D + 2) 56 [.v U17 x0] = (S56 2000 x0).bind fun b => some [.v U2 b] := by
  have h71 : (ctr71 (S71 2000)).holds (acall table prims 2000 (D + 1)) := ho71 (D + 0)
  have e1 := acall_succ (tb := table) (pr := prims) (N := 2000) (D := D + 1) (f := 56) (fd := d56) (es := [.v U17 x0]) rfl rfl rfl
  exact e1.trans (fn_of (fd := d56) (B := Int) (ent := fun b => [.v U2 b]) (dr := fun es => ((decC (decV U2) dec0) es).map fun q => (q.1)) (by intro b; kernel_rfl) (fun {R} k => g56 2000 (S71 2000) x0 (fun (r0 : Int) => k (r0))) (fun k => gen56 (S71 2000) h71 x0 k))
theorem ho56 (D : Nat) : (ctr56 (S56 2000)).holds (acall table prims 2000 (D + 2)) := fun a => va56 D a.1
theorem va68 (D : Nat) (x0 : V7) : acall table prims 2000 (D + 3) 68 [.v U17 x0] = (S68 2000 x0).bind fun b => some [.v .bool b] := by
  have h56 : (ctr56 (S56 2000)).holds (acall table prims 2000 (D + 2)) := ho56 (D + 0)
  have e1 := acall_succ (tb := table) (pr := prims) (N := 2000) (D := D + 2) (f := 68) (fd := d68) (es := [.v U17 x0]) rfl rfl rfl
  exact e1.trans (fn_of (fd := d68) (B := Bool) (ent := fun b => [.v .bool b]) (dr := fun es => ((decC (decV .bool) dec0) es).map fun q => (q.1)) (by intro b; kernel_rfl) (fun {R} k => g68 (S56 2000) x0 (fun (r0 : Bool) => k (r0))) (fun k => gen68 (S56 2000) h56 x0 k))
theorem ho68 (D : Nat) : (ctr68 (S68 2000)).holds (acall table prims 2000 (D + 3)) := fun a => va68 D a.1
theorem va40 (D : Nat) (x0 : V7) (x1 : V7) : acall table prims 2000 (D + 4) 40 [.v U17 x0, .v U17 x1] = (S40 2000 x0 x1).bind fun b => some [.own true 3 U2 .no b] := by
  have h43 : (ctr43 (S43 2000)).holds (acall table prims 2000 (D + 3)) := ho43 (D + 1)
  have h68 : (ctr68 (S68 2000)).holds (acall table prims 2000 (D + 3)) := ho68 (D + 0)
  have e1 := acall_succ (tb := table) (pr := prims) (N := 2000) (D := D + 3) (f := 40) (fd := d40) (es := [.v U17 x0, .v U17 x1]) rfl rfl rfl
  exact e1.trans (fn_of (fd := d40) (B := V0) (ent := fun b => [.own true 3 U2 .no b]) (dr := fun es => ((decC (decO U2) dec0) es).map fun q => (q.1)) (by intro b; kernel_rfl) (fun {R} k => g40 (S43 2000) (S68 2000) x0 x1 (fun (r0 : V0) => k (r0))) (fun k => gen40 (S43 2000) (S68 2000) h43 h68 x0 x1 k))
theorem ho40 (D : Nat) : (ctr40 (S40 2000)).holds (acall table prims 2000 (D + 4)) := fun a => va40 D a.1 a.2.1
theorem va54 (D : Nat) (x0 : V0) (x1 : Int) : acall table prims 2000 (D + 1) 54 [.v U4 x0, .v U2 x1] = (S54 2000 x0 x1).bind fun b => some [.v .bool b] := by
  have e1 := acall_succ (tb := table) (pr := prims) (N := 2000) (D := D + 0) (f := 54) (fd := d54) (es := [.v U4 x0, .v U2 x1]) rfl rfl rfl
  exact e1.trans (fn_of (fd := d54) (B := Bool) (ent := fun b => [.v .bool b]) (dr := fun es => ((decC (decV .bool) dec0) es).map fun q => (q.1)) (by intro b; kernel_rfl) (fun {R} k => g54 2000 x0 x1 (fun (r0 : Bool) => k (r0))) (fun k => gen54 x0 x1 k))
theorem ho54 (D : Nat) : (ctr54 (S54 2000)).holds (acall table prims 2000 (D + 1)) := fun a => va54 D a.1 a.2.1
theorem va28 (D : Nat) (x0 : V7) (x1 : V7) (x2 : Int) : acall table prims 2000 (D + 5) 28 [.v U17 x0, .v U17 x1, .v U2 x2] = (S28 2000 x0 x1 x2).bind fun b => some [.v U2 b] := by
  have h39 : (ctr39 (S39 2000)).holds (acall table prims 2000 (D + 4)) := ho39 (D + 0)
  have h40 : (ctr40 (S40 2000)).holds (acall table prims 2000 (D + 4)) := ho40 (D + 0)
  have h54 : (ctr54 (S54 2000)).holds (acall table prims 2000 (D + 4)) := ho54 (D + 3)
  have e1 := acall_succ (tb := table) (pr := prims) (N := 2000) (D := D + 4) (f := 28) (fd := d28) (es := [.v U17 x0, .v U17 x1, .v U2 x2]) rfl rfl rfl
  exact e1.trans (fn_of (fd := d28) (B := Int) (ent := fun b => [.v U2 b]) (dr := fun es => ((decC (decV U2) dec0) es).map fun q => (q.1)) (by intro b; kernel_rfl) (fun {R} k => g28 (S39 2000) (S40 2000) (S54 2000) x0 x1 x2 (fun (r0 : Int) => k (r0))) (fun k => gen28 (S39 2000) (S40 2000) (S54 2000) h39 h40 h54 x0 x1 x2 k))
theorem ho28 (D : Nat) : (ctr28 (S28 2000)).holds (acall table prims 2000 (D + 5)) := fun a => va28 D a.1 a.2.1 a.2.2.1
theorem va55 (D : Nat) (x0 : V7) (x1 : Int) (x2 : Int) : acall table prims 2000 (D + 1) 55 [.v U17 x0, .v U2 x1, .v U2 x2] = (S55 2000 x0 x1 x2).bind fun b => some [.own true 30 U14 .no b] := by
  have e1 := acall_succ (tb := table) (pr := prims) (N := 2000) (D := D + 0) (f := 55) (fd := d55) (es := [.v U17 x0, .v U2 x1, .v U2 x2]) rfl rfl rfl
  exact e1.trans (fn_of (fd := d55) (B := V7) (ent := fun b => [.own true 30 U14 .no b]) (dr := fun es => ((decC (decO U14) dec0) es).map fun q => (q.1)) (by intro b; kernel_rfl) (fun {R} k => g55 2000 x0 x1 x2 (fun (r0 : V7) => k (r0))) (fun k => gen55 x0 x1 x2 k))
theorem ho55 (D : Nat) : (ctr55 (S55 2000)).holds (acall table prims 2000 (D + 1)) := fun a => va55 D a.1 a.2.1 a.2.2.1
theorem va29 (D : Nat) (x0 : V7) (x1 : V7) (x2 : Int) : acall table prims 2000 (D + 3) 29 [.v U17 x0, .v U17 x1, .v U2 x2] = (S29 2000 x0 x1 x2).bind fun b => some [.own true 30 U14 .no b.1, .own true 30 U14 .no b.2.1, .own true 30 U14 .no b.2.2] := by
  have h43 : (ctr43 (S43 2000)).holds (acall table prims 2000 (D + 2)) := ho43 (D + 0)
  have h55 : (ctr55 (S55 2000)).holds (acall table prims 2000 (D + 2)) := ho55 (D + 1)
  have h56 : (ctr56 (S56 2000)).holds (acall table prims 2000 (D + 2)) := ho56 (D + 0)
  have e1 := acall_succ (tb := table) (pr := prims) (N := 2000) (D := D + 2) (f := 29) (fd := d29) (es := [.v U17 x0, .v U17 x1, .v U2 x2]) rfl rfl rfl
  exact e1.trans (fn_of (fd := d29) (B := V7 × V7 × V7) (ent := fun b => [.own true 30 U14 .no b.1, .own true 30 U14 .no b.2.1, .own true 30 U14 .no b.2.2]) (dr := fun es => ((decC (decO U14) (decC (decO U14) (decC (decO U14) dec0))) es).map fun q => (q.1, q.2.1, q.2.2.1)) (by intro b; kernel_rfl) (fun {R} k => g29 (S43 2000) (S55 2000) (S56 2000) x0 x1 x2 (fun (r0 : V7) (r1 : V7) (r2 : V7) => k (r0, r1, r2))) (fun k => gen29 (S43 2000) (S55 2000) (S56 2000) h43 h55 h56 x0 x1 x2 k))
theorem ho29 (D : Nat) : (ctr29 (S29 2000)).holds (acall table prims 2000 (D + 3)) := fun a => va29 D a.1 a.2.1 a.2.2.1
theorem va10 (D : Nat) (x0 : V7) (x1 : V7) (x2 : Int) : acall table prims 2000 (D + 6) 10 [.v U17 x0, .v U17 x1, .v U2 x2] = (S10 2000 x0 x1 x2).bind fun b => some [.own true 30 U14 .no b.1, .own true 30 U14 .no b.2.1, .v U2 b.2.2] := by
  have h28 : (ctr28 (S28 2000)).holds (acall table prims 2000 (D + 5)) := ho28 (D + 0)
  have h29 : (ctr29 (S29 2000)).holds (acall table prims 2000 (D + 5)) := ho29 (D + 2)
  have e1 := acall_succ (tb := table) (pr := prims) (N := 2000) (D := D + 5) (f := 10) (fd := d10) (es := [.v U17 x0, .v U17 x1, .v U2 x2]) rfl rfl rfl
  exact e1.trans (fn_of (fd := d10) (B := V7 × V7 × Int) (ent := fun b => [.own true 30 U14 .no b.1, .own true 30 U14 .no b.2.1, .v U2 b.2.2]) (dr := fun es => ((decC (decO U14) (decC (decO U14) (decC (decV U2) dec0))) es).map fun q => (q.1, q.2.1, q.2.2.1)) (by intro b; kernel_rfl) (fun {R} k => g10 (S28 2000) (S29 2000) x0 x1 x2 (fun (r0 : V7) (r1 : V7) (r2 : Int) => k (r0, r1, r2))) (fun k => gen10 (S28 2000) (S29 2000) h28 h29 x0 x1 x2 k))
theorem ho10 (D : Nat) : (ctr10 (S10 2000)).holds (acall table prims 2000 (D + 6)) := fun a => va10 D a.1 a.2.1 a.2.2.1
theorem va11 (D : Nat) (x0 : V7) (x1 : V7) (x2 : Int) : acall table prims 2000 (D + 8) 11 [.v U17 x0, .v U17 x1, .v U2 x2] = (S11 2000 x0 x1 x2).bind fun b => some [.own true 30 U14 .no b.1, .v U2 b.2] := by
  have h27 : (ctr27 (S27 2000)).holds (acall table prims 2000 (D + 7)) := ho27 (D + 0)
  have e1 := acall_succ (tb := table) (pr := prims) (N := 2000) (D := D + 7) (f := 11) (fd := d11) (es := [.v U17 x0, .v U17 x1, .v U2 x2]) rfl rfl rfl
  exact e1.trans (fn_of (fd := d11) (B := V7 × Int) (ent := fun b => [.own true 30 U14 .no b.1, .v U2 b.2]) (dr := fun es => ((decC (decO U14) (decC (decV U2) dec0)) es).map fun q => (q.1, q.2.1)) (by intro b; kernel_rfl) (fun {R} k => g11 (S27 2000) x0 x1 x2 (fun (r0 : V7) (r1 : Int) => k (r0, r1))) (fun k => gen11 (S27 2000) h27 x0 x1 x2 k))
theorem ho11 (D : Nat) : (ctr11 (S11 2000)).holds (acall table prims 2000 (D + 8)) := fun a => va11 D a.1 a.2.1 a.2.2.1
theorem va12 (D : Nat) (x0 : V7) (x1 : V7) (x2 : Int) : acall table prims 2000 (D + 6) 12 [.v U17 x0, .v U17 x1, .v U2 x2] = (S12 2000 x0 x1 x2).bind fun b => some [.own true 30 U14 .no b.1, .v U2 b.2] := by
  have h28 : (ctr28 (S28 2000)).holds (acall table prims 2000 (D + 5)) := ho28 (D + 0)
  have h29 : (ctr29 (S29 2000)).holds (acall table prims 2000 (D + 5)) := ho29 (D + 2)
  have e1 := acall_succ (tb := table) (pr := prims) (N := 2000) (D := D + 5) (f := 12) (fd := d12) (es := [.v U17 x0, .v U17 x1, .v U2 x2]) rfl rfl rfl
  exact e1.trans (fn_of (fd := d12) (B := V7 × Int) (ent := fun b => [.own true 30 U14 .no b.1, .v U2 b.2]) (dr := fun es => ((decC (decO U14) (decC (decV U2) dec0)) es).map fun q => (q.1, q.2.1)) (by intro b; kernel_rfl) (fun {R} k => g12 (S28 2000) (S29 2000) x0 x1 x2 (fun (r0 : V7) (r1 : Int) => k (r0, r1))) (fun k => gen12 (S28 2000) (S29 2000) h28 h29 x0 x1 x2 k))
theorem ho12 (D : Nat) : (ctr12 (S12 2000)).holds (acall table prims 2000 (D + 6)) := fun a => va12 D a.1 a.2.1 a.2.2.1
theorem va57 (D : Nat) (x0 : Int) (x1 : Int) : acall table prims 2000 (D + 1) 57 [.v U2 x0, .v U2 x1] = (S57 2000 x0 x1).bind fun b => some [.v U2 b] := by
  have e1 := acall_succ (tb := table) (pr := prims) (N := 2000) (D := D + 0) (f := 57) (fd := d57) (es := [.v U2 x0, .v U2 x1]) rfl rfl rfl
  exact e1.trans (fn_of (fd := d57) (B := Int) (ent := fun b => [.v U2 b]) (dr := fun es => ((decC (decV U2) dec0) es).map fun q => (q.1)) (by intro b; kernel_rfl) (fun {R} k => g57 x0 x1 (fun (r0 : Int) => k (r0))) (fun k => gen57 x0 x1 k))
theorem ho57 (D : Nat) : (ctr57 (S57 2000)).holds (acall table prims 2000 (D + 1)) := fun a => va57 D a.1 a.2.1
theorem va30 (D : Nat) (x0 : V6) (x1 : V6) : acall table prims 2000 (D + 2) 30 [.v U14 x0, .v U14 x1] = (S30 2000 x0 x1).bind fun b => some [.v U2 b] := by
  have h57 : (ctr57 (S57 2000)).holds (acall table prims 2000 (D + 1)) := ho57 (D + 0)
  have e1 := acall_succ (tb := table) (pr := prims) (N := 2000) (D := D + 1) (f := 30) (fd := d30) (es := [.v U14 x0, .v U14 x1]) rfl rfl rfl
  exact e1.trans (fn_of (fd := d30) (B := Int) (ent := fun b => [.v U2 b]) (dr := fun es => ((decC (decV U2) dec0) es).map fun q => (q.1)) (by intro b; kernel_rfl) (fun {R} k => g30 (S57 2000) x0 x1 (fun (r0 : Int) => k (r0))) (fun k => gen30 (S57 2000) h57 x0 x1 k))
theorem ho30 (D : Nat) : (ctr30 (S30 2000)).holds (acall table prims 2000 (D + 2)) := fun a => va30 D a.1 a.2.1
theorem va13 (D : Nat) (x0 : V7) (x1 : V7) : acall table prims 2000 (D + 3) 13 [.v U17 x0, .v U17 x1] = (S13 2000 x0 x1).bind fun b => some [.v .bool b] := by
  have h30 : (ctr30 (S30 2000)).holds (acall table prims 2000 (D + 2)) := ho30 (D + 0)
  have e1 := acall_succ (tb := table) (pr := prims) (N := 2000) (D := D + 2) (f := 13) (fd := d13) (es := [.v U17 x0, .v U17 x1]) rfl rfl rfl
  exact e1.trans (fn_of (fd := d13) (B := Bool) (ent := fun b => [.v .bool b]) (dr := fun es => ((decC (decV .bool) dec0) es).map fun q => (q.1)) (by intro b; kernel_rfl) (fun {R} k => g13 2000 (S30 2000) x0 x1 (fun (r0 : Bool) => k (r0))) (fun k => gen13 (S30 2000) h30 x0 x1 k))
theorem ho13 (D : Nat) : (ctr13 (S13 2000)).holds (acall table prims 2000 (D + 3)) := fun a => va13 D a.1 a.2.1
theorem va3 (D : Nat) (x0 : V7) (x1 : V7) (x2 : Int) : acall table prims 2000 (D + 13) 3 [.v U17 x0, .v U17 x1, .v U2 x2] = (S3 2000 x0 x1 x2).bind fun b => some [.v .bool b] := by
  have h6 : (ctr6 (S6 2000)).holds (acall table prims 2000 (D + 12)) := ho6 (D + 0)
  have h7 : (ctr7 (S7 2000)).holds (acall table prims 2000 (D + 12)) := ho7 (D + 11)
  have h8 : (ctr8 (S8 2000)).holds (acall table prims 2000 (D + 12)) := ho8 (D + 4)
  have h9 : (ctr9 (S9 2000)).holds (acall table prims 2000 (D + 12)) := ho9 (D + 11)
  have h10 : (ctr10 (S10 2000)).holds (acall table prims 2000 (D + 12)) := ho10 (D + 6)
  have h11 : (ctr11 (S11 2000)).holds (acall table prims 2000 (D + 12)) := ho11 (D + 4)
  have h12 : (ctr12 (S12 2000)).holds (acall table prims 2000 (D + 12)) := ho12 (D + 6)
  have h13 : (ctr13 (S13 2000)).holds (acall table prims 2000 (D + 12)) := ho13 (D + 9)
  have e1 := acall_succ (tb := table) (pr := prims) (N := 2000) (D := D + 12) (f := 3) (fd := d3) (es := [.v U17 x0, .v U17 x1, .v U2 x2]) rfl rfl rfl
  exact e1.trans (fn_of (fd := d3) (B := Bool) (ent := fun b => [.v .bool b]) (dr := fun es => ((decC (decV .bool) dec0) es).map fun q => (q.1)) (by intro b; kernel_rfl) (fun {R} k => g3 (S6 2000) (S7 2000) (S8 2000) (S9 2000) (S10 2000) (S11 2000) (S12 2000) (S13 2000) x0 x1 x2 (fun (r0 : Bool) => k (r0))) (fun k => gen3 (S6 2000) (S7 2000) (S8 2000) (S9 2000) (S10 2000) (S11 2000) (S12 2000) (S13 2000) h6 h7 h8 h9 h10 h11 h12 h13 x0 x1 x2 k))
theorem ho3 (D : Nat) : (ctr3 (S3 2000)).holds (acall table prims 2000 (D + 13)) := fun a => va3 D a.1 a.2.1 a.2.2.1
end Go.Fw.L19
