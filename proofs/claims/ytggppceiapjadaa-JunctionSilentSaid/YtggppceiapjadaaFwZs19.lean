/- Printed by an own program for this claim: the machine's code of functions, or their typed forms with their equations; no conditions. -/
import Derived.Test.YtggppceiapjadaaFwMs19
import Derived.Test.YtggppceiapjadaaFwB5
import Derived.Test.YtggppceiapjadaaFwXs19
set_option linter.unusedVariables false
set_option linter.unusedSimpArgs false
namespace Go.Fw.L19
open Go Go.Fw
set_option maxRecDepth 100000
theorem ho23 (D : Nat) : (ctr23 (S23 2000)).holds (acall table prims 2000 (D + 1)) := prim_holds rfl (by intro a; kernel_rfl)
theorem ho49 (D : Nat) : (ctr49 (S49 2000)).holds (acall table prims 2000 (D + 1)) := prim_holds rfl (by intro a; kernel_rfl)
theorem ho109 (D : Nat) : (ctr109 (S109 2000)).holds (acall table prims 2000 (D + 1)) := prim_holds rfl (by intro a; kernel_rfl)
theorem ho8 (D : Nat) : (ctr8 (S8 2000)).holds (acall table prims 2000 (D + 12)) := fun a => fd8 D
theorem va34 (D : Nat) (x0 : Int) : acall table prims 2000 (D + 1) 34 [.v U0 x0] = (S34 2000 x0).bind fun b => some [.v U15 b] := by
  have e1 := acall_succ (tb := table) (pr := prims) (N := 2000) (D := D + 0) (f := 34) (fd := d34) (es := [.v U0 x0]) rfl rfl rfl
  exact e1.trans (fn_of (fd := d34) (B := V6) (ent := fun b => [.v U15 b]) (dr := fun es => ((decC (decV U15) dec0) es).map fun q => (q.1)) (by intro b; kernel_rfl) (fun {R} k => g34 x0 (fun (r0 : V6) => k (r0))) (fun k => gen34 x0 k))
theorem ho34 (D : Nat) : (ctr34 (S34 2000)).holds (acall table prims 2000 (D + 1)) := fun a => va34 D a.1
theorem va10 (D : Nat) (x0 : V0) : acall table prims 2000 (D + 2) 10 [.v U4 x0] = (S10 2000 x0).bind fun b => some [.own true 55 U15 .no b] := by
  have h34 : (ctr34 (S34 2000)).holds (acall table prims 2000 (D + 1)) := ho34 (D + 0)
  have e1 := acall_succ (tb := table) (pr := prims) (N := 2000) (D := D + 1) (f := 10) (fd := d10) (es := [.v U4 x0]) rfl rfl rfl
  exact e1.trans (fn_of (fd := d10) (B := V8) (ent := fun b => [.own true 55 U15 .no b]) (dr := fun es => ((decC (decO U15) dec0) es).map fun q => (q.1)) (by intro b; kernel_rfl) (fun {R} k => g10 2000 (S34 2000) x0 (fun (r0 : V8) => k (r0))) (fun k => gen10 (S34 2000) h34 x0 k))
theorem ho10 (D : Nat) : (ctr10 (S10 2000)).holds (acall table prims 2000 (D + 2)) := fun a => va10 D a.1
theorem va90 (D : Nat) (x0 : V6) : acall table prims 2000 (D + 1) 90 [.v U15 x0] = (S90 2000 x0).bind fun b => some [.v .bool b] := by
  have e1 := acall_succ (tb := table) (pr := prims) (N := 2000) (D := D + 0) (f := 90) (fd := d90) (es := [.v U15 x0]) rfl rfl rfl
  exact e1.trans (fn_of (fd := d90) (B := Bool) (ent := fun b => [.v .bool b]) (dr := fun es => ((decC (decV .bool) dec0) es).map fun q => (q.1)) (by intro b; kernel_rfl) (fun {R} k => g90 x0 (fun (r0 : Bool) => k (r0))) (fun k => gen90 x0 k))
theorem ho90 (D : Nat) : (ctr90 (S90 2000)).holds (acall table prims 2000 (D + 1)) := fun a => va90 D a.1
theorem va93 (D : Nat) (x0 : Int) : acall table prims 2000 (D + 1) 93 [.v U3 x0] = (S93 2000 x0).bind fun b => some [.v .bool b] := by
  have e1 := acall_succ (tb := table) (pr := prims) (N := 2000) (D := D + 0) (f := 93) (fd := d93) (es := [.v U3 x0]) rfl rfl rfl
  exact e1.trans (fn_of (fd := d93) (B := Bool) (ent := fun b => [.v .bool b]) (dr := fun es => ((decC (decV .bool) dec0) es).map fun q => (q.1)) (by intro b; kernel_rfl) (fun {R} k => g93 x0 (fun (r0 : Bool) => k (r0))) (fun k => gen93 x0 k))
theorem ho93 (D : Nat) : (ctr93 (S93 2000)).holds (acall table prims 2000 (D + 1)) := fun a => va93 D a.1
theorem va92 (D : Nat) (x0 : Int) : acall table prims 2000 (D + 2) 92 [.v U3 x0] = (S92 2000 x0).bind fun b => some [.v .bool b] := by
  have h93 : (ctr93 (S93 2000)).holds (acall table prims 2000 (D + 1)) := ho93 (D + 0)
  have e1 := acall_succ (tb := table) (pr := prims) (N := 2000) (D := D + 1) (f := 92) (fd := d92) (es := [.v U3 x0]) rfl rfl rfl
  exact e1.trans (fn_of (fd := d92) (B := Bool) (ent := fun b => [.v .bool b]) (dr := fun es => ((decC (decV .bool) dec0) es).map fun q => (q.1)) (by intro b; kernel_rfl) (fun {R} k => g92 (S93 2000) x0 (fun (r0 : Bool) => k (r0))) (fun k => gen92 (S93 2000) h93 x0 k))
theorem ho92 (D : Nat) : (ctr92 (S92 2000)).holds (acall table prims 2000 (D + 2)) := fun a => va92 D a.1
theorem va108 (D : Nat) (x0 : V1) (x1 : V4) (x2 : Bool) : acall table prims 2000 (D + 1) 108 [.v .str x0, .v U10 x1, .v .bool x2] = (S108 2000 x0 x1 x2).bind fun b => some [.v U2 b] := by
  have e1 := acall_succ (tb := table) (pr := prims) (N := 2000) (D := D + 0) (f := 108) (fd := d108) (es := [.v .str x0, .v U10 x1, .v .bool x2]) rfl rfl rfl
  exact e1.trans (fn_of (fd := d108) (B := Int) (ent := fun b => [.v U2 b]) (dr := fun es => ((decC (decV U2) dec0) es).map fun q => (q.1)) (by intro b; kernel_rfl) (fun {R} k => g108 2000 x0 x1 x2 (fun (r0 : Int) => k (r0))) (fun k => gen108 x0 x1 x2 k))
theorem ho108 (D : Nat) : (ctr108 (S108 2000)).holds (acall table prims 2000 (D + 1)) := fun a => va108 D a.1 a.2.1 a.2.2.1
theorem va101 (D : Nat) (x0 : V1) (x1 : V4) : acall table prims 2000 (D + 2) 101 [.v .str x0, .v U10 x1] = (S101 2000 x0 x1).bind fun b => some [.v U2 b] := by
  have h108 : (ctr108 (S108 2000)).holds (acall table prims 2000 (D + 1)) := ho108 (D + 0)
  have e1 := acall_succ (tb := table) (pr := prims) (N := 2000) (D := D + 1) (f := 101) (fd := d101) (es := [.v .str x0, .v U10 x1]) rfl rfl rfl
  exact e1.trans (fn_of (fd := d101) (B := Int) (ent := fun b => [.v U2 b]) (dr := fun es => ((decC (decV U2) dec0) es).map fun q => (q.1)) (by intro b; kernel_rfl) (fun {R} k => g101 (S108 2000) x0 x1 (fun (r0 : Int) => k (r0))) (fun k => gen101 (S108 2000) h108 x0 x1 k))
theorem ho101 (D : Nat) : (ctr101 (S101 2000)).holds (acall table prims 2000 (D + 2)) := fun a => va101 D a.1 a.2.1
theorem va91 (D : Nat) (x0 : V1) (x1 : V4) : acall table prims 2000 (D + 3) 91 [.v .str x0, .v U10 x1] = (S91 2000 x0 x1).bind fun b => some [.v .bool b] := by
  have h101 : (ctr101 (S101 2000)).holds (acall table prims 2000 (D + 2)) := ho101 (D + 0)
  have e1 := acall_succ (tb := table) (pr := prims) (N := 2000) (D := D + 2) (f := 91) (fd := d91) (es := [.v .str x0, .v U10 x1]) rfl rfl rfl
  exact e1.trans (fn_of (fd := d91) (B := Bool) (ent := fun b => [.v .bool b]) (dr := fun es => ((decC (decV .bool) dec0) es).map fun q => (q.1)) (by intro b; kernel_rfl) (fun {R} k => g91 (S101 2000) x0 x1 (fun (r0 : Bool) => k (r0))) (fun k => gen91 (S101 2000) h101 x0 x1 k))
theorem ho91 (D : Nat) : (ctr91 (S91 2000)).holds (acall table prims 2000 (D + 3)) := fun a => va91 D a.1 a.2.1
theorem va75 (D : Nat) (x0 : V6) : acall table prims 2000 (D + 4) 75 [.v U15 x0] = (S75 2000 x0).bind fun b => some [.v U2 b] := by
  have h90 : (ctr90 (S90 2000)).holds (acall table prims 2000 (D + 3)) := ho90 (D + 2)
  have h91 : (ctr91 (S91 2000)).holds (acall table prims 2000 (D + 3)) := ho91 (D + 0)
  have h92 : (ctr92 (S92 2000)).holds (acall table prims 2000 (D + 3)) := ho92 (D + 1)
  have e1 := acall_succ (tb := table) (pr := prims) (N := 2000) (D := D + 3) (f := 75) (fd := d75) (es := [.v U15 x0]) rfl rfl rfl
  exact e1.trans (fn_of (fd := d75) (B := Int) (ent := fun b => [.v U2 b]) (dr := fun es => ((decC (decV U2) dec0) es).map fun q => (q.1)) (by intro b; kernel_rfl) (fun {R} k => g75 (S90 2000) (S91 2000) (S92 2000) x0 (fun (r0 : Int) => k (r0))) (fun k => gen75 (S90 2000) (S91 2000) (S92 2000) h90 h91 h92 x0 k))
theorem ho75 (D : Nat) : (ctr75 (S75 2000)).holds (acall table prims 2000 (D + 4)) := fun a => va75 D a.1
theorem va55 (D : Nat) (x0 : V8) : acall table prims 2000 (D + 5) 55 [.v U17 x0] = (S55 2000 x0).bind fun b => some [.v U2 b] := by
  have h75 : (ctr75 (S75 2000)).holds (acall table prims 2000 (D + 4)) := ho75 (D + 0)
  have e1 := acall_succ (tb := table) (pr := prims) (N := 2000) (D := D + 4) (f := 55) (fd := d55) (es := [.v U17 x0]) rfl rfl rfl
  exact e1.trans (fn_of (fd := d55) (B := Int) (ent := fun b => [.v U2 b]) (dr := fun es => ((decC (decV U2) dec0) es).map fun q => (q.1)) (by intro b; kernel_rfl) (fun {R} k => g55 2000 (S75 2000) x0 (fun (r0 : Int) => k (r0))) (fun k => gen55 (S75 2000) h75 x0 k))
theorem ho55 (D : Nat) : (ctr55 (S55 2000)).holds (acall table prims 2000 (D + 5)) := fun a => va55 D a.1
theorem va36 (D : Nat) (x0 : V8) (x1 : V8) : acall table prims 2000 (D + 6) 36 [.v U17 x0, .v U17 x1] = (S36 2000 x0 x1).bind fun b => some [.v U2 b] := by
  have h55 : (ctr55 (S55 2000)).holds (acall table prims 2000 (D + 5)) := ho55 (D + 0)
  have e1 := acall_succ (tb := table) (pr := prims) (N := 2000) (D := D + 5) (f := 36) (fd := d36) (es := [.v U17 x0, .v U17 x1]) rfl rfl rfl
  exact e1.trans (fn_of (fd := d36) (B := Int) (ent := fun b => [.v U2 b]) (dr := fun es => ((decC (decV U2) dec0) es).map fun q => (q.1)) (by intro b; kernel_rfl) (fun {R} k => g36 (S55 2000) x0 x1 (fun (r0 : Int) => k (r0))) (fun k => gen36 (S55 2000) h55 x0 x1 k))
theorem ho36 (D : Nat) : (ctr36 (S36 2000)).holds (acall table prims 2000 (D + 6)) := fun a => va36 D a.1 a.2.1
theorem va43 (D : Nat) (x0 : V6) : acall table prims 2000 (D + 1) 43 [.v U15 x0] = (S43 2000 x0).bind fun b => some [.v .bool b] := by
  have e1 := acall_succ (tb := table) (pr := prims) (N := 2000) (D := D + 0) (f := 43) (fd := d43) (es := [.v U15 x0]) rfl rfl rfl
  exact e1.trans (fn_of (fd := d43) (B := Bool) (ent := fun b => [.v .bool b]) (dr := fun es => ((decC (decV .bool) dec0) es).map fun q => (q.1)) (by intro b; kernel_rfl) (fun {R} k => g43 x0 (fun (r0 : Bool) => k (r0))) (fun k => gen43 x0 k))
theorem ho43 (D : Nat) : (ctr43 (S43 2000)).holds (acall table prims 2000 (D + 1)) := fun a => va43 D a.1
theorem va14 (D : Nat) (x0 : V8) : acall table prims 2000 (D + 2) 14 [.v U17 x0] = (S14 2000 x0).bind fun b => some [.v U2 b] := by
  have h43 : (ctr43 (S43 2000)).holds (acall table prims 2000 (D + 1)) := ho43 (D + 0)
  have e1 := acall_succ (tb := table) (pr := prims) (N := 2000) (D := D + 1) (f := 14) (fd := d14) (es := [.v U17 x0]) rfl rfl rfl
  exact e1.trans (fn_of (fd := d14) (B := Int) (ent := fun b => [.v U2 b]) (dr := fun es => ((decC (decV U2) dec0) es).map fun q => (q.1)) (by intro b; kernel_rfl) (fun {R} k => g14 (S43 2000) x0 (fun (r0 : Int) => k (r0))) (fun k => gen14 (S43 2000) h43 x0 k))
theorem ho14 (D : Nat) : (ctr14 (S14 2000)).holds (acall table prims 2000 (D + 2)) := fun a => va14 D a.1
theorem va62 (D : Nat) (x0 : V6) : acall table prims 2000 (D + 1) 62 [.v U15 x0] = (S62 2000 x0).bind fun b => some [.v .bool b] := by
  have e1 := acall_succ (tb := table) (pr := prims) (N := 2000) (D := D + 0) (f := 62) (fd := d62) (es := [.v U15 x0]) rfl rfl rfl
  exact e1.trans (fn_of (fd := d62) (B := Bool) (ent := fun b => [.v .bool b]) (dr := fun es => ((decC (decV .bool) dec0) es).map fun q => (q.1)) (by intro b; kernel_rfl) (fun {R} k => g62 x0 (fun (r0 : Bool) => k (r0))) (fun k => gen62 x0 k))
theorem ho62 (D : Nat) : (ctr62 (S62 2000)).holds (acall table prims 2000 (D + 1)) := fun a => va62 D a.1
theorem va61 (D : Nat) (x0 : V8) (x1 : V12) : acall table prims 2000 (D + 1) 61 [.v U17 x0, .v U23 x1] = (S61 2000 x0 x1).bind fun b => some [.v U2 b] := by
  have e1 := acall_succ (tb := table) (pr := prims) (N := 2000) (D := D + 0) (f := 61) (fd := d61) (es := [.v U17 x0, .v U23 x1]) rfl rfl rfl
  exact e1.trans (fn_of (fd := d61) (B := Int) (ent := fun b => [.v U2 b]) (dr := fun es => ((decC (decV U2) dec0) es).map fun q => (q.1)) (by intro b; kernel_rfl) (fun {R} k => g61 2000 x0 x1 (fun (r0 : Int) => k (r0))) (fun k => gen61 x0 x1 k))
theorem ho61 (D : Nat) : (ctr61 (S61 2000)).holds (acall table prims 2000 (D + 1)) := fun a => va61 D a.1 a.2.1
theorem va42 (D : Nat) (x0 : V8) : acall table prims 2000 (D + 2) 42 [.v U17 x0] = (S42 2000 x0).bind fun b => some [.v U2 b] := by
  have h61 : (ctr61 (S61 2000)).holds (acall table prims 2000 (D + 1)) := ho61 (D + 0)
  have h62 : (ctr62 (S62 2000)).holds (acall table prims 2000 (D + 1)) := ho62 (D + 0)
  have e1 := acall_succ (tb := table) (pr := prims) (N := 2000) (D := D + 1) (f := 42) (fd := d42) (es := [.v U17 x0]) rfl rfl rfl
  exact e1.trans (fn_of (fd := d42) (B := Int) (ent := fun b => [.v U2 b]) (dr := fun es => ((decC (decV U2) dec0) es).map fun q => (q.1)) (by intro b; kernel_rfl) (fun {R} k => g42 (S61 2000) (S62 2000) x0 (fun (r0 : Int) => k (r0))) (fun k => gen42 (S61 2000) (S62 2000) h61 h62 x0 k))
theorem ho42 (D : Nat) : (ctr42 (S42 2000)).holds (acall table prims 2000 (D + 2)) := fun a => va42 D a.1
theorem va13 (D : Nat) (x0 : V8) : acall table prims 2000 (D + 3) 13 [.v U17 x0] = (S13 2000 x0).bind fun b => some [.v .bool b] := by
  have h42 : (ctr42 (S42 2000)).holds (acall table prims 2000 (D + 2)) := ho42 (D + 0)
  have h43 : (ctr43 (S43 2000)).holds (acall table prims 2000 (D + 2)) := ho43 (D + 1)
  have e1 := acall_succ (tb := table) (pr := prims) (N := 2000) (D := D + 2) (f := 13) (fd := d13) (es := [.v U17 x0]) rfl rfl rfl
  exact e1.trans (fn_of (fd := d13) (B := Bool) (ent := fun b => [.v .bool b]) (dr := fun es => ((decC (decV .bool) dec0) es).map fun q => (q.1)) (by intro b; kernel_rfl) (fun {R} k => g13 (S42 2000) (S43 2000) x0 (fun (r0 : Bool) => k (r0))) (fun k => gen13 (S42 2000) (S43 2000) h42 h43 x0 k))
theorem ho13 (D : Nat) : (ctr13 (S13 2000)).holds (acall table prims 2000 (D + 3)) := fun a => va13 D a.1
theorem va37 (D : Nat) (x0 : V8) (x1 : V8) : acall table prims 2000 (D + 4) 37 [.v U17 x0, .v U17 x1] = (S37 2000 x0 x1).bind fun b => some [.own true 3 U2 .no b] := by
  have h13 : (ctr13 (S13 2000)).holds (acall table prims 2000 (D + 3)) := ho13 (D + 0)
  have h14 : (ctr14 (S14 2000)).holds (acall table prims 2000 (D + 3)) := ho14 (D + 1)
  have e1 := acall_succ (tb := table) (pr := prims) (N := 2000) (D := D + 3) (f := 37) (fd := d37) (es := [.v U17 x0, .v U17 x1]) rfl rfl rfl
  exact e1.trans (fn_of (fd := d37) (B := V0) (ent := fun b => [.own true 3 U2 .no b]) (dr := fun es => ((decC (decO U2) dec0) es).map fun q => (q.1)) (by intro b; kernel_rfl) (fun {R} k => g37 (S13 2000) (S14 2000) x0 x1 (fun (r0 : V0) => k (r0))) (fun k => gen37 (S13 2000) (S14 2000) h13 h14 x0 x1 k))
theorem ho37 (D : Nat) : (ctr37 (S37 2000)).holds (acall table prims 2000 (D + 4)) := fun a => va37 D a.1 a.2.1
theorem va80 (D : Nat) (x0 : V0) (x1 : Int) : acall table prims 2000 (D + 1) 80 [.v U5 x0, .v U2 x1] = (S80 2000 x0 x1).bind fun b => some [.v U2 b] := by
  have e1 := acall_succ (tb := table) (pr := prims) (N := 2000) (D := D + 0) (f := 80) (fd := d80) (es := [.v U5 x0, .v U2 x1]) rfl rfl rfl
  exact e1.trans (fn_of (fd := d80) (B := Int) (ent := fun b => [.v U2 b]) (dr := fun es => ((decC (decV U2) dec0) es).map fun q => (q.1)) (by intro b; kernel_rfl) (fun {R} k => g80 2000 x0 x1 (fun (r0 : Int) => k (r0))) (fun k => gen80 x0 x1 k))
theorem ho80 (D : Nat) : (ctr80 (S80 2000)).holds (acall table prims 2000 (D + 1)) := fun a => va80 D a.1 a.2.1
theorem va63 (D : Nat) (x0 : V0) (x1 : Int) : acall table prims 2000 (D + 2) 63 [.v U5 x0, .v U2 x1] = (S63 2000 x0 x1).bind fun b => some [.v .bool b] := by
  have h80 : (ctr80 (S80 2000)).holds (acall table prims 2000 (D + 1)) := ho80 (D + 0)
  have e1 := acall_succ (tb := table) (pr := prims) (N := 2000) (D := D + 1) (f := 63) (fd := d63) (es := [.v U5 x0, .v U2 x1]) rfl rfl rfl
  exact e1.trans (fn_of (fd := d63) (B := Bool) (ent := fun b => [.v .bool b]) (dr := fun es => ((decC (decV .bool) dec0) es).map fun q => (q.1)) (by intro b; kernel_rfl) (fun {R} k => g63 (S80 2000) x0 x1 (fun (r0 : Bool) => k (r0))) (fun k => gen63 (S80 2000) h80 x0 x1 k))
theorem ho63 (D : Nat) : (ctr63 (S63 2000)).holds (acall table prims 2000 (D + 2)) := fun a => va63 D a.1 a.2.1
theorem va44 (D : Nat) (x0 : V8) (x1 : V8) (x2 : Int) : acall table prims 2000 (D + 7) 44 [.v U17 x0, .v U17 x1, .v U2 x2] = (S44 2000 x0 x1 x2).bind fun b => some [.v U17 b.1, .own true 55 U15 .no b.2.1, .own true 55 U15 .no b.2.2.1, .v U2 b.2.2.2] := by
  have h14 : (ctr14 (S14 2000)).holds (acall table prims 2000 (D + 6)) := ho14 (D + 4)
  have h23 : (ctr23 (S23 2000)).holds (acall table prims 2000 (D + 6)) := ho23 (D + 5)
  have h36 : (ctr36 (S36 2000)).holds (acall table prims 2000 (D + 6)) := ho36 (D + 0)
  have h37 : (ctr37 (S37 2000)).holds (acall table prims 2000 (D + 6)) := ho37 (D + 2)
  have h42 : (ctr42 (S42 2000)).holds (acall table prims 2000 (D + 6)) := ho42 (D + 4)
  have h63 : (ctr63 (S63 2000)).holds (acall table prims 2000 (D + 6)) := ho63 (D + 4)
  have e1 := acall_succ (tb := table) (pr := prims) (N := 2000) (D := D + 6) (f := 44) (fd := d44) (es := [.v U17 x0, .v U17 x1, .v U2 x2]) rfl rfl rfl
  exact e1.trans (fn_of (fd := d44) (B := V8 × V8 × V8 × Int) (ent := fun b => [.v U17 b.1, .own true 55 U15 .no b.2.1, .own true 55 U15 .no b.2.2.1, .v U2 b.2.2.2]) (dr := fun es => ((decC (decV U17) (decC (decO U15) (decC (decO U15) (decC (decV U2) dec0)))) es).map fun q => (q.1, q.2.1, q.2.2.1, q.2.2.2.1)) (by intro b; kernel_rfl) (fun {R} k => g44 (S14 2000) (S23 2000) (S36 2000) (S37 2000) (S42 2000) (S63 2000) x0 x1 x2 (fun (r0 : V8) (r1 : V8) (r2 : V8) (r3 : Int) => k (r0, r1, r2, r3))) (fun k => gen44 (S14 2000) (S23 2000) (S36 2000) (S37 2000) (S42 2000) (S63 2000) h14 h23 h36 h37 h42 h63 x0 x1 x2 k))
theorem ho44 (D : Nat) : (ctr44 (S44 2000)).holds (acall table prims 2000 (D + 7)) := fun a => va44 D a.1 a.2.1 a.2.2.1
theorem va16 (D : Nat) (x0 : V8) (x1 : V8) (x2 : Int) : acall table prims 2000 (D + 8) 16 [.v U17 x0, .v U17 x1, .v U2 x2] = (S16 2000 x0 x1 x2).bind fun b => some [.v U17 b.1, .own true 55 U15 .no b.2.1, .v U2 b.2.2] := by
  have h44 : (ctr44 (S44 2000)).holds (acall table prims 2000 (D + 7)) := ho44 (D + 0)
  have e1 := acall_succ (tb := table) (pr := prims) (N := 2000) (D := D + 7) (f := 16) (fd := d16) (es := [.v U17 x0, .v U17 x1, .v U2 x2]) rfl rfl rfl
  exact e1.trans (fn_of (fd := d16) (B := V8 × V8 × Int) (ent := fun b => [.v U17 b.1, .own true 55 U15 .no b.2.1, .v U2 b.2.2]) (dr := fun es => ((decC (decV U17) (decC (decO U15) (decC (decV U2) dec0))) es).map fun q => (q.1, q.2.1, q.2.2.1)) (by intro b; kernel_rfl) (fun {R} k => g16 (S44 2000) x0 x1 x2 (fun (r0 : V8) (r1 : V8) (r2 : Int) => k (r0, r1, r2))) (fun k => gen16 (S44 2000) h44 x0 x1 x2 k))
theorem ho16 (D : Nat) : (ctr16 (S16 2000)).holds (acall table prims 2000 (D + 8)) := fun a => va16 D a.1 a.2.1 a.2.2.1
theorem va28 (D : Nat) (x0 : V8) (x1 : V8) (x2 : Int) : acall table prims 2000 (D + 8) 28 [.v U17 x0, .v U17 x1, .v U2 x2] = (S28 2000 x0 x1 x2).bind fun b => some [.own true 55 U15 .no b.1, .v U2 b.2] := by
  have h44 : (ctr44 (S44 2000)).holds (acall table prims 2000 (D + 7)) := ho44 (D + 0)
  have e1 := acall_succ (tb := table) (pr := prims) (N := 2000) (D := D + 7) (f := 28) (fd := d28) (es := [.v U17 x0, .v U17 x1, .v U2 x2]) rfl rfl rfl
  exact e1.trans (fn_of (fd := d28) (B := V8 × Int) (ent := fun b => [.own true 55 U15 .no b.1, .v U2 b.2]) (dr := fun es => ((decC (decO U15) (decC (decV U2) dec0)) es).map fun q => (q.1, q.2.1)) (by intro b; kernel_rfl) (fun {R} k => g28 (S44 2000) x0 x1 x2 (fun (r0 : V8) (r1 : Int) => k (r0, r1))) (fun k => gen28 (S44 2000) h44 x0 x1 x2 k))
theorem ho28 (D : Nat) : (ctr28 (S28 2000)).holds (acall table prims 2000 (D + 8)) := fun a => va28 D a.1 a.2.1 a.2.2.1
theorem va64 (D : Nat) (x0 : Int) (x1 : Int) : acall table prims 2000 (D + 1) 64 [.v U2 x0, .v U2 x1] = (S64 2000 x0 x1).bind fun b => some [.v U2 b] := by
  have e1 := acall_succ (tb := table) (pr := prims) (N := 2000) (D := D + 0) (f := 64) (fd := d64) (es := [.v U2 x0, .v U2 x1]) rfl rfl rfl
  exact e1.trans (fn_of (fd := d64) (B := Int) (ent := fun b => [.v U2 b]) (dr := fun es => ((decC (decV U2) dec0) es).map fun q => (q.1)) (by intro b; kernel_rfl) (fun {R} k => g64 x0 x1 (fun (r0 : Int) => k (r0))) (fun k => gen64 x0 x1 k))
theorem ho64 (D : Nat) : (ctr64 (S64 2000)).holds (acall table prims 2000 (D + 1)) := fun a => va64 D a.1 a.2.1
theorem va48 (D : Nat) (x0 : V6) (x1 : V6) : acall table prims 2000 (D + 2) 48 [.v U15 x0, .v U15 x1] = (S48 2000 x0 x1).bind fun b => some [.v U2 b] := by
  have h64 : (ctr64 (S64 2000)).holds (acall table prims 2000 (D + 1)) := ho64 (D + 0)
  have e1 := acall_succ (tb := table) (pr := prims) (N := 2000) (D := D + 1) (f := 48) (fd := d48) (es := [.v U15 x0, .v U15 x1]) rfl rfl rfl
  exact e1.trans (fn_of (fd := d48) (B := Int) (ent := fun b => [.v U2 b]) (dr := fun es => ((decC (decV U2) dec0) es).map fun q => (q.1)) (by intro b; kernel_rfl) (fun {R} k => g48 (S64 2000) x0 x1 (fun (r0 : Int) => k (r0))) (fun k => gen48 (S64 2000) h64 x0 x1 k))
theorem ho48 (D : Nat) : (ctr48 (S48 2000)).holds (acall table prims 2000 (D + 2)) := fun a => va48 D a.1 a.2.1
theorem va29 (D : Nat) (x0 : V8) (x1 : V8) : acall table prims 2000 (D + 3) 29 [.v U17 x0, .v U17 x1] = (S29 2000 x0 x1).bind fun b => some [.v .bool b] := by
  have h48 : (ctr48 (S48 2000)).holds (acall table prims 2000 (D + 2)) := ho48 (D + 0)
  have e1 := acall_succ (tb := table) (pr := prims) (N := 2000) (D := D + 2) (f := 29) (fd := d29) (es := [.v U17 x0, .v U17 x1]) rfl rfl rfl
  exact e1.trans (fn_of (fd := d29) (B := Bool) (ent := fun b => [.v .bool b]) (dr := fun es => ((decC (decV .bool) dec0) es).map fun q => (q.1)) (by intro b; kernel_rfl) (fun {R} k => g29 2000 (S48 2000) x0 x1 (fun (r0 : Bool) => k (r0))) (fun k => gen29 (S48 2000) h48 x0 x1 k))
theorem ho29 (D : Nat) : (ctr29 (S29 2000)).holds (acall table prims 2000 (D + 3)) := fun a => va29 D a.1 a.2.1
theorem va30 (D : Nat) (x0 : V10) : acall table prims 2000 (D + 2) 30 [.v U20 x0] = (S30 2000 x0).bind fun b => some [.own true 55 U15 .no b] := by
  have h49 : (ctr49 (S49 2000)).holds (acall table prims 2000 (D + 1)) := ho49 (D + 0)
  have e1 := acall_succ (tb := table) (pr := prims) (N := 2000) (D := D + 1) (f := 30) (fd := d30) (es := [.v U20 x0]) rfl rfl rfl
  exact e1.trans (fn_of (fd := d30) (B := V8) (ent := fun b => [.own true 55 U15 .no b]) (dr := fun es => ((decC (decO U15) dec0) es).map fun q => (q.1)) (by intro b; kernel_rfl) (fun {R} k => g30 2000 (S49 2000) x0 (fun (r0 : V8) => k (r0))) (fun k => gen30 (S49 2000) h49 x0 k))
theorem ho30 (D : Nat) : (ctr30 (S30 2000)).holds (acall table prims 2000 (D + 2)) := fun a => va30 D a.1
theorem va7 (D : Nat) (x0 : V0) (x1 : V0) (x2 : Int) : acall table prims 2000 (D + 13) 7 [.v U4 x0, .v U4 x1, .v U0 x2] = (S7 2000 x0 x1 x2).bind fun b => some [.v .bool b] := by
  have h8 : (ctr8 (S8 2000)).holds (acall table prims 2000 (D + 12)) := ho8 (D + 0)
  have h10 : (ctr10 (S10 2000)).holds (acall table prims 2000 (D + 12)) := ho10 (D + 10)
  have h16 : (ctr16 (S16 2000)).holds (acall table prims 2000 (D + 12)) := ho16 (D + 4)
  have h28 : (ctr28 (S28 2000)).holds (acall table prims 2000 (D + 12)) := ho28 (D + 4)
  have h29 : (ctr29 (S29 2000)).holds (acall table prims 2000 (D + 12)) := ho29 (D + 9)
  have h30 : (ctr30 (S30 2000)).holds (acall table prims 2000 (D + 12)) := ho30 (D + 10)
  have e1 := acall_succ (tb := table) (pr := prims) (N := 2000) (D := D + 12) (f := 7) (fd := d7) (es := [.v U4 x0, .v U4 x1, .v U0 x2]) rfl rfl rfl
  exact e1.trans (fn_of (fd := d7) (B := Bool) (ent := fun b => [.v .bool b]) (dr := fun es => ((decC (decV .bool) dec0) es).map fun q => (q.1)) (by intro b; kernel_rfl) (fun {R} k => g7 (S8 2000) (S10 2000) (S16 2000) (S28 2000) (S29 2000) (S30 2000) x0 x1 x2 (fun (r0 : Bool) => k (r0))) (fun k => gen7 (S8 2000) (S10 2000) (S16 2000) (S28 2000) (S29 2000) (S30 2000) h8 h10 h16 h28 h29 h30 x0 x1 x2 k))
theorem ho7 (D : Nat) : (ctr7 (S7 2000)).holds (acall table prims 2000 (D + 13)) := fun a => va7 D a.1 a.2.1 a.2.2.1
end Go.Fw.L19
