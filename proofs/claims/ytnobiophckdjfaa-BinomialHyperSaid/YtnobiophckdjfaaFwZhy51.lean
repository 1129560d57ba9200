/- Printed by an own program for this claim: the machine's code of functions, or their typed forms with their equations; no conditions. -/
import Derived.Test.YtnobiophckdjfaaFwMhy51
import Derived.Test.YtnobiophckdjfaaFwB5
import Derived.Test.YtnobiophckdjfaaFwXhy51
set_option linter.unusedVariables false
set_option linter.unusedSimpArgs false
namespace Go.Fw.L51
open Go Go.Fw
set_option maxRecDepth 100000
theorem ho117 (D : Nat) : (ctr117 (S117 2000)).holds (acall table prims 2000 (D + 1)) := prim_holds rfl (by intro a; kernel_rfl)
theorem ho120 (D : Nat) : (ctr120 (S120 2000)).holds (acall table prims 2000 (D + 1)) := prim_holds rfl (by intro a; kernel_rfl)
theorem ho11 (D : Nat) : (ctr11 (S11 2000)).holds (acall table prims 2000 (D + 11)) := fun a => fd11 D
theorem va62 (D : Nat) (x0 : Int) (x1 : Int) (x2 : Int) (x3 : Int) : acall table prims 2000 (D + 1) 62 [.v U1 x0, .v U1 x1, .v U1 x2, .v U1 x3] = (S62 2000 x0 x1 x2 x3).bind fun b => some [.v U1 b] := by
  have e1 := acall_succ (tb := table) (pr := prims) (N := 2000) (D := D + 0) (f := 62) (fd := d62) (es := [.v U1 x0, .v U1 x1, .v U1 x2, .v U1 x3]) rfl rfl rfl rfl
  exact e1.trans (fn_of (fd := d62) (B := Int) (ent := fun b => [.v U1 b]) (dr := fun es => ((decC (decV U1) dec0) es).map fun q => (q.1)) (by intro b; kernel_rfl) (fun {R} k => g62 x0 x1 x2 x3 (fun (r0 : Int) => k (r0))) (fun k => gen62 x0 x1 x2 x3 k))
theorem ho62 (D : Nat) : (ctr62 (S62 2000)).holds (acall table prims 2000 (D + 1)) := fun a => va62 D a.1 a.2.1 a.2.2.1 a.2.2.2.1
theorem va118 (D : Nat) (x0 : V0) : acall table prims 2000 (D + 1) 118 [.v U2 x0] = (S118 2000 x0).bind fun b => some [.v U2 b] := by
  have e1 := acall_succ (tb := table) (pr := prims) (N := 2000) (D := D + 0) (f := 118) (fd := d118) (es := [.v U2 x0]) rfl rfl rfl rfl
  exact e1.trans (fn_of (fd := d118) (B := V0) (ent := fun b => [.v U2 b]) (dr := fun es => ((decC (decV U2) dec0) es).map fun q => (q.1)) (by intro b; kernel_rfl) (fun {R} k => g118 2000 x0 (fun (r0 : V0) => k (r0))) (fun k => gen118 x0 k))
theorem ho118 (D : Nat) : (ctr118 (S118 2000)).holds (acall table prims 2000 (D + 1)) := fun a => va118 D a.1
theorem va105 (D : Nat) (x0 : V0) : acall table prims 2000 (D + 2) 105 [.v U2 x0] = (S105 2000 x0).bind fun b => some [.v U4 b] := by
  have h118 : (ctr118 (S118 2000)).holds (acall table prims 2000 (D + 1)) := ho118 (D + 0)
  have e1 := acall_succ (tb := table) (pr := prims) (N := 2000) (D := D + 1) (f := 105) (fd := d105) (es := [.v U2 x0]) rfl rfl rfl rfl
  exact e1.trans (fn_of (fd := d105) (B := V3) (ent := fun b => [.v U4 b]) (dr := fun es => ((decC (decV U4) dec0) es).map fun q => (q.1)) (by intro b; kernel_rfl) (fun {R} k => g105 (S118 2000) x0 (fun (r0 : V3) => k (r0))) (fun k => gen105 (S118 2000) h118 x0 k))
theorem ho105 (D : Nat) : (ctr105 (S105 2000)).holds (acall table prims 2000 (D + 2)) := fun a => va105 D a.1
theorem va81 (D : Nat) (x0 : Int) : acall table prims 2000 (D + 3) 81 [.v U1 x0] = (S81 2000 x0).bind fun b => some [.v U4 b.1, .v U1 b.2] := by
  have h105 : (ctr105 (S105 2000)).holds (acall table prims 2000 (D + 2)) := ho105 (D + 0)
  have e1 := acall_succ (tb := table) (pr := prims) (N := 2000) (D := D + 2) (f := 81) (fd := d81) (es := [.v U1 x0]) rfl rfl rfl rfl
  exact e1.trans (fn_of (fd := d81) (B := V3 × Int) (ent := fun b => [.v U4 b.1, .v U1 b.2]) (dr := fun es => ((decC (decV U4) (decC (decV U1) dec0)) es).map fun q => (q.1, q.2.1)) (by intro b; kernel_rfl) (fun {R} k => g81 2000 (S105 2000) x0 (fun (r0 : V3) (r1 : Int) => k (r0, r1))) (fun k => gen81 (S105 2000) h105 x0 k))
theorem ho81 (D : Nat) : (ctr81 (S81 2000)).holds (acall table prims 2000 (D + 3)) := fun a => va81 D a.1
theorem va49 (D : Nat) (x0 : Int) : acall table prims 2000 (D + 4) 49 [.v U1 x0] = (S49 2000 x0).bind fun b => some [.v U4 b] := by
  have h81 : (ctr81 (S81 2000)).holds (acall table prims 2000 (D + 3)) := ho81 (D + 0)
  have e1 := acall_succ (tb := table) (pr := prims) (N := 2000) (D := D + 3) (f := 49) (fd := d49) (es := [.v U1 x0]) rfl rfl rfl rfl
  exact e1.trans (fn_of (fd := d49) (B := V3) (ent := fun b => [.v U4 b]) (dr := fun es => ((decC (decV U4) dec0) es).map fun q => (q.1)) (by intro b; kernel_rfl) (fun {R} k => g49 (S81 2000) x0 (fun (r0 : V3) => k (r0))) (fun k => gen49 (S81 2000) h81 x0 k))
theorem ho49 (D : Nat) : (ctr49 (S49 2000)).holds (acall table prims 2000 (D + 4)) := fun a => va49 D a.1
theorem va114 (D : Nat) (x0 : V0) (x1 : V0) : acall table prims 2000 (D + 2) 114 [.v U2 x0, .v U2 x1] = (S114 2000 x0 x1).bind fun b => some [.v U2 b] := by
  have h118 : (ctr118 (S118 2000)).holds (acall table prims 2000 (D + 1)) := ho118 (D + 0)
  have e1 := acall_succ (tb := table) (pr := prims) (N := 2000) (D := D + 1) (f := 114) (fd := d114) (es := [.v U2 x0, .v U2 x1]) rfl rfl rfl rfl
  exact e1.trans (fn_of (fd := d114) (B := V0) (ent := fun b => [.v U2 b]) (dr := fun es => ((decC (decV U2) dec0) es).map fun q => (q.1)) (by intro b; kernel_rfl) (fun {R} k => g114 2000 (S118 2000) x0 x1 (fun (r0 : V0) => k (r0))) (fun k => gen114 (S118 2000) h118 x0 x1 k))
theorem ho114 (D : Nat) : (ctr114 (S114 2000)).holds (acall table prims 2000 (D + 2)) := fun a => va114 D a.1 a.2.1
theorem va96 (D : Nat) (x0 : V0) (x1 : V0) : acall table prims 2000 (D + 1) 96 [.v U2 x0, .v U2 x1] = (S96 2000 x0 x1).bind fun b => some [.v U1 b] := by
  have e1 := acall_succ (tb := table) (pr := prims) (N := 2000) (D := D + 0) (f := 96) (fd := d96) (es := [.v U2 x0, .v U2 x1]) rfl rfl rfl rfl
  exact e1.trans (fn_of (fd := d96) (B := Int) (ent := fun b => [.v U1 b]) (dr := fun es => ((decC (decV U1) dec0) es).map fun q => (q.1)) (by intro b; kernel_rfl) (fun {R} k => g96 2000 x0 x1 (fun (r0 : Int) => k (r0))) (fun k => gen96 x0 x1 k))
theorem ho96 (D : Nat) : (ctr96 (S96 2000)).holds (acall table prims 2000 (D + 1)) := fun a => va96 D a.1 a.2.1
theorem va119 (D : Nat) (x0 : V0) (x1 : V0) : acall table prims 2000 (D + 2) 119 [.v U2 x0, .v U2 x1] = (S119 2000 x0 x1).bind fun b => some [.v U2 b] := by
  have h117 : (ctr117 (S117 2000)).holds (acall table prims 2000 (D + 1)) := ho117 (D + 0)
  have h118 : (ctr118 (S118 2000)).holds (acall table prims 2000 (D + 1)) := ho118 (D + 0)
  have e1 := acall_succ (tb := table) (pr := prims) (N := 2000) (D := D + 1) (f := 119) (fd := d119) (es := [.v U2 x0, .v U2 x1]) rfl rfl rfl rfl
  exact e1.trans (fn_of (fd := d119) (B := V0) (ent := fun b => [.v U2 b]) (dr := fun es => ((decC (decV U2) dec0) es).map fun q => (q.1)) (by intro b; kernel_rfl) (fun {R} k => g119 2000 (S117 2000) (S118 2000) x0 x1 (fun (r0 : V0) => k (r0))) (fun k => gen119 (S117 2000) (S118 2000) h117 h118 x0 x1 k))
theorem ho119 (D : Nat) : (ctr119 (S119 2000)).holds (acall table prims 2000 (D + 2)) := fun a => va119 D a.1 a.2.1
theorem va115 (D : Nat) (x0 : V0) (x1 : V0) : acall table prims 2000 (D + 3) 115 [.v U2 x0, .v U2 x1] = (S115 2000 x0 x1).bind fun b => some [.v U2 b.1, .v U2 b.2] := by
  have h96 : (ctr96 (S96 2000)).holds (acall table prims 2000 (D + 2)) := ho96 (D + 1)
  have h114 : (ctr114 (S114 2000)).holds (acall table prims 2000 (D + 2)) := ho114 (D + 0)
  have h118 : (ctr118 (S118 2000)).holds (acall table prims 2000 (D + 2)) := ho118 (D + 1)
  have h119 : (ctr119 (S119 2000)).holds (acall table prims 2000 (D + 2)) := ho119 (D + 0)
  have h120 : (ctr120 (S120 2000)).holds (acall table prims 2000 (D + 2)) := ho120 (D + 1)
  have e1 := acall_succ (tb := table) (pr := prims) (N := 2000) (D := D + 2) (f := 115) (fd := d115) (es := [.v U2 x0, .v U2 x1]) rfl rfl rfl rfl
  exact e1.trans (fn_of (fd := d115) (B := V0 × V0) (ent := fun b => [.v U2 b.1, .v U2 b.2]) (dr := fun es => ((decC (decV U2) (decC (decV U2) dec0)) es).map fun q => (q.1, q.2.1)) (by intro b; kernel_rfl) (fun {R} k => g115 2000 (S96 2000) (S114 2000) (S118 2000) (S119 2000) (S120 2000) x0 x1 (fun (r0 : V0) (r1 : V0) => k (r0, r1))) (fun k => gen115 (S96 2000) (S114 2000) (S118 2000) (S119 2000) (S120 2000) h96 h114 h118 h119 h120 x0 x1 k))
theorem ho115 (D : Nat) : (ctr115 (S115 2000)).holds (acall table prims 2000 (D + 3)) := fun a => va115 D a.1 a.2.1
theorem va106 (D : Nat) (x0 : V0) : acall table prims 2000 (D + 3) 106 [.v U2 x0] = (S106 2000 x0).bind fun b => some [.v U4 b.1, .v U1 b.2] := by
  have h105 : (ctr105 (S105 2000)).holds (acall table prims 2000 (D + 2)) := ho105 (D + 0)
  have e1 := acall_succ (tb := table) (pr := prims) (N := 2000) (D := D + 2) (f := 106) (fd := d106) (es := [.v U2 x0]) rfl rfl rfl rfl
  exact e1.trans (fn_of (fd := d106) (B := V3 × Int) (ent := fun b => [.v U4 b.1, .v U1 b.2]) (dr := fun es => ((decC (decV U4) (decC (decV U1) dec0)) es).map fun q => (q.1, q.2.1)) (by intro b; kernel_rfl) (fun {R} k => g106 (S105 2000) x0 (fun (r0 : V3) (r1 : Int) => k (r0, r1))) (fun k => gen106 (S105 2000) h105 x0 k))
theorem ho106 (D : Nat) : (ctr106 (S106 2000)).holds (acall table prims 2000 (D + 3)) := fun a => va106 D a.1
theorem va92 (D : Nat) (x0 : Int) (x1 : Int) : acall table prims 2000 (D + 4) 92 [.v U1 x0, .v U1 x1] = (S92 2000 x0 x1).bind fun b => some [.v U4 b.1, .v U1 b.2] := by
  have h106 : (ctr106 (S106 2000)).holds (acall table prims 2000 (D + 3)) := ho106 (D + 0)
  have h114 : (ctr114 (S114 2000)).holds (acall table prims 2000 (D + 3)) := ho114 (D + 1)
  have h115 : (ctr115 (S115 2000)).holds (acall table prims 2000 (D + 3)) := ho115 (D + 0)
  have e1 := acall_succ (tb := table) (pr := prims) (N := 2000) (D := D + 3) (f := 92) (fd := d92) (es := [.v U1 x0, .v U1 x1]) rfl rfl rfl rfl
  exact e1.trans (fn_of (fd := d92) (B := V3 × Int) (ent := fun b => [.v U4 b.1, .v U1 b.2]) (dr := fun es => ((decC (decV U4) (decC (decV U1) dec0)) es).map fun q => (q.1, q.2.1)) (by intro b; kernel_rfl) (fun {R} k => g92 2000 (S106 2000) (S114 2000) (S115 2000) x0 x1 (fun (r0 : V3) (r1 : Int) => k (r0, r1))) (fun k => gen92 (S106 2000) (S114 2000) (S115 2000) h106 h114 h115 x0 x1 k))
theorem ho92 (D : Nat) : (ctr92 (S92 2000)).holds (acall table prims 2000 (D + 4)) := fun a => va92 D a.1 a.2.1
theorem va64 (D : Nat) (x0 : Int) (x1 : Int) : acall table prims 2000 (D + 5) 64 [.v U1 x0, .v U1 x1] = (S64 2000 x0 x1).bind fun b => some [.v U4 b] := by
  have h49 : (ctr49 (S49 2000)).holds (acall table prims 2000 (D + 4)) := ho49 (D + 0)
  have h92 : (ctr92 (S92 2000)).holds (acall table prims 2000 (D + 4)) := ho92 (D + 0)
  have e1 := acall_succ (tb := table) (pr := prims) (N := 2000) (D := D + 4) (f := 64) (fd := d64) (es := [.v U1 x0, .v U1 x1]) rfl rfl rfl rfl
  exact e1.trans (fn_of (fd := d64) (B := V3) (ent := fun b => [.v U4 b]) (dr := fun es => ((decC (decV U4) dec0) es).map fun q => (q.1)) (by intro b; kernel_rfl) (fun {R} k => g64 (S49 2000) (S92 2000) x0 x1 (fun (r0 : V3) => k (r0))) (fun k => gen64 (S49 2000) (S92 2000) h49 h92 x0 x1 k))
theorem ho64 (D : Nat) : (ctr64 (S64 2000)).holds (acall table prims 2000 (D + 5)) := fun a => va64 D a.1 a.2.1
theorem va100 (D : Nat) (x0 : Int) : acall table prims 2000 (D + 1) 100 [.v U1 x0] = (S100 2000 x0).bind fun b => some [.v .bool b] := by
  have e1 := acall_succ (tb := table) (pr := prims) (N := 2000) (D := D + 0) (f := 100) (fd := d100) (es := [.v U1 x0]) rfl rfl rfl rfl
  exact e1.trans (fn_of (fd := d100) (B := Bool) (ent := fun b => [.v .bool b]) (dr := fun es => ((decC (decV .bool) dec0) es).map fun q => (q.1)) (by intro b; kernel_rfl) (fun {R} k => g100 x0 (fun (r0 : Bool) => k (r0))) (fun k => gen100 x0 k))
theorem ho100 (D : Nat) : (ctr100 (S100 2000)).holds (acall table prims 2000 (D + 1)) := fun a => va100 D a.1
theorem va116 (D : Nat) (x0 : V0) (x1 : V8) : acall table prims 2000 (D + 1) 116 [.v U2 x0, .v U5 x1] = (S116 2000 x0 x1).bind fun b => some [.v U1 b] := by
  have e1 := acall_succ (tb := table) (pr := prims) (N := 2000) (D := D + 0) (f := 116) (fd := d116) (es := [.v U2 x0, .v U5 x1]) rfl rfl rfl rfl
  exact e1.trans (fn_of (fd := d116) (B := Int) (ent := fun b => [.v U1 b]) (dr := fun es => ((decC (decV U1) dec0) es).map fun q => (q.1)) (by intro b; kernel_rfl) (fun {R} k => g116 2000 x0 x1 (fun (r0 : Int) => k (r0))) (fun k => gen116 x0 x1 k))
theorem ho116 (D : Nat) : (ctr116 (S116 2000)).holds (acall table prims 2000 (D + 1)) := fun a => va116 D a.1 a.2.1
theorem va99 (D : Nat) (x0 : V0) (x1 : V8) : acall table prims 2000 (D + 2) 99 [.v U2 x0, .v U5 x1] = (S99 2000 x0 x1).bind fun b => some [.v .bool b] := by
  have h116 : (ctr116 (S116 2000)).holds (acall table prims 2000 (D + 1)) := ho116 (D + 0)
  have e1 := acall_succ (tb := table) (pr := prims) (N := 2000) (D := D + 1) (f := 99) (fd := d99) (es := [.v U2 x0, .v U5 x1]) rfl rfl rfl rfl
  exact e1.trans (fn_of (fd := d99) (B := Bool) (ent := fun b => [.v .bool b]) (dr := fun es => ((decC (decV .bool) dec0) es).map fun q => (q.1)) (by intro b; kernel_rfl) (fun {R} k => g99 (S116 2000) x0 x1 (fun (r0 : Bool) => k (r0))) (fun k => gen99 (S116 2000) h116 x0 x1 k))
theorem ho99 (D : Nat) : (ctr99 (S99 2000)).holds (acall table prims 2000 (D + 2)) := fun a => va99 D a.1 a.2.1
theorem va75 (D : Nat) (x0 : V3) : acall table prims 2000 (D + 3) 75 [.v U4 x0] = (S75 2000 x0).bind fun b => some [.v .bool b] := by
  have h99 : (ctr99 (S99 2000)).holds (acall table prims 2000 (D + 2)) := ho99 (D + 0)
  have h100 : (ctr100 (S100 2000)).holds (acall table prims 2000 (D + 2)) := ho100 (D + 1)
  have e1 := acall_succ (tb := table) (pr := prims) (N := 2000) (D := D + 2) (f := 75) (fd := d75) (es := [.v U4 x0]) rfl rfl rfl rfl
  exact e1.trans (fn_of (fd := d75) (B := Bool) (ent := fun b => [.v .bool b]) (dr := fun es => ((decC (decV .bool) dec0) es).map fun q => (q.1)) (by intro b; kernel_rfl) (fun {R} k => g75 (S99 2000) (S100 2000) x0 (fun (r0 : Bool) => k (r0))) (fun k => gen75 (S99 2000) (S100 2000) h99 h100 x0 k))
theorem ho75 (D : Nat) : (ctr75 (S75 2000)).holds (acall table prims 2000 (D + 3)) := fun a => va75 D a.1
theorem va103 (D : Nat) (x0 : V3) (x1 : V3) : acall table prims 2000 (D + 4) 103 [.v U4 x0, .v U4 x1] = (S103 2000 x0 x1).bind fun b => some [.v U4 b.1, .v U1 b.2] := by
  have h75 : (ctr75 (S75 2000)).holds (acall table prims 2000 (D + 3)) := ho75 (D + 0)
  have h106 : (ctr106 (S106 2000)).holds (acall table prims 2000 (D + 3)) := ho106 (D + 0)
  have h114 : (ctr114 (S114 2000)).holds (acall table prims 2000 (D + 3)) := ho114 (D + 1)
  have e1 := acall_succ (tb := table) (pr := prims) (N := 2000) (D := D + 3) (f := 103) (fd := d103) (es := [.v U4 x0, .v U4 x1]) rfl rfl rfl rfl
  exact e1.trans (fn_of (fd := d103) (B := V3 × Int) (ent := fun b => [.v U4 b.1, .v U1 b.2]) (dr := fun es => ((decC (decV U4) (decC (decV U1) dec0)) es).map fun q => (q.1, q.2.1)) (by intro b; kernel_rfl) (fun {R} k => g103 (S75 2000) (S106 2000) (S114 2000) x0 x1 (fun (r0 : V3) (r1 : Int) => k (r0, r1))) (fun k => gen103 (S75 2000) (S106 2000) (S114 2000) h75 h106 h114 x0 x1 k))
theorem ho103 (D : Nat) : (ctr103 (S103 2000)).holds (acall table prims 2000 (D + 4)) := fun a => va103 D a.1 a.2.1
theorem va78 (D : Nat) (x0 : V3) (x1 : V3) : acall table prims 2000 (D + 5) 78 [.v U4 x0, .v U4 x1] = (S78 2000 x0 x1).bind fun b => some [.v U4 b] := by
  have h103 : (ctr103 (S103 2000)).holds (acall table prims 2000 (D + 4)) := ho103 (D + 0)
  have e1 := acall_succ (tb := table) (pr := prims) (N := 2000) (D := D + 4) (f := 78) (fd := d78) (es := [.v U4 x0, .v U4 x1]) rfl rfl rfl rfl
  exact e1.trans (fn_of (fd := d78) (B := V3) (ent := fun b => [.v U4 b]) (dr := fun es => ((decC (decV U4) dec0) es).map fun q => (q.1)) (by intro b; kernel_rfl) (fun {R} k => g78 (S103 2000) x0 x1 (fun (r0 : V3) => k (r0))) (fun k => gen78 (S103 2000) h103 x0 x1 k))
theorem ho78 (D : Nat) : (ctr78 (S78 2000)).holds (acall table prims 2000 (D + 5)) := fun a => va78 D a.1 a.2.1
theorem va63 (D : Nat) (x0 : Int) (x1 : Int) (x2 : Int) (x3 : Int) : acall table prims 2000 (D + 6) 63 [.v U1 x0, .v U1 x1, .v U1 x2, .v U1 x3] = (S63 2000 x0 x1 x2 x3).bind fun b => some [.v U4 b] := by
  have h64 : (ctr64 (S64 2000)).holds (acall table prims 2000 (D + 5)) := ho64 (D + 0)
  have h78 : (ctr78 (S78 2000)).holds (acall table prims 2000 (D + 5)) := ho78 (D + 0)
  have e1 := acall_succ (tb := table) (pr := prims) (N := 2000) (D := D + 5) (f := 63) (fd := d63) (es := [.v U1 x0, .v U1 x1, .v U1 x2, .v U1 x3]) rfl rfl rfl rfl
  exact e1.trans (fn_of (fd := d63) (B := V3) (ent := fun b => [.v U4 b]) (dr := fun es => ((decC (decV U4) dec0) es).map fun q => (q.1)) (by intro b; kernel_rfl) (fun {R} k => g63 (S64 2000) (S78 2000) x0 x1 x2 x3 (fun (r0 : V3) => k (r0))) (fun k => gen63 (S64 2000) (S78 2000) h64 h78 x0 x1 x2 x3 k))
theorem ho63 (D : Nat) : (ctr63 (S63 2000)).holds (acall table prims 2000 (D + 6)) := fun a => va63 D a.1 a.2.1 a.2.2.1 a.2.2.2.1
theorem va76 (D : Nat) (x0 : V3) : acall table prims 2000 (D + 1) 76 [.v U4 x0] = (S76 2000 x0).bind fun b => some [.v .bool b] := by
  have e1 := acall_succ (tb := table) (pr := prims) (N := 2000) (D := D + 0) (f := 76) (fd := d76) (es := [.v U4 x0]) rfl rfl rfl rfl
  exact e1.trans (fn_of (fd := d76) (B := Bool) (ent := fun b => [.v .bool b]) (dr := fun es => ((decC (decV .bool) dec0) es).map fun q => (q.1)) (by intro b; kernel_rfl) (fun {R} k => g76 x0 (fun (r0 : Bool) => k (r0))) (fun k => gen76 x0 k))
theorem ho76 (D : Nat) : (ctr76 (S76 2000)).holds (acall table prims 2000 (D + 1)) := fun a => va76 D a.1
theorem va101 (D : Nat) (x0 : V3) (x1 : V3) : acall table prims 2000 (D + 4) 101 [.v U4 x0, .v U4 x1] = (S101 2000 x0 x1).bind fun b => some [.v U4 b.1, .v U1 b.2] := by
  have h75 : (ctr75 (S75 2000)).holds (acall table prims 2000 (D + 3)) := ho75 (D + 0)
  have h105 : (ctr105 (S105 2000)).holds (acall table prims 2000 (D + 3)) := ho105 (D + 1)
  have h115 : (ctr115 (S115 2000)).holds (acall table prims 2000 (D + 3)) := ho115 (D + 0)
  have h117 : (ctr117 (S117 2000)).holds (acall table prims 2000 (D + 3)) := ho117 (D + 2)
  have e1 := acall_succ (tb := table) (pr := prims) (N := 2000) (D := D + 3) (f := 101) (fd := d101) (es := [.v U4 x0, .v U4 x1]) rfl rfl rfl rfl
  exact e1.trans (fn_of (fd := d101) (B := V3 × Int) (ent := fun b => [.v U4 b.1, .v U1 b.2]) (dr := fun es => ((decC (decV U4) (decC (decV U1) dec0)) es).map fun q => (q.1, q.2.1)) (by intro b; kernel_rfl) (fun {R} k => g101 2000 (S75 2000) (S105 2000) (S115 2000) (S117 2000) x0 x1 (fun (r0 : V3) (r1 : Int) => k (r0, r1))) (fun k => gen101 (S75 2000) (S105 2000) (S115 2000) (S117 2000) h75 h105 h115 h117 x0 x1 k))
theorem ho101 (D : Nat) : (ctr101 (S101 2000)).holds (acall table prims 2000 (D + 4)) := fun a => va101 D a.1 a.2.1
theorem va102 (D : Nat) (x0 : V3) (x1 : V3) : acall table prims 2000 (D + 4) 102 [.v U4 x0, .v U4 x1] = (S102 2000 x0 x1).bind fun b => some [.v U4 b.1, .v U4 b.2.1, .v U1 b.2.2] := by
  have h75 : (ctr75 (S75 2000)).holds (acall table prims 2000 (D + 3)) := ho75 (D + 0)
  have h105 : (ctr105 (S105 2000)).holds (acall table prims 2000 (D + 3)) := ho105 (D + 1)
  have h115 : (ctr115 (S115 2000)).holds (acall table prims 2000 (D + 3)) := ho115 (D + 0)
  have e1 := acall_succ (tb := table) (pr := prims) (N := 2000) (D := D + 3) (f := 102) (fd := d102) (es := [.v U4 x0, .v U4 x1]) rfl rfl rfl rfl
  exact e1.trans (fn_of (fd := d102) (B := V3 × V3 × Int) (ent := fun b => [.v U4 b.1, .v U4 b.2.1, .v U1 b.2.2]) (dr := fun es => ((decC (decV U4) (decC (decV U4) (decC (decV U1) dec0))) es).map fun q => (q.1, q.2.1, q.2.2.1)) (by intro b; kernel_rfl) (fun {R} k => g102 (S75 2000) (S105 2000) (S115 2000) x0 x1 (fun (r0 : V3) (r1 : V3) (r2 : Int) => k (r0, r1, r2))) (fun k => gen102 (S75 2000) (S105 2000) (S115 2000) h75 h105 h115 x0 x1 k))
theorem ho102 (D : Nat) : (ctr102 (S102 2000)).holds (acall table prims 2000 (D + 4)) := fun a => va102 D a.1 a.2.1
theorem va77 (D : Nat) (x0 : Bool) (x1 : V3) (x2 : V3) : acall table prims 2000 (D + 5) 77 [.v .bool x0, .v U4 x1, .v U4 x2] = (S77 2000 x0 x1 x2).bind fun b => some [.v U11 b] := by
  have h76 : (ctr76 (S76 2000)).holds (acall table prims 2000 (D + 4)) := ho76 (D + 3)
  have h101 : (ctr101 (S101 2000)).holds (acall table prims 2000 (D + 4)) := ho101 (D + 0)
  have h102 : (ctr102 (S102 2000)).holds (acall table prims 2000 (D + 4)) := ho102 (D + 0)
  have e1 := acall_succ (tb := table) (pr := prims) (N := 2000) (D := D + 4) (f := 77) (fd := d77) (es := [.v .bool x0, .v U4 x1, .v U4 x2]) rfl rfl rfl rfl
  exact e1.trans (fn_of (fd := d77) (B := V14) (ent := fun b => [.v U11 b]) (dr := fun es => ((decC (decV U11) dec0) es).map fun q => (q.1)) (by intro b; kernel_rfl) (fun {R} k => g77 (S76 2000) (S101 2000) (S102 2000) x0 x1 x2 (fun (r0 : V14) => k (r0))) (fun k => gen77 (S76 2000) (S101 2000) (S102 2000) h76 h101 h102 x0 x1 x2 k))
theorem ho77 (D : Nat) : (ctr77 (S77 2000)).holds (acall table prims 2000 (D + 5)) := fun a => va77 D a.1 a.2.1 a.2.2.1
theorem va44 (D : Nat) (x0 : V3) (x1 : V3) : acall table prims 2000 (D + 6) 44 [.v U4 x0, .v U4 x1] = (S44 2000 x0 x1).bind fun b => some [.v U11 b.1, .v U1 b.2] := by
  have h75 : (ctr75 (S75 2000)).holds (acall table prims 2000 (D + 5)) := ho75 (D + 2)
  have h76 : (ctr76 (S76 2000)).holds (acall table prims 2000 (D + 5)) := ho76 (D + 4)
  have h77 : (ctr77 (S77 2000)).holds (acall table prims 2000 (D + 5)) := ho77 (D + 0)
  have e1 := acall_succ (tb := table) (pr := prims) (N := 2000) (D := D + 5) (f := 44) (fd := d44) (es := [.v U4 x0, .v U4 x1]) rfl rfl rfl rfl
  exact e1.trans (fn_of (fd := d44) (B := V14 × Int) (ent := fun b => [.v U11 b.1, .v U1 b.2]) (dr := fun es => ((decC (decV U11) (decC (decV U1) dec0)) es).map fun q => (q.1, q.2.1)) (by intro b; kernel_rfl) (fun {R} k => g44 (S75 2000) (S76 2000) (S77 2000) x0 x1 (fun (r0 : V14) (r1 : Int) => k (r0, r1))) (fun k => gen44 (S75 2000) (S76 2000) (S77 2000) h75 h76 h77 x0 x1 k))
theorem ho44 (D : Nat) : (ctr44 (S44 2000)).holds (acall table prims 2000 (D + 6)) := fun a => va44 D a.1 a.2.1
theorem va27 (D : Nat) (x0 : Int) (x1 : Int) (x2 : Int) (x3 : Int) : acall table prims 2000 (D + 7) 27 [.v U1 x0, .v U1 x1, .v U1 x2, .v U1 x3] = (S27 2000 x0 x1 x2 x3).bind fun b => some [.v U11 b.1, .v U1 b.2] := by
  have h44 : (ctr44 (S44 2000)).holds (acall table prims 2000 (D + 6)) := ho44 (D + 0)
  have h62 : (ctr62 (S62 2000)).holds (acall table prims 2000 (D + 6)) := ho62 (D + 5)
  have h63 : (ctr63 (S63 2000)).holds (acall table prims 2000 (D + 6)) := ho63 (D + 0)
  have h64 : (ctr64 (S64 2000)).holds (acall table prims 2000 (D + 6)) := ho64 (D + 1)
  have e1 := acall_succ (tb := table) (pr := prims) (N := 2000) (D := D + 6) (f := 27) (fd := d27) (es := [.v U1 x0, .v U1 x1, .v U1 x2, .v U1 x3]) rfl rfl rfl rfl
  exact e1.trans (fn_of (fd := d27) (B := V14 × Int) (ent := fun b => [.v U11 b.1, .v U1 b.2]) (dr := fun es => ((decC (decV U11) (decC (decV U1) dec0)) es).map fun q => (q.1, q.2.1)) (by intro b; kernel_rfl) (fun {R} k => g27 (S44 2000) (S62 2000) (S63 2000) (S64 2000) x0 x1 x2 x3 (fun (r0 : V14) (r1 : Int) => k (r0, r1))) (fun k => gen27 (S44 2000) (S62 2000) (S63 2000) (S64 2000) h44 h62 h63 h64 x0 x1 x2 x3 k))
theorem ho27 (D : Nat) : (ctr27 (S27 2000)).holds (acall table prims 2000 (D + 7)) := fun a => va27 D a.1 a.2.1 a.2.2.1 a.2.2.2.1
theorem va65 (D : Nat) (x0 : Int) (x1 : Int) (x2 : Int) (x3 : Int) : acall table prims 2000 (D + 1) 65 [.v U1 x0, .v U1 x1, .v U1 x2, .v U1 x3] = (S65 2000 x0 x1 x2 x3).bind fun b => some [.v U1 b] := by
  have e1 := acall_succ (tb := table) (pr := prims) (N := 2000) (D := D + 0) (f := 65) (fd := d65) (es := [.v U1 x0, .v U1 x1, .v U1 x2, .v U1 x3]) rfl rfl rfl rfl
  exact e1.trans (fn_of (fd := d65) (B := Int) (ent := fun b => [.v U1 b]) (dr := fun es => ((decC (decV U1) dec0) es).map fun q => (q.1)) (by intro b; kernel_rfl) (fun {R} k => g65 x0 x1 x2 x3 (fun (r0 : Int) => k (r0))) (fun k => gen65 x0 x1 x2 x3 k))
theorem ho65 (D : Nat) : (ctr65 (S65 2000)).holds (acall table prims 2000 (D + 1)) := fun a => va65 D a.1 a.2.1 a.2.2.1 a.2.2.2.1
theorem va111 (D : Nat) (x0 : Int) : acall table prims 2000 (D + 1) 111 [.v U1 x0] = (S111 2000 x0).bind fun b => some [.v U4 b.1, .v U1 b.2] := by
  have e1 := acall_succ (tb := table) (pr := prims) (N := 2000) (D := D + 0) (f := 111) (fd := d111) (es := [.v U1 x0]) rfl rfl rfl rfl
  exact e1.trans (fn_of (fd := d111) (B := V3 × Int) (ent := fun b => [.v U4 b.1, .v U1 b.2]) (dr := fun es => ((decC (decV U4) (decC (decV U1) dec0)) es).map fun q => (q.1, q.2.1)) (by intro b; kernel_rfl) (fun {R} k => g111 2000 x0 (fun (r0 : V3) (r1 : Int) => k (r0, r1))) (fun k => gen111 x0 k))
theorem ho111 (D : Nat) : (ctr111 (S111 2000)).holds (acall table prims 2000 (D + 1)) := fun a => va111 D a.1
theorem va85 (D : Nat) (x0 : Int) : acall table prims 2000 (D + 2) 85 [.v U1 x0] = (S85 2000 x0).bind fun b => some [.v U4 b] := by
  have h111 : (ctr111 (S111 2000)).holds (acall table prims 2000 (D + 1)) := ho111 (D + 0)
  have e1 := acall_succ (tb := table) (pr := prims) (N := 2000) (D := D + 1) (f := 85) (fd := d85) (es := [.v U1 x0]) rfl rfl rfl rfl
  exact e1.trans (fn_of (fd := d85) (B := V3) (ent := fun b => [.v U4 b]) (dr := fun es => ((decC (decV U4) dec0) es).map fun q => (q.1)) (by intro b; kernel_rfl) (fun {R} k => g85 (S111 2000) x0 (fun (r0 : V3) => k (r0))) (fun k => gen85 (S111 2000) h111 x0 k))
theorem ho85 (D : Nat) : (ctr85 (S85 2000)).holds (acall table prims 2000 (D + 2)) := fun a => va85 D a.1
theorem va53 (D : Nat) (x0 : Int) : acall table prims 2000 (D + 3) 53 [.v U1 x0] = (S53 2000 x0).bind fun b => some [.v U4 b] := by
  have h85 : (ctr85 (S85 2000)).holds (acall table prims 2000 (D + 2)) := ho85 (D + 0)
  have e1 := acall_succ (tb := table) (pr := prims) (N := 2000) (D := D + 2) (f := 53) (fd := d53) (es := [.v U1 x0]) rfl rfl rfl rfl
  exact e1.trans (fn_of (fd := d53) (B := V3) (ent := fun b => [.v U4 b]) (dr := fun es => ((decC (decV U4) dec0) es).map fun q => (q.1)) (by intro b; kernel_rfl) (fun {R} k => g53 (S85 2000) x0 (fun (r0 : V3) => k (r0))) (fun k => gen53 (S85 2000) h85 x0 k))
theorem ho53 (D : Nat) : (ctr53 (S53 2000)).holds (acall table prims 2000 (D + 3)) := fun a => va53 D a.1
theorem va112 (D : Nat) (x0 : V0) (x1 : Int) : acall table prims 2000 (D + 1) 112 [.v U2 x0, .v U1 x1] = (S112 2000 x0 x1).bind fun b => some [.v U1 b] := by
  have e1 := acall_succ (tb := table) (pr := prims) (N := 2000) (D := D + 0) (f := 112) (fd := d112) (es := [.v U2 x0, .v U1 x1]) rfl rfl rfl rfl
  exact e1.trans (fn_of (fd := d112) (B := Int) (ent := fun b => [.v U1 b]) (dr := fun es => ((decC (decV U1) dec0) es).map fun q => (q.1)) (by intro b; kernel_rfl) (fun {R} k => g112 x0 x1 (fun (r0 : Int) => k (r0))) (fun k => gen112 x0 x1 k))
theorem ho112 (D : Nat) : (ctr112 (S112 2000)).holds (acall table prims 2000 (D + 1)) := fun a => va112 D a.1 a.2.1
theorem va113 (D : Nat) (x0 : V0) : acall table prims 2000 (D + 1) 113 [.v U2 x0] = (S113 2000 x0).bind fun b => some [.v U2 b] := by
  have e1 := acall_succ (tb := table) (pr := prims) (N := 2000) (D := D + 0) (f := 113) (fd := d113) (es := [.v U2 x0]) rfl rfl rfl rfl
  exact e1.trans (fn_of (fd := d113) (B := V0) (ent := fun b => [.v U2 b]) (dr := fun es => ((decC (decV U2) dec0) es).map fun q => (q.1)) (by intro b; kernel_rfl) (fun {R} k => g113 2000 x0 (fun (r0 : V0) => k (r0))) (fun k => gen113 x0 k))
theorem ho113 (D : Nat) : (ctr113 (S113 2000)).holds (acall table prims 2000 (D + 1)) := fun a => va113 D a.1
theorem va88 (D : Nat) (x0 : V0) (x1 : V0) : acall table prims 2000 (D + 2) 88 [.v U2 x0, .v U2 x1] = (S88 2000 x0 x1).bind fun b => some [.v U2 b] := by
  have h112 : (ctr112 (S112 2000)).holds (acall table prims 2000 (D + 1)) := ho112 (D + 0)
  have h113 : (ctr113 (S113 2000)).holds (acall table prims 2000 (D + 1)) := ho113 (D + 0)
  have e1 := acall_succ (tb := table) (pr := prims) (N := 2000) (D := D + 1) (f := 88) (fd := d88) (es := [.v U2 x0, .v U2 x1]) rfl rfl rfl rfl
  exact e1.trans (fn_of (fd := d88) (B := V0) (ent := fun b => [.v U2 b]) (dr := fun es => ((decC (decV U2) dec0) es).map fun q => (q.1)) (by intro b; kernel_rfl) (fun {R} k => g88 2000 (S112 2000) (S113 2000) x0 x1 (fun (r0 : V0) => k (r0))) (fun k => gen88 (S112 2000) (S113 2000) h112 h113 x0 x1 k))
theorem ho88 (D : Nat) : (ctr88 (S88 2000)).holds (acall table prims 2000 (D + 2)) := fun a => va88 D a.1 a.2.1
theorem va90 (D : Nat) (x0 : V0) (x1 : V0) : acall table prims 2000 (D + 1) 90 [.v U2 x0, .v U2 x1] = (S90 2000 x0 x1).bind fun b => some [.v U1 b] := by
  have e1 := acall_succ (tb := table) (pr := prims) (N := 2000) (D := D + 0) (f := 90) (fd := d90) (es := [.v U2 x0, .v U2 x1]) rfl rfl rfl rfl
  exact e1.trans (fn_of (fd := d90) (B := Int) (ent := fun b => [.v U1 b]) (dr := fun es => ((decC (decV U1) dec0) es).map fun q => (q.1)) (by intro b; kernel_rfl) (fun {R} k => g90 2000 x0 x1 (fun (r0 : Int) => k (r0))) (fun k => gen90 x0 x1 k))
theorem ho90 (D : Nat) : (ctr90 (S90 2000)).holds (acall table prims 2000 (D + 1)) := fun a => va90 D a.1 a.2.1
theorem va91 (D : Nat) (x0 : V0) (x1 : V0) : acall table prims 2000 (D + 2) 91 [.v U2 x0, .v U2 x1] = (S91 2000 x0 x1).bind fun b => some [.v U2 b] := by
  have h112 : (ctr112 (S112 2000)).holds (acall table prims 2000 (D + 1)) := ho112 (D + 0)
  have h113 : (ctr113 (S113 2000)).holds (acall table prims 2000 (D + 1)) := ho113 (D + 0)
  have e1 := acall_succ (tb := table) (pr := prims) (N := 2000) (D := D + 1) (f := 91) (fd := d91) (es := [.v U2 x0, .v U2 x1]) rfl rfl rfl rfl
  exact e1.trans (fn_of (fd := d91) (B := V0) (ent := fun b => [.v U2 b]) (dr := fun es => ((decC (decV U2) dec0) es).map fun q => (q.1)) (by intro b; kernel_rfl) (fun {R} k => g91 2000 (S112 2000) (S113 2000) x0 x1 (fun (r0 : V0) => k (r0))) (fun k => gen91 (S112 2000) (S113 2000) h112 h113 x0 x1 k))
theorem ho91 (D : Nat) : (ctr91 (S91 2000)).holds (acall table prims 2000 (D + 2)) := fun a => va91 D a.1 a.2.1
theorem va110 (D : Nat) (x0 : V0) (x1 : V0) : acall table prims 2000 (D + 3) 110 [.v U2 x0, .v U2 x1] = (S110 2000 x0 x1).bind fun b => some [.v U2 b.1, .v U2 b.2] := by
  have h88 : (ctr88 (S88 2000)).holds (acall table prims 2000 (D + 2)) := ho88 (D + 0)
  have h90 : (ctr90 (S90 2000)).holds (acall table prims 2000 (D + 2)) := ho90 (D + 1)
  have h91 : (ctr91 (S91 2000)).holds (acall table prims 2000 (D + 2)) := ho91 (D + 0)
  have h113 : (ctr113 (S113 2000)).holds (acall table prims 2000 (D + 2)) := ho113 (D + 1)
  have e1 := acall_succ (tb := table) (pr := prims) (N := 2000) (D := D + 2) (f := 110) (fd := d110) (es := [.v U2 x0, .v U2 x1]) rfl rfl rfl rfl
  exact e1.trans (fn_of (fd := d110) (B := V0 × V0) (ent := fun b => [.v U2 b.1, .v U2 b.2]) (dr := fun es => ((decC (decV U2) (decC (decV U2) dec0)) es).map fun q => (q.1, q.2.1)) (by intro b; kernel_rfl) (fun {R} k => g110 2000 (S88 2000) (S90 2000) (S91 2000) (S113 2000) x0 x1 (fun (r0 : V0) (r1 : V0) => k (r0, r1))) (fun k => gen110 (S88 2000) (S90 2000) (S91 2000) (S113 2000) h88 h90 h91 h113 x0 x1 k))
theorem ho110 (D : Nat) : (ctr110 (S110 2000)).holds (acall table prims 2000 (D + 3)) := fun a => va110 D a.1 a.2.1
theorem va93 (D : Nat) (x0 : Int) (x1 : Int) : acall table prims 2000 (D + 4) 93 [.v U1 x0, .v U1 x1] = (S93 2000 x0 x1).bind fun b => some [.v U4 b.1, .v U1 b.2] := by
  have h88 : (ctr88 (S88 2000)).holds (acall table prims 2000 (D + 3)) := ho88 (D + 1)
  have h110 : (ctr110 (S110 2000)).holds (acall table prims 2000 (D + 3)) := ho110 (D + 0)
  have e1 := acall_succ (tb := table) (pr := prims) (N := 2000) (D := D + 3) (f := 93) (fd := d93) (es := [.v U1 x0, .v U1 x1]) rfl rfl rfl rfl
  exact e1.trans (fn_of (fd := d93) (B := V3 × Int) (ent := fun b => [.v U4 b.1, .v U1 b.2]) (dr := fun es => ((decC (decV U4) (decC (decV U1) dec0)) es).map fun q => (q.1, q.2.1)) (by intro b; kernel_rfl) (fun {R} k => g93 2000 (S88 2000) (S110 2000) x0 x1 (fun (r0 : V3) (r1 : Int) => k (r0, r1))) (fun k => gen93 (S88 2000) (S110 2000) h88 h110 x0 x1 k))
theorem ho93 (D : Nat) : (ctr93 (S93 2000)).holds (acall table prims 2000 (D + 4)) := fun a => va93 D a.1 a.2.1
theorem va86 (D : Nat) (x0 : V3) : acall table prims 2000 (D + 1) 86 [.v U4 x0] = (S86 2000 x0).bind fun b => some [.v .bool b] := by
  have e1 := acall_succ (tb := table) (pr := prims) (N := 2000) (D := D + 0) (f := 86) (fd := d86) (es := [.v U4 x0]) rfl rfl rfl rfl
  exact e1.trans (fn_of (fd := d86) (B := Bool) (ent := fun b => [.v .bool b]) (dr := fun es => ((decC (decV .bool) dec0) es).map fun q => (q.1)) (by intro b; kernel_rfl) (fun {R} k => g86 2000 x0 (fun (r0 : Bool) => k (r0))) (fun k => gen86 x0 k))
theorem ho86 (D : Nat) : (ctr86 (S86 2000)).holds (acall table prims 2000 (D + 1)) := fun a => va86 D a.1
theorem va87 (D : Nat) (x0 : V0) : acall table prims 2000 (D + 1) 87 [.v U2 x0] = (S87 2000 x0).bind fun b => some [.v U4 b.1, .v U1 b.2] := by
  have e1 := acall_succ (tb := table) (pr := prims) (N := 2000) (D := D + 0) (f := 87) (fd := d87) (es := [.v U2 x0]) rfl rfl rfl rfl
  exact e1.trans (fn_of (fd := d87) (B := V3 × Int) (ent := fun b => [.v U4 b.1, .v U1 b.2]) (dr := fun es => ((decC (decV U4) (decC (decV U1) dec0)) es).map fun q => (q.1, q.2.1)) (by intro b; kernel_rfl) (fun {R} k => g87 x0 (fun (r0 : V3) (r1 : Int) => k (r0, r1))) (fun k => gen87 x0 k))
theorem ho87 (D : Nat) : (ctr87 (S87 2000)).holds (acall table prims 2000 (D + 1)) := fun a => va87 D a.1
theorem va58 (D : Nat) (x0 : V3) (x1 : V3) : acall table prims 2000 (D + 3) 58 [.v U4 x0, .v U4 x1] = (S58 2000 x0 x1).bind fun b => some [.v U4 b.1, .v U1 b.2] := by
  have h86 : (ctr86 (S86 2000)).holds (acall table prims 2000 (D + 2)) := ho86 (D + 1)
  have h87 : (ctr87 (S87 2000)).holds (acall table prims 2000 (D + 2)) := ho87 (D + 1)
  have h88 : (ctr88 (S88 2000)).holds (acall table prims 2000 (D + 2)) := ho88 (D + 0)
  have e1 := acall_succ (tb := table) (pr := prims) (N := 2000) (D := D + 2) (f := 58) (fd := d58) (es := [.v U4 x0, .v U4 x1]) rfl rfl rfl rfl
  exact e1.trans (fn_of (fd := d58) (B := V3 × Int) (ent := fun b => [.v U4 b.1, .v U1 b.2]) (dr := fun es => ((decC (decV U4) (decC (decV U1) dec0)) es).map fun q => (q.1, q.2.1)) (by intro b; kernel_rfl) (fun {R} k => g58 (S86 2000) (S87 2000) (S88 2000) x0 x1 (fun (r0 : V3) (r1 : Int) => k (r0, r1))) (fun k => gen58 (S86 2000) (S87 2000) (S88 2000) h86 h87 h88 x0 x1 k))
theorem ho58 (D : Nat) : (ctr58 (S58 2000)).holds (acall table prims 2000 (D + 3)) := fun a => va58 D a.1 a.2.1
theorem va89 (D : Nat) (x0 : V0) (x1 : V0) : acall table prims 2000 (D + 2) 89 [.v U2 x0, .v U2 x1] = (S89 2000 x0 x1).bind fun b => some [.v U2 b] := by
  have h112 : (ctr112 (S112 2000)).holds (acall table prims 2000 (D + 1)) := ho112 (D + 0)
  have h113 : (ctr113 (S113 2000)).holds (acall table prims 2000 (D + 1)) := ho113 (D + 0)
  have e1 := acall_succ (tb := table) (pr := prims) (N := 2000) (D := D + 1) (f := 89) (fd := d89) (es := [.v U2 x0, .v U2 x1]) rfl rfl rfl rfl
  exact e1.trans (fn_of (fd := d89) (B := V0) (ent := fun b => [.v U2 b]) (dr := fun es => ((decC (decV U2) dec0) es).map fun q => (q.1)) (by intro b; kernel_rfl) (fun {R} k => g89 2000 (S112 2000) (S113 2000) x0 x1 (fun (r0 : V0) => k (r0))) (fun k => gen89 (S112 2000) (S113 2000) h112 h113 x0 x1 k))
theorem ho89 (D : Nat) : (ctr89 (S89 2000)).holds (acall table prims 2000 (D + 2)) := fun a => va89 D a.1 a.2.1
theorem va59 (D : Nat) (x0 : V3) (x1 : V3) : acall table prims 2000 (D + 3) 59 [.v U4 x0, .v U4 x1] = (S59 2000 x0 x1).bind fun b => some [.v U4 b.1, .v U1 b.2] := by
  have h86 : (ctr86 (S86 2000)).holds (acall table prims 2000 (D + 2)) := ho86 (D + 1)
  have h87 : (ctr87 (S87 2000)).holds (acall table prims 2000 (D + 2)) := ho87 (D + 1)
  have h89 : (ctr89 (S89 2000)).holds (acall table prims 2000 (D + 2)) := ho89 (D + 0)
  have e1 := acall_succ (tb := table) (pr := prims) (N := 2000) (D := D + 2) (f := 59) (fd := d59) (es := [.v U4 x0, .v U4 x1]) rfl rfl rfl rfl
  exact e1.trans (fn_of (fd := d59) (B := V3 × Int) (ent := fun b => [.v U4 b.1, .v U1 b.2]) (dr := fun es => ((decC (decV U4) (decC (decV U1) dec0)) es).map fun q => (q.1, q.2.1)) (by intro b; kernel_rfl) (fun {R} k => g59 (S86 2000) (S87 2000) (S89 2000) x0 x1 (fun (r0 : V3) (r1 : Int) => k (r0, r1))) (fun k => gen59 (S86 2000) (S87 2000) (S89 2000) h86 h87 h89 x0 x1 k))
theorem ho59 (D : Nat) : (ctr59 (S59 2000)).holds (acall table prims 2000 (D + 3)) := fun a => va59 D a.1 a.2.1
theorem va56 (D : Nat) (x0 : V3) : acall table prims 2000 (D + 1) 56 [.v U4 x0] = (S56 2000 x0).bind fun b => some [.v .bool b] := by
  have e1 := acall_succ (tb := table) (pr := prims) (N := 2000) (D := D + 0) (f := 56) (fd := d56) (es := [.v U4 x0]) rfl rfl rfl rfl
  exact e1.trans (fn_of (fd := d56) (B := Bool) (ent := fun b => [.v .bool b]) (dr := fun es => ((decC (decV .bool) dec0) es).map fun q => (q.1)) (by intro b; kernel_rfl) (fun {R} k => g56 x0 (fun (r0 : Bool) => k (r0))) (fun k => gen56 x0 k))
theorem ho56 (D : Nat) : (ctr56 (S56 2000)).holds (acall table prims 2000 (D + 1)) := fun a => va56 D a.1
theorem va108 (D : Nat) (x0 : V0) : acall table prims 2000 (D + 1) 108 [.v U2 x0] = (S108 2000 x0).bind fun b => some [.v .bool b] := by
  have e1 := acall_succ (tb := table) (pr := prims) (N := 2000) (D := D + 0) (f := 108) (fd := d108) (es := [.v U2 x0]) rfl rfl rfl rfl
  exact e1.trans (fn_of (fd := d108) (B := Bool) (ent := fun b => [.v .bool b]) (dr := fun es => ((decC (decV .bool) dec0) es).map fun q => (q.1)) (by intro b; kernel_rfl) (fun {R} k => g108 x0 (fun (r0 : Bool) => k (r0))) (fun k => gen108 x0 k))
theorem ho108 (D : Nat) : (ctr108 (S108 2000)).holds (acall table prims 2000 (D + 1)) := fun a => va108 D a.1
theorem va109 (D : Nat) (x0 : V0) : acall table prims 2000 (D + 2) 109 [.v U2 x0] = (S109 2000 x0).bind fun b => some [.v U2 b] := by
  have h113 : (ctr113 (S113 2000)).holds (acall table prims 2000 (D + 1)) := ho113 (D + 0)
  have e1 := acall_succ (tb := table) (pr := prims) (N := 2000) (D := D + 1) (f := 109) (fd := d109) (es := [.v U2 x0]) rfl rfl rfl rfl
  exact e1.trans (fn_of (fd := d109) (B := V0) (ent := fun b => [.v U2 b]) (dr := fun es => ((decC (decV U2) dec0) es).map fun q => (q.1)) (by intro b; kernel_rfl) (fun {R} k => g109 2000 (S113 2000) x0 (fun (r0 : V0) => k (r0))) (fun k => gen109 (S113 2000) h113 x0 k))
theorem ho109 (D : Nat) : (ctr109 (S109 2000)).holds (acall table prims 2000 (D + 2)) := fun a => va109 D a.1
theorem va83 (D : Nat) (x0 : V3) (x1 : V3) : acall table prims 2000 (D + 3) 83 [.v U4 x0, .v U4 x1] = (S83 2000 x0 x1).bind fun b => some [.v U4 b.1, .v U1 b.2] := by
  have h86 : (ctr86 (S86 2000)).holds (acall table prims 2000 (D + 2)) := ho86 (D + 1)
  have h89 : (ctr89 (S89 2000)).holds (acall table prims 2000 (D + 2)) := ho89 (D + 0)
  have h90 : (ctr90 (S90 2000)).holds (acall table prims 2000 (D + 2)) := ho90 (D + 1)
  have h91 : (ctr91 (S91 2000)).holds (acall table prims 2000 (D + 2)) := ho91 (D + 0)
  have h108 : (ctr108 (S108 2000)).holds (acall table prims 2000 (D + 2)) := ho108 (D + 1)
  have h109 : (ctr109 (S109 2000)).holds (acall table prims 2000 (D + 2)) := ho109 (D + 0)
  have e1 := acall_succ (tb := table) (pr := prims) (N := 2000) (D := D + 2) (f := 83) (fd := d83) (es := [.v U4 x0, .v U4 x1]) rfl rfl rfl rfl
  exact e1.trans (fn_of (fd := d83) (B := V3 × Int) (ent := fun b => [.v U4 b.1, .v U1 b.2]) (dr := fun es => ((decC (decV U4) (decC (decV U1) dec0)) es).map fun q => (q.1, q.2.1)) (by intro b; kernel_rfl) (fun {R} k => g83 2000 (S86 2000) (S89 2000) (S90 2000) (S91 2000) (S108 2000) (S109 2000) x0 x1 (fun (r0 : V3) (r1 : Int) => k (r0, r1))) (fun k => gen83 (S86 2000) (S89 2000) (S90 2000) (S91 2000) (S108 2000) (S109 2000) h86 h89 h90 h91 h108 h109 x0 x1 k))
theorem ho83 (D : Nat) : (ctr83 (S83 2000)).holds (acall table prims 2000 (D + 3)) := fun a => va83 D a.1 a.2.1
theorem va84 (D : Nat) (x0 : V3) (x1 : V3) : acall table prims 2000 (D + 4) 84 [.v U4 x0, .v U4 x1] = (S84 2000 x0 x1).bind fun b => some [.v U4 b.1, .v U4 b.2.1, .v U1 b.2.2] := by
  have h86 : (ctr86 (S86 2000)).holds (acall table prims 2000 (D + 3)) := ho86 (D + 2)
  have h110 : (ctr110 (S110 2000)).holds (acall table prims 2000 (D + 3)) := ho110 (D + 0)
  have e1 := acall_succ (tb := table) (pr := prims) (N := 2000) (D := D + 3) (f := 84) (fd := d84) (es := [.v U4 x0, .v U4 x1]) rfl rfl rfl rfl
  exact e1.trans (fn_of (fd := d84) (B := V3 × V3 × Int) (ent := fun b => [.v U4 b.1, .v U4 b.2.1, .v U1 b.2.2]) (dr := fun es => ((decC (decV U4) (decC (decV U4) (decC (decV U1) dec0))) es).map fun q => (q.1, q.2.1, q.2.2.1)) (by intro b; kernel_rfl) (fun {R} k => g84 (S86 2000) (S110 2000) x0 x1 (fun (r0 : V3) (r1 : V3) (r2 : Int) => k (r0, r1, r2))) (fun k => gen84 (S86 2000) (S110 2000) h86 h110 x0 x1 k))
theorem ho84 (D : Nat) : (ctr84 (S84 2000)).holds (acall table prims 2000 (D + 4)) := fun a => va84 D a.1 a.2.1
theorem va52 (D : Nat) (x0 : Bool) (x1 : V3) (x2 : V3) : acall table prims 2000 (D + 5) 52 [.v .bool x0, .v U4 x1, .v U4 x2] = (S52 2000 x0 x1 x2).bind fun b => some [.v U11 b] := by
  have h56 : (ctr56 (S56 2000)).holds (acall table prims 2000 (D + 4)) := ho56 (D + 3)
  have h83 : (ctr83 (S83 2000)).holds (acall table prims 2000 (D + 4)) := ho83 (D + 1)
  have h84 : (ctr84 (S84 2000)).holds (acall table prims 2000 (D + 4)) := ho84 (D + 0)
  have e1 := acall_succ (tb := table) (pr := prims) (N := 2000) (D := D + 4) (f := 52) (fd := d52) (es := [.v .bool x0, .v U4 x1, .v U4 x2]) rfl rfl rfl rfl
  exact e1.trans (fn_of (fd := d52) (B := V14) (ent := fun b => [.v U11 b]) (dr := fun es => ((decC (decV U11) dec0) es).map fun q => (q.1)) (by intro b; kernel_rfl) (fun {R} k => g52 (S56 2000) (S83 2000) (S84 2000) x0 x1 x2 (fun (r0 : V14) => k (r0))) (fun k => gen52 (S56 2000) (S83 2000) (S84 2000) h56 h83 h84 x0 x1 x2 k))
theorem ho52 (D : Nat) : (ctr52 (S52 2000)).holds (acall table prims 2000 (D + 5)) := fun a => va52 D a.1 a.2.1 a.2.2.1
theorem va72 (D : Nat) (x0 : V3) (x1 : V3) : acall table prims 2000 (D + 6) 72 [.v U4 x0, .v U4 x1] = (S72 2000 x0 x1).bind fun b => some [.v U11 b.1, .v U1 b.2] := by
  have h52 : (ctr52 (S52 2000)).holds (acall table prims 2000 (D + 5)) := ho52 (D + 0)
  have h56 : (ctr56 (S56 2000)).holds (acall table prims 2000 (D + 5)) := ho56 (D + 4)
  have h86 : (ctr86 (S86 2000)).holds (acall table prims 2000 (D + 5)) := ho86 (D + 4)
  have e1 := acall_succ (tb := table) (pr := prims) (N := 2000) (D := D + 5) (f := 72) (fd := d72) (es := [.v U4 x0, .v U4 x1]) rfl rfl rfl rfl
  exact e1.trans (fn_of (fd := d72) (B := V14 × Int) (ent := fun b => [.v U11 b.1, .v U1 b.2]) (dr := fun es => ((decC (decV U11) (decC (decV U1) dec0)) es).map fun q => (q.1, q.2.1)) (by intro b; kernel_rfl) (fun {R} k => g72 (S52 2000) (S56 2000) (S86 2000) x0 x1 (fun (r0 : V14) (r1 : Int) => k (r0, r1))) (fun k => gen72 (S52 2000) (S56 2000) (S86 2000) h52 h56 h86 x0 x1 k))
theorem ho72 (D : Nat) : (ctr72 (S72 2000)).holds (acall table prims 2000 (D + 6)) := fun a => va72 D a.1 a.2.1
theorem va66 (D : Nat) (x0 : Int) (x1 : Int) (x2 : Int) (x3 : Int) (x4 : Int) : acall table prims 2000 (D + 7) 66 [.v U1 x0, .v U1 x1, .v U1 x2, .v U1 x3, .v U1 x4] = (S66 2000 x0 x1 x2 x3 x4).bind fun b => some [.v U11 b] := by
  have h53 : (ctr53 (S53 2000)).holds (acall table prims 2000 (D + 6)) := ho53 (D + 3)
  have h58 : (ctr58 (S58 2000)).holds (acall table prims 2000 (D + 6)) := ho58 (D + 3)
  have h59 : (ctr59 (S59 2000)).holds (acall table prims 2000 (D + 6)) := ho59 (D + 3)
  have h72 : (ctr72 (S72 2000)).holds (acall table prims 2000 (D + 6)) := ho72 (D + 0)
  have h93 : (ctr93 (S93 2000)).holds (acall table prims 2000 (D + 6)) := ho93 (D + 2)
  have e1 := acall_succ (tb := table) (pr := prims) (N := 2000) (D := D + 6) (f := 66) (fd := d66) (es := [.v U1 x0, .v U1 x1, .v U1 x2, .v U1 x3, .v U1 x4]) rfl rfl rfl rfl
  exact e1.trans (fn_of (fd := d66) (B := V14) (ent := fun b => [.v U11 b]) (dr := fun es => ((decC (decV U11) dec0) es).map fun q => (q.1)) (by intro b; kernel_rfl) (fun {R} k => g66 2000 (S53 2000) (S58 2000) (S59 2000) (S72 2000) (S93 2000) x0 x1 x2 x3 x4 (fun (r0 : V14) => k (r0))) (fun k => gen66 (S53 2000) (S58 2000) (S59 2000) (S72 2000) (S93 2000) h53 h58 h59 h72 h93 x0 x1 x2 x3 x4 k))
theorem ho66 (D : Nat) : (ctr66 (S66 2000)).holds (acall table prims 2000 (D + 7)) := fun a => va66 D a.1 a.2.1 a.2.2.1 a.2.2.2.1 a.2.2.2.2.1
theorem va28 (D : Nat) (x0 : Int) (x1 : Int) (x2 : Int) (x3 : Int) : acall table prims 2000 (D + 8) 28 [.v U1 x0, .v U1 x1, .v U1 x2, .v U1 x3] = (S28 2000 x0 x1 x2 x3).bind fun b => some [.v U11 b.1, .v U1 b.2] := by
  have h65 : (ctr65 (S65 2000)).holds (acall table prims 2000 (D + 7)) := ho65 (D + 6)
  have h66 : (ctr66 (S66 2000)).holds (acall table prims 2000 (D + 7)) := ho66 (D + 0)
  have e1 := acall_succ (tb := table) (pr := prims) (N := 2000) (D := D + 7) (f := 28) (fd := d28) (es := [.v U1 x0, .v U1 x1, .v U1 x2, .v U1 x3]) rfl rfl rfl rfl
  exact e1.trans (fn_of (fd := d28) (B := V14 × Int) (ent := fun b => [.v U11 b.1, .v U1 b.2]) (dr := fun es => ((decC (decV U11) (decC (decV U1) dec0)) es).map fun q => (q.1, q.2.1)) (by intro b; kernel_rfl) (fun {R} k => g28 (S65 2000) (S66 2000) x0 x1 x2 x3 (fun (r0 : V14) (r1 : Int) => k (r0, r1))) (fun k => gen28 (S65 2000) (S66 2000) h65 h66 x0 x1 x2 x3 k))
theorem ho28 (D : Nat) : (ctr28 (S28 2000)).holds (acall table prims 2000 (D + 8)) := fun a => va28 D a.1 a.2.1 a.2.2.1 a.2.2.2.1
theorem va107 (D : Nat) (x0 : V0) (x1 : V0) : acall table prims 2000 (D + 1) 107 [.v U2 x0, .v U2 x1] = (S107 2000 x0 x1).bind fun b => some [.own true 3 U1 .no b] := by
  have e1 := acall_succ (tb := table) (pr := prims) (N := 2000) (D := D + 0) (f := 107) (fd := d107) (es := [.v U2 x0, .v U2 x1]) rfl rfl rfl rfl
  exact e1.trans (fn_of (fd := d107) (B := V0) (ent := fun b => [.own true 3 U1 .no b]) (dr := fun es => ((decC (decO U1) dec0) es).map fun q => (q.1)) (by intro b; kernel_rfl) (fun {R} k => g107 2000 x0 x1 (fun (r0 : V0) => k (r0))) (fun k => gen107 x0 x1 k))
theorem ho107 (D : Nat) : (ctr107 (S107 2000)).holds (acall table prims 2000 (D + 1)) := fun a => va107 D a.1 a.2.1
theorem va82 (D : Nat) (x0 : V3) (x1 : V3) : acall table prims 2000 (D + 4) 82 [.v U4 x0, .v U4 x1] = (S82 2000 x0 x1).bind fun b => some [.v U4 b.1, .v U1 b.2] := by
  have h75 : (ctr75 (S75 2000)).holds (acall table prims 2000 (D + 3)) := ho75 (D + 0)
  have h106 : (ctr106 (S106 2000)).holds (acall table prims 2000 (D + 3)) := ho106 (D + 0)
  have h107 : (ctr107 (S107 2000)).holds (acall table prims 2000 (D + 3)) := ho107 (D + 2)
  have e1 := acall_succ (tb := table) (pr := prims) (N := 2000) (D := D + 3) (f := 82) (fd := d82) (es := [.v U4 x0, .v U4 x1]) rfl rfl rfl rfl
  exact e1.trans (fn_of (fd := d82) (B := V3 × Int) (ent := fun b => [.v U4 b.1, .v U1 b.2]) (dr := fun es => ((decC (decV U4) (decC (decV U1) dec0)) es).map fun q => (q.1, q.2.1)) (by intro b; kernel_rfl) (fun {R} k => g82 (S75 2000) (S106 2000) (S107 2000) x0 x1 (fun (r0 : V3) (r1 : Int) => k (r0, r1))) (fun k => gen82 (S75 2000) (S106 2000) (S107 2000) h75 h106 h107 x0 x1 k))
theorem ho82 (D : Nat) : (ctr82 (S82 2000)).holds (acall table prims 2000 (D + 4)) := fun a => va82 D a.1 a.2.1
theorem va50 (D : Nat) (x0 : V3) (x1 : V3) : acall table prims 2000 (D + 5) 50 [.v U4 x0, .v U4 x1] = (S50 2000 x0 x1).bind fun b => some [.v U4 b] := by
  have h82 : (ctr82 (S82 2000)).holds (acall table prims 2000 (D + 4)) := ho82 (D + 0)
  have e1 := acall_succ (tb := table) (pr := prims) (N := 2000) (D := D + 4) (f := 50) (fd := d50) (es := [.v U4 x0, .v U4 x1]) rfl rfl rfl rfl
  exact e1.trans (fn_of (fd := d50) (B := V3) (ent := fun b => [.v U4 b]) (dr := fun es => ((decC (decV U4) dec0) es).map fun q => (q.1)) (by intro b; kernel_rfl) (fun {R} k => g50 (S82 2000) x0 x1 (fun (r0 : V3) => k (r0))) (fun k => gen50 (S82 2000) h82 x0 x1 k))
theorem ho50 (D : Nat) : (ctr50 (S50 2000)).holds (acall table prims 2000 (D + 5)) := fun a => va50 D a.1 a.2.1
theorem va29 (D : Nat) (x0 : Int) (x1 : Int) (x2 : Int) (x3 : Int) : acall table prims 2000 (D + 7) 29 [.v U1 x0, .v U1 x1, .v U1 x2, .v U1 x3] = (S29 2000 x0 x1 x2 x3).bind fun b => some [.v U11 b.1, .v U1 b.2] := by
  have h44 : (ctr44 (S44 2000)).holds (acall table prims 2000 (D + 6)) := ho44 (D + 0)
  have h49 : (ctr49 (S49 2000)).holds (acall table prims 2000 (D + 6)) := ho49 (D + 2)
  have h50 : (ctr50 (S50 2000)).holds (acall table prims 2000 (D + 6)) := ho50 (D + 1)
  have h62 : (ctr62 (S62 2000)).holds (acall table prims 2000 (D + 6)) := ho62 (D + 5)
  have h63 : (ctr63 (S63 2000)).holds (acall table prims 2000 (D + 6)) := ho63 (D + 0)
  have h64 : (ctr64 (S64 2000)).holds (acall table prims 2000 (D + 6)) := ho64 (D + 1)
  have e1 := acall_succ (tb := table) (pr := prims) (N := 2000) (D := D + 6) (f := 29) (fd := d29) (es := [.v U1 x0, .v U1 x1, .v U1 x2, .v U1 x3]) rfl rfl rfl rfl
  exact e1.trans (fn_of (fd := d29) (B := V14 × Int) (ent := fun b => [.v U11 b.1, .v U1 b.2]) (dr := fun es => ((decC (decV U11) (decC (decV U1) dec0)) es).map fun q => (q.1, q.2.1)) (by intro b; kernel_rfl) (fun {R} k => g29 2000 (S44 2000) (S49 2000) (S50 2000) (S62 2000) (S63 2000) (S64 2000) x0 x1 x2 x3 (fun (r0 : V14) (r1 : Int) => k (r0, r1))) (fun k => gen29 (S44 2000) (S49 2000) (S50 2000) (S62 2000) (S63 2000) (S64 2000) h44 h49 h50 h62 h63 h64 x0 x1 x2 x3 k))
theorem ho29 (D : Nat) : (ctr29 (S29 2000)).holds (acall table prims 2000 (D + 7)) := fun a => va29 D a.1 a.2.1 a.2.2.1 a.2.2.2.1
theorem va30 (D : Nat) (x0 : Int) (x1 : Int) (x2 : Int) (x3 : Int) : acall table prims 2000 (D + 8) 30 [.v U1 x0, .v U1 x1, .v U1 x2, .v U1 x3] = (S30 2000 x0 x1 x2 x3).bind fun b => some [.v U11 b.1, .v U1 b.2] := by
  have h65 : (ctr65 (S65 2000)).holds (acall table prims 2000 (D + 7)) := ho65 (D + 6)
  have h66 : (ctr66 (S66 2000)).holds (acall table prims 2000 (D + 7)) := ho66 (D + 0)
  have e1 := acall_succ (tb := table) (pr := prims) (N := 2000) (D := D + 7) (f := 30) (fd := d30) (es := [.v U1 x0, .v U1 x1, .v U1 x2, .v U1 x3]) rfl rfl rfl rfl
  exact e1.trans (fn_of (fd := d30) (B := V14 × Int) (ent := fun b => [.v U11 b.1, .v U1 b.2]) (dr := fun es => ((decC (decV U11) (decC (decV U1) dec0)) es).map fun q => (q.1, q.2.1)) (by intro b; kernel_rfl) (fun {R} k => g30 (S65 2000) (S66 2000) x0 x1 x2 x3 (fun (r0 : V14) (r1 : Int) => k (r0, r1))) (fun k => gen30 (S65 2000) (S66 2000) h65 h66 x0 x1 x2 x3 k))
theorem ho30 (D : Nat) : (ctr30 (S30 2000)).holds (acall table prims 2000 (D + 8)) := fun a => va30 D a.1 a.2.1 a.2.2.1 a.2.2.2.1
theorem va60 (D : Nat) (x0 : V3) (x1 : V3) : acall table prims 2000 (D + 2) 60 [.v U4 x0, .v U4 x1] = (S60 2000 x0 x1).bind fun b => some [.v U1 b] := by
  have h90 : (ctr90 (S90 2000)).holds (acall table prims 2000 (D + 1)) := ho90 (D + 0)
  have e1 := acall_succ (tb := table) (pr := prims) (N := 2000) (D := D + 1) (f := 60) (fd := d60) (es := [.v U4 x0, .v U4 x1]) rfl rfl rfl rfl
  exact e1.trans (fn_of (fd := d60) (B := Int) (ent := fun b => [.v U1 b]) (dr := fun es => ((decC (decV U1) dec0) es).map fun q => (q.1)) (by intro b; kernel_rfl) (fun {R} k => g60 (S90 2000) x0 x1 (fun (r0 : Int) => k (r0))) (fun k => gen60 (S90 2000) h90 x0 x1 k))
theorem ho60 (D : Nat) : (ctr60 (S60 2000)).holds (acall table prims 2000 (D + 2)) := fun a => va60 D a.1 a.2.1
theorem va51 (D : Nat) (x0 : V3) (x1 : V3) : acall table prims 2000 (D + 3) 51 [.v U4 x0, .v U4 x1] = (S51 2000 x0 x1).bind fun b => some [.v .bool b] := by
  have h60 : (ctr60 (S60 2000)).holds (acall table prims 2000 (D + 2)) := ho60 (D + 0)
  have e1 := acall_succ (tb := table) (pr := prims) (N := 2000) (D := D + 2) (f := 51) (fd := d51) (es := [.v U4 x0, .v U4 x1]) rfl rfl rfl rfl
  exact e1.trans (fn_of (fd := d51) (B := Bool) (ent := fun b => [.v .bool b]) (dr := fun es => ((decC (decV .bool) dec0) es).map fun q => (q.1)) (by intro b; kernel_rfl) (fun {R} k => g51 (S60 2000) x0 x1 (fun (r0 : Bool) => k (r0))) (fun k => gen51 (S60 2000) h60 x0 x1 k))
theorem ho51 (D : Nat) : (ctr51 (S51 2000)).holds (acall table prims 2000 (D + 3)) := fun a => va51 D a.1 a.2.1
theorem va21 (D : Nat) (x0 : V14) (x1 : V14) : acall table prims 2000 (D + 4) 21 [.v U11 x0, .v U11 x1] = (S21 2000 x0 x1).bind fun b => some [.v .bool b] := by
  have h51 : (ctr51 (S51 2000)).holds (acall table prims 2000 (D + 3)) := ho51 (D + 0)
  have e1 := acall_succ (tb := table) (pr := prims) (N := 2000) (D := D + 3) (f := 21) (fd := d21) (es := [.v U11 x0, .v U11 x1]) rfl rfl rfl rfl
  exact e1.trans (fn_of (fd := d21) (B := Bool) (ent := fun b => [.v .bool b]) (dr := fun es => ((decC (decV .bool) dec0) es).map fun q => (q.1)) (by intro b; kernel_rfl) (fun {R} k => g21 (S51 2000) x0 x1 (fun (r0 : Bool) => k (r0))) (fun k => gen21 (S51 2000) h51 x0 x1 k))
theorem ho21 (D : Nat) : (ctr21 (S21 2000)).holds (acall table prims 2000 (D + 4)) := fun a => va21 D a.1 a.2.1
theorem va7 (D : Nat) (x0 : V11) : acall table prims 2000 (D + 12) 7 [.v U10 x0] = (S7 2000 x0).bind fun b => some [.v .bool b] := by
  have h11 : (ctr11 (S11 2000)).holds (acall table prims 2000 (D + 11)) := ho11 (D + 0)
  have h21 : (ctr21 (S21 2000)).holds (acall table prims 2000 (D + 11)) := ho21 (D + 7)
  have h27 : (ctr27 (S27 2000)).holds (acall table prims 2000 (D + 11)) := ho27 (D + 4)
  have h28 : (ctr28 (S28 2000)).holds (acall table prims 2000 (D + 11)) := ho28 (D + 3)
  have h29 : (ctr29 (S29 2000)).holds (acall table prims 2000 (D + 11)) := ho29 (D + 4)
  have h30 : (ctr30 (S30 2000)).holds (acall table prims 2000 (D + 11)) := ho30 (D + 3)
  have e1 := acall_succ (tb := table) (pr := prims) (N := 2000) (D := D + 11) (f := 7) (fd := d7) (es := [.v U10 x0]) rfl rfl rfl rfl
  exact e1.trans (fn_of (fd := d7) (B := Bool) (ent := fun b => [.v .bool b]) (dr := fun es => ((decC (decV .bool) dec0) es).map fun q => (q.1)) (by intro b; kernel_rfl) (fun {R} k => g7 (S11 2000) (S21 2000) (S27 2000) (S28 2000) (S29 2000) (S30 2000) x0 (fun (r0 : Bool) => k (r0))) (fun k => gen7 (S11 2000) (S21 2000) (S27 2000) (S28 2000) (S29 2000) (S30 2000) h11 h21 h27 h28 h29 h30 x0 k))
theorem ho7 (D : Nat) : (ctr7 (S7 2000)).holds (acall table prims 2000 (D + 12)) := fun a => va7 D a.1
end Go.Fw.L51
