/- Printed by an own program for this claim: the machine's code of functions, or their typed forms with their equations; no conditions. -/
import Derived.Test.YtggppceiapjadaaGreatFwMj19
import Derived.Test.YtggppceiapjadaaGreatFwB1
import Derived.Test.YtggppceiapjadaaGreatFwXj19
set_option linter.unusedVariables false
set_option linter.unusedSimpArgs false
namespace Go.Fw.L19
open Go Go.Fw
set_option maxRecDepth 100000
theorem ho9 (D : Nat) : (ctr9 (S9 2000)).holds (acall table prims 2000 (D + 1)) := prim_holds rfl (by intro a; kernel_rfl)
theorem ho119 (D : Nat) : (ctr119 (S119 2000)).holds (acall table prims 2000 (D + 1)) := prim_holds rfl (by intro a; kernel_rfl)
theorem ho6 (D : Nat) : (ctr6 (S6 2000)).holds (acall table prims 2000 (D + 12)) := fun a => fd6 D
theorem va31 (D : Nat) (x0 : V6) (x1 : Int) : acall table prims 2000 (D + 1) 31 [.v U0 x0, .v U2 x1] = (S31 2000 x0 x1).bind fun b => some [.v U2 b] := by
  have e1 := acall_succ (tb := table) (pr := prims) (N := 2000) (D := D + 0) (f := 31) (fd := d31) (es := [.v U0 x0, .v U2 x1]) rfl rfl rfl
  exact e1.trans (fn_of (fd := d31) (B := Int) (ent := fun b => [.v U2 b]) (dr := fun es => ((decC (decV U2) dec0) es).map fun q => (q.1)) (by intro b; kernel_rfl) (fun {R} k => g31 2000 x0 x1 (fun (r0 : Int) => k (r0))) (fun k => gen31 x0 x1 k))
theorem ho31 (D : Nat) : (ctr31 (S31 2000)).holds (acall table prims 2000 (D + 1)) := fun a => va31 D a.1 a.2.1
theorem va14 (D : Nat) (x0 : V28) : acall table prims 2000 (D + 2) 14 [.v U27 x0] = (S14 2000 x0).bind fun b => some [.v .bool b] := by
  have h31 : (ctr31 (S31 2000)).holds (acall table prims 2000 (D + 1)) := ho31 (D + 0)
  have e1 := acall_succ (tb := table) (pr := prims) (N := 2000) (D := D + 1) (f := 14) (fd := d14) (es := [.v U27 x0]) rfl rfl rfl
  exact e1.trans (fn_of (fd := d14) (B := Bool) (ent := fun b => [.v .bool b]) (dr := fun es => ((decC (decV .bool) dec0) es).map fun q => (q.1)) (by intro b; kernel_rfl) (fun {R} k => g14 2000 (S31 2000) x0 (fun (r0 : Bool) => k (r0))) (fun k => gen14 (S31 2000) h31 x0 k))
theorem ho14 (D : Nat) : (ctr14 (S14 2000)).holds (acall table prims 2000 (D + 2)) := fun a => va14 D a.1
theorem va7 (D : Nat) (x0 : V20) (x1 : Int) : acall table prims 2000 (D + 1) 7 [.v U21 x0, .v U2 x1] = (S7 2000 x0 x1).bind fun b => some [.v .bool b] := by
  have e1 := acall_succ (tb := table) (pr := prims) (N := 2000) (D := D + 0) (f := 7) (fd := d7) (es := [.v U21 x0, .v U2 x1]) rfl rfl rfl
  exact e1.trans (fn_of (fd := d7) (B := Bool) (ent := fun b => [.v .bool b]) (dr := fun es => ((decC (decV .bool) dec0) es).map fun q => (q.1)) (by intro b; kernel_rfl) (fun {R} k => g7 2000 x0 x1 (fun (r0 : Bool) => k (r0))) (fun k => gen7 x0 x1 k))
theorem ho7 (D : Nat) : (ctr7 (S7 2000)).holds (acall table prims 2000 (D + 1)) := fun a => va7 D a.1 a.2.1
theorem va15 (D : Nat) (x0 : V31) : acall table prims 2000 (D + 2) 15 [.v U32 x0] = (S15 2000 x0).bind fun b => some [.v .bool b] := by
  have h7 : (ctr7 (S7 2000)).holds (acall table prims 2000 (D + 1)) := ho7 (D + 0)
  have e1 := acall_succ (tb := table) (pr := prims) (N := 2000) (D := D + 1) (f := 15) (fd := d15) (es := [.v U32 x0]) rfl rfl rfl
  exact e1.trans (fn_of (fd := d15) (B := Bool) (ent := fun b => [.v .bool b]) (dr := fun es => ((decC (decV .bool) dec0) es).map fun q => (q.1)) (by intro b; kernel_rfl) (fun {R} k => g15 (S7 2000) x0 (fun (r0 : Bool) => k (r0))) (fun k => gen15 (S7 2000) h7 x0 k))
theorem ho15 (D : Nat) : (ctr15 (S15 2000)).holds (acall table prims 2000 (D + 2)) := fun a => va15 D a.1
theorem va93 (D : Nat) (x0 : Int) : acall table prims 2000 (D + 1) 93 [.v U1 x0] = (S93 2000 x0).bind fun b => some [.v .bool b] := by
  have e1 := acall_succ (tb := table) (pr := prims) (N := 2000) (D := D + 0) (f := 93) (fd := d93) (es := [.v U1 x0]) rfl rfl rfl
  exact e1.trans (fn_of (fd := d93) (B := Bool) (ent := fun b => [.v .bool b]) (dr := fun es => ((decC (decV .bool) dec0) es).map fun q => (q.1)) (by intro b; kernel_rfl) (fun {R} k => g93 x0 (fun (r0 : Bool) => k (r0))) (fun k => gen93 x0 k))
theorem ho93 (D : Nat) : (ctr93 (S93 2000)).holds (acall table prims 2000 (D + 1)) := fun a => va93 D a.1
theorem va94 (D : Nat) (x0 : Int) : acall table prims 2000 (D + 1) 94 [.v U1 x0] = (S94 2000 x0).bind fun b => some [.v .bool b] := by
  have e1 := acall_succ (tb := table) (pr := prims) (N := 2000) (D := D + 0) (f := 94) (fd := d94) (es := [.v U1 x0]) rfl rfl rfl
  exact e1.trans (fn_of (fd := d94) (B := Bool) (ent := fun b => [.v .bool b]) (dr := fun es => ((decC (decV .bool) dec0) es).map fun q => (q.1)) (by intro b; kernel_rfl) (fun {R} k => g94 x0 (fun (r0 : Bool) => k (r0))) (fun k => gen94 x0 k))
theorem ho94 (D : Nat) : (ctr94 (S94 2000)).holds (acall table prims 2000 (D + 1)) := fun a => va94 D a.1
theorem va82 (D : Nat) (x0 : V1) : acall table prims 2000 (D + 2) 82 [.v .str x0] = (S82 2000 x0).bind fun b => some [.v U2 b] := by
  have h93 : (ctr93 (S93 2000)).holds (acall table prims 2000 (D + 1)) := ho93 (D + 0)
  have h94 : (ctr94 (S94 2000)).holds (acall table prims 2000 (D + 1)) := ho94 (D + 0)
  have e1 := acall_succ (tb := table) (pr := prims) (N := 2000) (D := D + 1) (f := 82) (fd := d82) (es := [.v .str x0]) rfl rfl rfl
  exact e1.trans (fn_of (fd := d82) (B := Int) (ent := fun b => [.v U2 b]) (dr := fun es => ((decC (decV U2) dec0) es).map fun q => (q.1)) (by intro b; kernel_rfl) (fun {R} k => g82 2000 (S93 2000) (S94 2000) x0 (fun (r0 : Int) => k (r0))) (fun k => gen82 (S93 2000) (S94 2000) h93 h94 x0 k))
theorem ho82 (D : Nat) : (ctr82 (S82 2000)).holds (acall table prims 2000 (D + 2)) := fun a => va82 D a.1
theorem va58 (D : Nat) (x0 : V1) : acall table prims 2000 (D + 3) 58 [.v .str x0] = (S58 2000 x0).bind fun b => some [.v .bool b] := by
  have h82 : (ctr82 (S82 2000)).holds (acall table prims 2000 (D + 2)) := ho82 (D + 0)
  have e1 := acall_succ (tb := table) (pr := prims) (N := 2000) (D := D + 2) (f := 58) (fd := d58) (es := [.v .str x0]) rfl rfl rfl
  exact e1.trans (fn_of (fd := d58) (B := Bool) (ent := fun b => [.v .bool b]) (dr := fun es => ((decC (decV .bool) dec0) es).map fun q => (q.1)) (by intro b; kernel_rfl) (fun {R} k => g58 (S82 2000) x0 (fun (r0 : Bool) => k (r0))) (fun k => gen58 (S82 2000) h82 x0 k))
theorem ho58 (D : Nat) : (ctr58 (S58 2000)).holds (acall table prims 2000 (D + 3)) := fun a => va58 D a.1
theorem va114 (D : Nat) (x0 : V1) (x1 : Int) : acall table prims 2000 (D + 2) 114 [.v .str x0, .v U1 x1] = (S114 2000 x0 x1).bind fun b => some [.v U2 b] := by
  have h119 : (ctr119 (S119 2000)).holds (acall table prims 2000 (D + 1)) := ho119 (D + 0)
  have e1 := acall_succ (tb := table) (pr := prims) (N := 2000) (D := D + 1) (f := 114) (fd := d114) (es := [.v .str x0, .v U1 x1]) rfl rfl rfl
  exact e1.trans (fn_of (fd := d114) (B := Int) (ent := fun b => [.v U2 b]) (dr := fun es => ((decC (decV U2) dec0) es).map fun q => (q.1)) (by intro b; kernel_rfl) (fun {R} k => g114 (S119 2000) x0 x1 (fun (r0 : Int) => k (r0))) (fun k => gen114 (S119 2000) h119 x0 x1 k))
theorem ho114 (D : Nat) : (ctr114 (S114 2000)).holds (acall table prims 2000 (D + 2)) := fun a => va114 D a.1 a.2.1
theorem va109 (D : Nat) (x0 : Int) : acall table prims 2000 (D + 3) 109 [.v U1 x0] = (S109 2000 x0).bind fun b => some [.v .bool b] := by
  have h114 : (ctr114 (S114 2000)).holds (acall table prims 2000 (D + 2)) := ho114 (D + 0)
  have e1 := acall_succ (tb := table) (pr := prims) (N := 2000) (D := D + 2) (f := 109) (fd := d109) (es := [.v U1 x0]) rfl rfl rfl
  exact e1.trans (fn_of (fd := d109) (B := Bool) (ent := fun b => [.v .bool b]) (dr := fun es => ((decC (decV .bool) dec0) es).map fun q => (q.1)) (by intro b; kernel_rfl) (fun {R} k => g109 (S114 2000) x0 (fun (r0 : Bool) => k (r0))) (fun k => gen109 (S114 2000) h114 x0 k))
theorem ho109 (D : Nat) : (ctr109 (S109 2000)).holds (acall table prims 2000 (D + 3)) := fun a => va109 D a.1
theorem va108 (D : Nat) (x0 : Int) : acall table prims 2000 (D + 4) 108 [.v U1 x0] = (S108 2000 x0).bind fun b => some [.v .bool b] := by
  have h109 : (ctr109 (S109 2000)).holds (acall table prims 2000 (D + 3)) := ho109 (D + 0)
  have e1 := acall_succ (tb := table) (pr := prims) (N := 2000) (D := D + 3) (f := 108) (fd := d108) (es := [.v U1 x0]) rfl rfl rfl
  exact e1.trans (fn_of (fd := d108) (B := Bool) (ent := fun b => [.v .bool b]) (dr := fun es => ((decC (decV .bool) dec0) es).map fun q => (q.1)) (by intro b; kernel_rfl) (fun {R} k => g108 (S109 2000) x0 (fun (r0 : Bool) => k (r0))) (fun k => gen108 (S109 2000) h109 x0 k))
theorem ho108 (D : Nat) : (ctr108 (S108 2000)).holds (acall table prims 2000 (D + 4)) := fun a => va108 D a.1
theorem va113 (D : Nat) (x0 : V0) (x1 : V13) : acall table prims 2000 (D + 1) 113 [.v U4 x0, .v U10 x1] = (S113 2000 x0 x1).bind fun b => some [.v U2 b] := by
  have e1 := acall_succ (tb := table) (pr := prims) (N := 2000) (D := D + 0) (f := 113) (fd := d113) (es := [.v U4 x0, .v U10 x1]) rfl rfl rfl
  exact e1.trans (fn_of (fd := d113) (B := Int) (ent := fun b => [.v U2 b]) (dr := fun es => ((decC (decV U2) dec0) es).map fun q => (q.1)) (by intro b; kernel_rfl) (fun {R} k => g113 2000 x0 x1 (fun (r0 : Int) => k (r0))) (fun k => gen113 x0 x1 k))
theorem ho113 (D : Nat) : (ctr113 (S113 2000)).holds (acall table prims 2000 (D + 1)) := fun a => va113 D a.1 a.2.1
theorem va107 (D : Nat) (x0 : V0) (x1 : V13) : acall table prims 2000 (D + 2) 107 [.v U4 x0, .v U10 x1] = (S107 2000 x0 x1).bind fun b => some [.v .bool b] := by
  have h113 : (ctr113 (S113 2000)).holds (acall table prims 2000 (D + 1)) := ho113 (D + 0)
  have e1 := acall_succ (tb := table) (pr := prims) (N := 2000) (D := D + 1) (f := 107) (fd := d107) (es := [.v U4 x0, .v U10 x1]) rfl rfl rfl
  exact e1.trans (fn_of (fd := d107) (B := Bool) (ent := fun b => [.v .bool b]) (dr := fun es => ((decC (decV .bool) dec0) es).map fun q => (q.1)) (by intro b; kernel_rfl) (fun {R} k => g107 (S113 2000) x0 x1 (fun (r0 : Bool) => k (r0))) (fun k => gen107 (S113 2000) h113 x0 x1 k))
theorem ho107 (D : Nat) : (ctr107 (S107 2000)).holds (acall table prims 2000 (D + 2)) := fun a => va107 D a.1 a.2.1
theorem va110 (D : Nat) (x0 : V6) (x1 : V1) : acall table prims 2000 (D + 1) 110 [.v U0 x0, .v .str x1] = (S110 2000 x0 x1).bind fun b => some [.v .str b] := by
  have e1 := acall_succ (tb := table) (pr := prims) (N := 2000) (D := D + 0) (f := 110) (fd := d110) (es := [.v U0 x0, .v .str x1]) rfl rfl rfl
  exact e1.trans (fn_of (fd := d110) (B := V1) (ent := fun b => [.v .str b]) (dr := fun es => ((decC (decV .str) dec0) es).map fun q => (q.1)) (by intro b; kernel_rfl) (fun {R} k => g110 2000 x0 x1 (fun (r0 : V1) => k (r0))) (fun k => gen110 x0 x1 k))
theorem ho110 (D : Nat) : (ctr110 (S110 2000)).holds (acall table prims 2000 (D + 1)) := fun a => va110 D a.1 a.2.1
theorem va95 (D : Nat) (x0 : V6) : acall table prims 2000 (D + 5) 95 [.v U0 x0] = (S95 2000 x0).bind fun b => some [.v .str b.1, .v U2 b.2] := by
  have h107 : (ctr107 (S107 2000)).holds (acall table prims 2000 (D + 4)) := ho107 (D + 2)
  have h108 : (ctr108 (S108 2000)).holds (acall table prims 2000 (D + 4)) := ho108 (D + 0)
  have h110 : (ctr110 (S110 2000)).holds (acall table prims 2000 (D + 4)) := ho110 (D + 3)
  have e1 := acall_succ (tb := table) (pr := prims) (N := 2000) (D := D + 4) (f := 95) (fd := d95) (es := [.v U0 x0]) rfl rfl rfl
  exact e1.trans (fn_of (fd := d95) (B := V1 × Int) (ent := fun b => [.v .str b.1, .v U2 b.2]) (dr := fun es => ((decC (decV .str) (decC (decV U2) dec0)) es).map fun q => (q.1, q.2.1)) (by intro b; kernel_rfl) (fun {R} k => g95 2000 (S107 2000) (S108 2000) (S110 2000) x0 (fun (r0 : V1) (r1 : Int) => k (r0, r1))) (fun k => gen95 (S107 2000) (S108 2000) (S110 2000) h107 h108 h110 x0 k))
theorem ho95 (D : Nat) : (ctr95 (S95 2000)).holds (acall table prims 2000 (D + 5)) := fun a => va95 D a.1
theorem va62 (D : Nat) (x0 : V1) : acall table prims 2000 (D + 1) 62 [.v .str x0] = (S62 2000 x0).bind fun b => some [.v .str b] := by
  have e1 := acall_succ (tb := table) (pr := prims) (N := 2000) (D := D + 0) (f := 62) (fd := d62) (es := [.v .str x0]) rfl rfl rfl
  exact e1.trans (fn_of (fd := d62) (B := V1) (ent := fun b => [.v .str b]) (dr := fun es => ((decC (decV .str) dec0) es).map fun q => (q.1)) (by intro b; kernel_rfl) (fun {R} k => g62 2000 x0 (fun (r0 : V1) => k (r0))) (fun k => gen62 x0 k))
theorem ho62 (D : Nat) : (ctr62 (S62 2000)).holds (acall table prims 2000 (D + 1)) := fun a => va62 D a.1
theorem va83 (D : Nat) (x0 : V1) : acall table prims 2000 (D + 6) 83 [.v .str x0] = (S83 2000 x0).bind fun b => some [.v U2 b] := by
  have h62 : (ctr62 (S62 2000)).holds (acall table prims 2000 (D + 5)) := ho62 (D + 4)
  have h95 : (ctr95 (S95 2000)).holds (acall table prims 2000 (D + 5)) := ho95 (D + 0)
  have e1 := acall_succ (tb := table) (pr := prims) (N := 2000) (D := D + 5) (f := 83) (fd := d83) (es := [.v .str x0]) rfl rfl rfl
  exact e1.trans (fn_of (fd := d83) (B := Int) (ent := fun b => [.v U2 b]) (dr := fun es => ((decC (decV U2) dec0) es).map fun q => (q.1)) (by intro b; kernel_rfl) (fun {R} k => g83 (S62 2000) (S95 2000) x0 (fun (r0 : Int) => k (r0))) (fun k => gen83 (S62 2000) (S95 2000) h62 h95 x0 k))
theorem ho83 (D : Nat) : (ctr83 (S83 2000)).holds (acall table prims 2000 (D + 6)) := fun a => va83 D a.1
theorem va96 (D : Nat) (x0 : V6) (x1 : V1) : acall table prims 2000 (D + 1) 96 [.v U0 x0, .v .str x1] = (S96 2000 x0 x1).bind fun b => some [.v U2 b] := by
  have e1 := acall_succ (tb := table) (pr := prims) (N := 2000) (D := D + 0) (f := 96) (fd := d96) (es := [.v U0 x0, .v .str x1]) rfl rfl rfl
  exact e1.trans (fn_of (fd := d96) (B := Int) (ent := fun b => [.v U2 b]) (dr := fun es => ((decC (decV U2) dec0) es).map fun q => (q.1)) (by intro b; kernel_rfl) (fun {R} k => g96 2000 x0 x1 (fun (r0 : Int) => k (r0))) (fun k => gen96 x0 x1 k))
theorem ho96 (D : Nat) : (ctr96 (S96 2000)).holds (acall table prims 2000 (D + 1)) := fun a => va96 D a.1 a.2.1
theorem va84 (D : Nat) (x0 : V6) (x1 : V1) : acall table prims 2000 (D + 2) 84 [.v U0 x0, .v .str x1] = (S84 2000 x0 x1).bind fun b => some [.v .bool b] := by
  have h96 : (ctr96 (S96 2000)).holds (acall table prims 2000 (D + 1)) := ho96 (D + 0)
  have e1 := acall_succ (tb := table) (pr := prims) (N := 2000) (D := D + 1) (f := 84) (fd := d84) (es := [.v U0 x0, .v .str x1]) rfl rfl rfl
  exact e1.trans (fn_of (fd := d84) (B := Bool) (ent := fun b => [.v .bool b]) (dr := fun es => ((decC (decV .bool) dec0) es).map fun q => (q.1)) (by intro b; kernel_rfl) (fun {R} k => g84 (S96 2000) x0 x1 (fun (r0 : Bool) => k (r0))) (fun k => gen84 (S96 2000) h96 x0 x1 k))
theorem ho84 (D : Nat) : (ctr84 (S84 2000)).holds (acall table prims 2000 (D + 2)) := fun a => va84 D a.1 a.2.1
theorem va59 (D : Nat) (x0 : V21) : acall table prims 2000 (D + 7) 59 [.v U20 x0] = (S59 2000 x0).bind fun b => some [.v U2 b] := by
  have h83 : (ctr83 (S83 2000)).holds (acall table prims 2000 (D + 6)) := ho83 (D + 0)
  have h84 : (ctr84 (S84 2000)).holds (acall table prims 2000 (D + 6)) := ho84 (D + 4)
  have e1 := acall_succ (tb := table) (pr := prims) (N := 2000) (D := D + 6) (f := 59) (fd := d59) (es := [.v U20 x0]) rfl rfl rfl
  exact e1.trans (fn_of (fd := d59) (B := Int) (ent := fun b => [.v U2 b]) (dr := fun es => ((decC (decV U2) dec0) es).map fun q => (q.1)) (by intro b; kernel_rfl) (fun {R} k => g59 2000 (S83 2000) (S84 2000) x0 (fun (r0 : Int) => k (r0))) (fun k => gen59 (S83 2000) (S84 2000) h83 h84 x0 k))
theorem ho59 (D : Nat) : (ctr59 (S59 2000)).holds (acall table prims 2000 (D + 7)) := fun a => va59 D a.1
theorem va32 (D : Nat) (x0 : V28) : acall table prims 2000 (D + 8) 32 [.v U27 x0] = (S32 2000 x0).bind fun b => some [.v U2 b] := by
  have h58 : (ctr58 (S58 2000)).holds (acall table prims 2000 (D + 7)) := ho58 (D + 4)
  have h59 : (ctr59 (S59 2000)).holds (acall table prims 2000 (D + 7)) := ho59 (D + 0)
  have e1 := acall_succ (tb := table) (pr := prims) (N := 2000) (D := D + 7) (f := 32) (fd := d32) (es := [.v U27 x0]) rfl rfl rfl
  exact e1.trans (fn_of (fd := d32) (B := Int) (ent := fun b => [.v U2 b]) (dr := fun es => ((decC (decV U2) dec0) es).map fun q => (q.1)) (by intro b; kernel_rfl) (fun {R} k => g32 2000 (S58 2000) (S59 2000) x0 (fun (r0 : Int) => k (r0))) (fun k => gen32 (S58 2000) (S59 2000) h58 h59 x0 k))
theorem ho32 (D : Nat) : (ctr32 (S32 2000)).holds (acall table prims 2000 (D + 8)) := fun a => va32 D a.1
theorem va97 (D : Nat) (x0 : V19) : acall table prims 2000 (D + 1) 97 [.v U17 x0] = (S97 2000 x0).bind fun b => some [.v .bool b] := by
  have e1 := acall_succ (tb := table) (pr := prims) (N := 2000) (D := D + 0) (f := 97) (fd := d97) (es := [.v U17 x0]) rfl rfl rfl
  exact e1.trans (fn_of (fd := d97) (B := Bool) (ent := fun b => [.v .bool b]) (dr := fun es => ((decC (decV .bool) dec0) es).map fun q => (q.1)) (by intro b; kernel_rfl) (fun {R} k => g97 x0 (fun (r0 : Bool) => k (r0))) (fun k => gen97 x0 k))
theorem ho97 (D : Nat) : (ctr97 (S97 2000)).holds (acall table prims 2000 (D + 1)) := fun a => va97 D a.1
theorem va100 (D : Nat) (x0 : Int) : acall table prims 2000 (D + 1) 100 [.v U3 x0] = (S100 2000 x0).bind fun b => some [.v .bool b] := by
  have e1 := acall_succ (tb := table) (pr := prims) (N := 2000) (D := D + 0) (f := 100) (fd := d100) (es := [.v U3 x0]) rfl rfl rfl
  exact e1.trans (fn_of (fd := d100) (B := Bool) (ent := fun b => [.v .bool b]) (dr := fun es => ((decC (decV .bool) dec0) es).map fun q => (q.1)) (by intro b; kernel_rfl) (fun {R} k => g100 x0 (fun (r0 : Bool) => k (r0))) (fun k => gen100 x0 k))
theorem ho100 (D : Nat) : (ctr100 (S100 2000)).holds (acall table prims 2000 (D + 1)) := fun a => va100 D a.1
theorem va99 (D : Nat) (x0 : Int) : acall table prims 2000 (D + 2) 99 [.v U3 x0] = (S99 2000 x0).bind fun b => some [.v .bool b] := by
  have h100 : (ctr100 (S100 2000)).holds (acall table prims 2000 (D + 1)) := ho100 (D + 0)
  have e1 := acall_succ (tb := table) (pr := prims) (N := 2000) (D := D + 1) (f := 99) (fd := d99) (es := [.v U3 x0]) rfl rfl rfl
  exact e1.trans (fn_of (fd := d99) (B := Bool) (ent := fun b => [.v .bool b]) (dr := fun es => ((decC (decV .bool) dec0) es).map fun q => (q.1)) (by intro b; kernel_rfl) (fun {R} k => g99 (S100 2000) x0 (fun (r0 : Bool) => k (r0))) (fun k => gen99 (S100 2000) h100 x0 k))
theorem ho99 (D : Nat) : (ctr99 (S99 2000)).holds (acall table prims 2000 (D + 2)) := fun a => va99 D a.1
theorem va118 (D : Nat) (x0 : V1) (x1 : V13) (x2 : Bool) : acall table prims 2000 (D + 1) 118 [.v .str x0, .v U11 x1, .v .bool x2] = (S118 2000 x0 x1 x2).bind fun b => some [.v U2 b] := by
  have e1 := acall_succ (tb := table) (pr := prims) (N := 2000) (D := D + 0) (f := 118) (fd := d118) (es := [.v .str x0, .v U11 x1, .v .bool x2]) rfl rfl rfl
  exact e1.trans (fn_of (fd := d118) (B := Int) (ent := fun b => [.v U2 b]) (dr := fun es => ((decC (decV U2) dec0) es).map fun q => (q.1)) (by intro b; kernel_rfl) (fun {R} k => g118 2000 x0 x1 x2 (fun (r0 : Int) => k (r0))) (fun k => gen118 x0 x1 x2 k))
theorem ho118 (D : Nat) : (ctr118 (S118 2000)).holds (acall table prims 2000 (D + 1)) := fun a => va118 D a.1 a.2.1 a.2.2.1
theorem va111 (D : Nat) (x0 : V1) (x1 : V13) : acall table prims 2000 (D + 2) 111 [.v .str x0, .v U11 x1] = (S111 2000 x0 x1).bind fun b => some [.v U2 b] := by
  have h118 : (ctr118 (S118 2000)).holds (acall table prims 2000 (D + 1)) := ho118 (D + 0)
  have e1 := acall_succ (tb := table) (pr := prims) (N := 2000) (D := D + 1) (f := 111) (fd := d111) (es := [.v .str x0, .v U11 x1]) rfl rfl rfl
  exact e1.trans (fn_of (fd := d111) (B := Int) (ent := fun b => [.v U2 b]) (dr := fun es => ((decC (decV U2) dec0) es).map fun q => (q.1)) (by intro b; kernel_rfl) (fun {R} k => g111 (S118 2000) x0 x1 (fun (r0 : Int) => k (r0))) (fun k => gen111 (S118 2000) h118 x0 x1 k))
theorem ho111 (D : Nat) : (ctr111 (S111 2000)).holds (acall table prims 2000 (D + 2)) := fun a => va111 D a.1 a.2.1
theorem va98 (D : Nat) (x0 : V1) (x1 : V13) : acall table prims 2000 (D + 3) 98 [.v .str x0, .v U11 x1] = (S98 2000 x0 x1).bind fun b => some [.v .bool b] := by
  have h111 : (ctr111 (S111 2000)).holds (acall table prims 2000 (D + 2)) := ho111 (D + 0)
  have e1 := acall_succ (tb := table) (pr := prims) (N := 2000) (D := D + 2) (f := 98) (fd := d98) (es := [.v .str x0, .v U11 x1]) rfl rfl rfl
  exact e1.trans (fn_of (fd := d98) (B := Bool) (ent := fun b => [.v .bool b]) (dr := fun es => ((decC (decV .bool) dec0) es).map fun q => (q.1)) (by intro b; kernel_rfl) (fun {R} k => g98 (S111 2000) x0 x1 (fun (r0 : Bool) => k (r0))) (fun k => gen98 (S111 2000) h111 x0 x1 k))
theorem ho98 (D : Nat) : (ctr98 (S98 2000)).holds (acall table prims 2000 (D + 3)) := fun a => va98 D a.1 a.2.1
theorem va85 (D : Nat) (x0 : V19) : acall table prims 2000 (D + 4) 85 [.v U17 x0] = (S85 2000 x0).bind fun b => some [.v U2 b] := by
  have h97 : (ctr97 (S97 2000)).holds (acall table prims 2000 (D + 3)) := ho97 (D + 2)
  have h98 : (ctr98 (S98 2000)).holds (acall table prims 2000 (D + 3)) := ho98 (D + 0)
  have h99 : (ctr99 (S99 2000)).holds (acall table prims 2000 (D + 3)) := ho99 (D + 1)
  have e1 := acall_succ (tb := table) (pr := prims) (N := 2000) (D := D + 3) (f := 85) (fd := d85) (es := [.v U17 x0]) rfl rfl rfl
  exact e1.trans (fn_of (fd := d85) (B := Int) (ent := fun b => [.v U2 b]) (dr := fun es => ((decC (decV U2) dec0) es).map fun q => (q.1)) (by intro b; kernel_rfl) (fun {R} k => g85 (S97 2000) (S98 2000) (S99 2000) x0 (fun (r0 : Int) => k (r0))) (fun k => gen85 (S97 2000) (S98 2000) (S99 2000) h97 h98 h99 x0 k))
theorem ho85 (D : Nat) : (ctr85 (S85 2000)).holds (acall table prims 2000 (D + 4)) := fun a => va85 D a.1
theorem va60 (D : Nat) (x0 : V20) : acall table prims 2000 (D + 5) 60 [.v U21 x0] = (S60 2000 x0).bind fun b => some [.v U2 b] := by
  have h85 : (ctr85 (S85 2000)).holds (acall table prims 2000 (D + 4)) := ho85 (D + 0)
  have e1 := acall_succ (tb := table) (pr := prims) (N := 2000) (D := D + 4) (f := 60) (fd := d60) (es := [.v U21 x0]) rfl rfl rfl
  exact e1.trans (fn_of (fd := d60) (B := Int) (ent := fun b => [.v U2 b]) (dr := fun es => ((decC (decV U2) dec0) es).map fun q => (q.1)) (by intro b; kernel_rfl) (fun {R} k => g60 2000 (S85 2000) x0 (fun (r0 : Int) => k (r0))) (fun k => gen60 (S85 2000) h85 x0 k))
theorem ho60 (D : Nat) : (ctr60 (S60 2000)).holds (acall table prims 2000 (D + 5)) := fun a => va60 D a.1
theorem va33 (D : Nat) (x0 : V20) (x1 : V20) : acall table prims 2000 (D + 6) 33 [.v U21 x0, .v U21 x1] = (S33 2000 x0 x1).bind fun b => some [.v U2 b] := by
  have h60 : (ctr60 (S60 2000)).holds (acall table prims 2000 (D + 5)) := ho60 (D + 0)
  have e1 := acall_succ (tb := table) (pr := prims) (N := 2000) (D := D + 5) (f := 33) (fd := d33) (es := [.v U21 x0, .v U21 x1]) rfl rfl rfl
  exact e1.trans (fn_of (fd := d33) (B := Int) (ent := fun b => [.v U2 b]) (dr := fun es => ((decC (decV U2) dec0) es).map fun q => (q.1)) (by intro b; kernel_rfl) (fun {R} k => g33 (S60 2000) x0 x1 (fun (r0 : Int) => k (r0))) (fun k => gen33 (S60 2000) h60 x0 x1 k))
theorem ho33 (D : Nat) : (ctr33 (S33 2000)).holds (acall table prims 2000 (D + 6)) := fun a => va33 D a.1 a.2.1
theorem va64 (D : Nat) (x0 : V19) : acall table prims 2000 (D + 1) 64 [.v U17 x0] = (S64 2000 x0).bind fun b => some [.v .bool b] := by
  have e1 := acall_succ (tb := table) (pr := prims) (N := 2000) (D := D + 0) (f := 64) (fd := d64) (es := [.v U17 x0]) rfl rfl rfl
  exact e1.trans (fn_of (fd := d64) (B := Bool) (ent := fun b => [.v .bool b]) (dr := fun es => ((decC (decV .bool) dec0) es).map fun q => (q.1)) (by intro b; kernel_rfl) (fun {R} k => g64 x0 (fun (r0 : Bool) => k (r0))) (fun k => gen64 x0 k))
theorem ho64 (D : Nat) : (ctr64 (S64 2000)).holds (acall table prims 2000 (D + 1)) := fun a => va64 D a.1
theorem va37 (D : Nat) (x0 : V20) : acall table prims 2000 (D + 2) 37 [.v U21 x0] = (S37 2000 x0).bind fun b => some [.v U2 b] := by
  have h64 : (ctr64 (S64 2000)).holds (acall table prims 2000 (D + 1)) := ho64 (D + 0)
  have e1 := acall_succ (tb := table) (pr := prims) (N := 2000) (D := D + 1) (f := 37) (fd := d37) (es := [.v U21 x0]) rfl rfl rfl
  exact e1.trans (fn_of (fd := d37) (B := Int) (ent := fun b => [.v U2 b]) (dr := fun es => ((decC (decV U2) dec0) es).map fun q => (q.1)) (by intro b; kernel_rfl) (fun {R} k => g37 (S64 2000) x0 (fun (r0 : Int) => k (r0))) (fun k => gen37 (S64 2000) h64 x0 k))
theorem ho37 (D : Nat) : (ctr37 (S37 2000)).holds (acall table prims 2000 (D + 2)) := fun a => va37 D a.1
theorem va81 (D : Nat) (x0 : V19) : acall table prims 2000 (D + 1) 81 [.v U17 x0] = (S81 2000 x0).bind fun b => some [.v .bool b] := by
  have e1 := acall_succ (tb := table) (pr := prims) (N := 2000) (D := D + 0) (f := 81) (fd := d81) (es := [.v U17 x0]) rfl rfl rfl
  exact e1.trans (fn_of (fd := d81) (B := Bool) (ent := fun b => [.v .bool b]) (dr := fun es => ((decC (decV .bool) dec0) es).map fun q => (q.1)) (by intro b; kernel_rfl) (fun {R} k => g81 x0 (fun (r0 : Bool) => k (r0))) (fun k => gen81 x0 k))
theorem ho81 (D : Nat) : (ctr81 (S81 2000)).holds (acall table prims 2000 (D + 1)) := fun a => va81 D a.1
theorem va80 (D : Nat) (x0 : V20) (x1 : V26) : acall table prims 2000 (D + 1) 80 [.v U21 x0, .v U26 x1] = (S80 2000 x0 x1).bind fun b => some [.v U2 b] := by
  have e1 := acall_succ (tb := table) (pr := prims) (N := 2000) (D := D + 0) (f := 80) (fd := d80) (es := [.v U21 x0, .v U26 x1]) rfl rfl rfl
  exact e1.trans (fn_of (fd := d80) (B := Int) (ent := fun b => [.v U2 b]) (dr := fun es => ((decC (decV U2) dec0) es).map fun q => (q.1)) (by intro b; kernel_rfl) (fun {R} k => g80 2000 x0 x1 (fun (r0 : Int) => k (r0))) (fun k => gen80 x0 x1 k))
theorem ho80 (D : Nat) : (ctr80 (S80 2000)).holds (acall table prims 2000 (D + 1)) := fun a => va80 D a.1 a.2.1
theorem va53 (D : Nat) (x0 : V20) : acall table prims 2000 (D + 2) 53 [.v U21 x0] = (S53 2000 x0).bind fun b => some [.v U2 b] := by
  have h80 : (ctr80 (S80 2000)).holds (acall table prims 2000 (D + 1)) := ho80 (D + 0)
  have h81 : (ctr81 (S81 2000)).holds (acall table prims 2000 (D + 1)) := ho81 (D + 0)
  have e1 := acall_succ (tb := table) (pr := prims) (N := 2000) (D := D + 1) (f := 53) (fd := d53) (es := [.v U21 x0]) rfl rfl rfl
  exact e1.trans (fn_of (fd := d53) (B := Int) (ent := fun b => [.v U2 b]) (dr := fun es => ((decC (decV U2) dec0) es).map fun q => (q.1)) (by intro b; kernel_rfl) (fun {R} k => g53 (S80 2000) (S81 2000) x0 (fun (r0 : Int) => k (r0))) (fun k => gen53 (S80 2000) (S81 2000) h80 h81 x0 k))
theorem ho53 (D : Nat) : (ctr53 (S53 2000)).holds (acall table prims 2000 (D + 2)) := fun a => va53 D a.1
theorem va61 (D : Nat) (x0 : V20) : acall table prims 2000 (D + 3) 61 [.v U21 x0] = (S61 2000 x0).bind fun b => some [.v .bool b] := by
  have h53 : (ctr53 (S53 2000)).holds (acall table prims 2000 (D + 2)) := ho53 (D + 0)
  have h64 : (ctr64 (S64 2000)).holds (acall table prims 2000 (D + 2)) := ho64 (D + 1)
  have e1 := acall_succ (tb := table) (pr := prims) (N := 2000) (D := D + 2) (f := 61) (fd := d61) (es := [.v U21 x0]) rfl rfl rfl
  exact e1.trans (fn_of (fd := d61) (B := Bool) (ent := fun b => [.v .bool b]) (dr := fun es => ((decC (decV .bool) dec0) es).map fun q => (q.1)) (by intro b; kernel_rfl) (fun {R} k => g61 (S53 2000) (S64 2000) x0 (fun (r0 : Bool) => k (r0))) (fun k => gen61 (S53 2000) (S64 2000) h53 h64 x0 k))
theorem ho61 (D : Nat) : (ctr61 (S61 2000)).holds (acall table prims 2000 (D + 3)) := fun a => va61 D a.1
theorem va34 (D : Nat) (x0 : V20) (x1 : V20) : acall table prims 2000 (D + 4) 34 [.v U21 x0, .v U21 x1] = (S34 2000 x0 x1).bind fun b => some [.own true 3 U2 .no b] := by
  have h37 : (ctr37 (S37 2000)).holds (acall table prims 2000 (D + 3)) := ho37 (D + 1)
  have h61 : (ctr61 (S61 2000)).holds (acall table prims 2000 (D + 3)) := ho61 (D + 0)
  have e1 := acall_succ (tb := table) (pr := prims) (N := 2000) (D := D + 3) (f := 34) (fd := d34) (es := [.v U21 x0, .v U21 x1]) rfl rfl rfl
  exact e1.trans (fn_of (fd := d34) (B := V0) (ent := fun b => [.own true 3 U2 .no b]) (dr := fun es => ((decC (decO U2) dec0) es).map fun q => (q.1)) (by intro b; kernel_rfl) (fun {R} k => g34 (S37 2000) (S61 2000) x0 x1 (fun (r0 : V0) => k (r0))) (fun k => gen34 (S37 2000) (S61 2000) h37 h61 x0 x1 k))
theorem ho34 (D : Nat) : (ctr34 (S34 2000)).holds (acall table prims 2000 (D + 4)) := fun a => va34 D a.1 a.2.1
theorem va36 (D : Nat) (x0 : Int) (x1 : Int) : acall table prims 2000 (D + 1) 36 [.v U2 x0, .v U2 x1] = (S36 2000 x0 x1).bind fun b => some [.v U2 b] := by
  have e1 := acall_succ (tb := table) (pr := prims) (N := 2000) (D := D + 0) (f := 36) (fd := d36) (es := [.v U2 x0, .v U2 x1]) rfl rfl rfl
  exact e1.trans (fn_of (fd := d36) (B := Int) (ent := fun b => [.v U2 b]) (dr := fun es => ((decC (decV U2) dec0) es).map fun q => (q.1)) (by intro b; kernel_rfl) (fun {R} k => g36 x0 x1 (fun (r0 : Int) => k (r0))) (fun k => gen36 x0 x1 k))
theorem ho36 (D : Nat) : (ctr36 (S36 2000)).holds (acall table prims 2000 (D + 1)) := fun a => va36 D a.1 a.2.1
theorem va63 (D : Nat) (x0 : V21) (x1 : V1) : acall table prims 2000 (D + 3) 63 [.v U20 x0, .v .str x1] = (S63 2000 x0 x1).bind fun b => some [.v .bool b] := by
  have h84 : (ctr84 (S84 2000)).holds (acall table prims 2000 (D + 2)) := ho84 (D + 0)
  have e1 := acall_succ (tb := table) (pr := prims) (N := 2000) (D := D + 2) (f := 63) (fd := d63) (es := [.v U20 x0, .v .str x1]) rfl rfl rfl
  exact e1.trans (fn_of (fd := d63) (B := Bool) (ent := fun b => [.v .bool b]) (dr := fun es => ((decC (decV .bool) dec0) es).map fun q => (q.1)) (by intro b; kernel_rfl) (fun {R} k => g63 (S84 2000) x0 x1 (fun (r0 : Bool) => k (r0))) (fun k => gen63 (S84 2000) h84 x0 x1 k))
theorem ho63 (D : Nat) : (ctr63 (S63 2000)).holds (acall table prims 2000 (D + 3)) := fun a => va63 D a.1 a.2.1
theorem va35 (D : Nat) (x0 : V28) (x1 : Int) (x2 : V1) : acall table prims 2000 (D + 4) 35 [.v U27 x0, .v U2 x1, .v .str x2] = (S35 2000 x0 x1 x2).bind fun b => some [.v U2 b.1, .v .bool b.2] := by
  have h62 : (ctr62 (S62 2000)).holds (acall table prims 2000 (D + 3)) := ho62 (D + 2)
  have h63 : (ctr63 (S63 2000)).holds (acall table prims 2000 (D + 3)) := ho63 (D + 0)
  have e1 := acall_succ (tb := table) (pr := prims) (N := 2000) (D := D + 3) (f := 35) (fd := d35) (es := [.v U27 x0, .v U2 x1, .v .str x2]) rfl rfl rfl
  exact e1.trans (fn_of (fd := d35) (B := Int × Bool) (ent := fun b => [.v U2 b.1, .v .bool b.2]) (dr := fun es => ((decC (decV U2) (decC (decV .bool) dec0)) es).map fun q => (q.1, q.2.1)) (by intro b; kernel_rfl) (fun {R} k => g35 2000 (S62 2000) (S63 2000) x0 x1 x2 (fun (r0 : Int) (r1 : Bool) => k (r0, r1))) (fun k => gen35 (S62 2000) (S63 2000) h62 h63 x0 x1 x2 k))
theorem ho35 (D : Nat) : (ctr35 (S35 2000)).holds (acall table prims 2000 (D + 4)) := fun a => va35 D a.1 a.2.1 a.2.2.1
theorem va16 (D : Nat) (x0 : V28) (x1 : V1) (x2 : V1) (x3 : V20) (x4 : V20) : acall table prims 2000 (D + 9) 16 [.v U27 x0, .v .str x1, .v .str x2, .v U21 x3, .v U21 x4] = (S16 2000 x0 x1 x2 x3 x4).bind fun b => some [.own true 45 U15 .no b.1, .v U2 b.2] := by
  have h32 : (ctr32 (S32 2000)).holds (acall table prims 2000 (D + 8)) := ho32 (D + 0)
  have h33 : (ctr33 (S33 2000)).holds (acall table prims 2000 (D + 8)) := ho33 (D + 2)
  have h34 : (ctr34 (S34 2000)).holds (acall table prims 2000 (D + 8)) := ho34 (D + 4)
  have h35 : (ctr35 (S35 2000)).holds (acall table prims 2000 (D + 8)) := ho35 (D + 4)
  have h36 : (ctr36 (S36 2000)).holds (acall table prims 2000 (D + 8)) := ho36 (D + 7)
  have h37 : (ctr37 (S37 2000)).holds (acall table prims 2000 (D + 8)) := ho37 (D + 6)
  have e1 := acall_succ (tb := table) (pr := prims) (N := 2000) (D := D + 8) (f := 16) (fd := d16) (es := [.v U27 x0, .v .str x1, .v .str x2, .v U21 x3, .v U21 x4]) rfl rfl rfl
  exact e1.trans (fn_of (fd := d16) (B := V11 × Int) (ent := fun b => [.own true 45 U15 .no b.1, .v U2 b.2]) (dr := fun es => ((decC (decO U15) (decC (decV U2) dec0)) es).map fun q => (q.1, q.2.1)) (by intro b; kernel_rfl) (fun {R} k => g16 2000 (S32 2000) (S33 2000) (S34 2000) (S35 2000) (S36 2000) (S37 2000) x0 x1 x2 x3 x4 (fun (r0 : V11) (r1 : Int) => k (r0, r1))) (fun k => gen16 (S32 2000) (S33 2000) (S34 2000) (S35 2000) (S36 2000) (S37 2000) h32 h33 h34 h35 h36 h37 x0 x1 x2 x3 x4 k))
theorem ho16 (D : Nat) : (ctr16 (S16 2000)).holds (acall table prims 2000 (D + 9)) := fun a => va16 D a.1 a.2.1 a.2.2.1 a.2.2.2.1 a.2.2.2.2.1
theorem va101 (D : Nat) (x0 : Int) : acall table prims 2000 (D + 1) 101 [.v U1 x0] = (S101 2000 x0).bind fun b => some [.v .bool b] := by
  have e1 := acall_succ (tb := table) (pr := prims) (N := 2000) (D := D + 0) (f := 101) (fd := d101) (es := [.v U1 x0]) rfl rfl rfl
  exact e1.trans (fn_of (fd := d101) (B := Bool) (ent := fun b => [.v .bool b]) (dr := fun es => ((decC (decV .bool) dec0) es).map fun q => (q.1)) (by intro b; kernel_rfl) (fun {R} k => g101 x0 (fun (r0 : Bool) => k (r0))) (fun k => gen101 x0 k))
theorem ho101 (D : Nat) : (ctr101 (S101 2000)).holds (acall table prims 2000 (D + 1)) := fun a => va101 D a.1
theorem va102 (D : Nat) (x0 : Int) : acall table prims 2000 (D + 1) 102 [.v U1 x0] = (S102 2000 x0).bind fun b => some [.v .bool b] := by
  have e1 := acall_succ (tb := table) (pr := prims) (N := 2000) (D := D + 0) (f := 102) (fd := d102) (es := [.v U1 x0]) rfl rfl rfl
  exact e1.trans (fn_of (fd := d102) (B := Bool) (ent := fun b => [.v .bool b]) (dr := fun es => ((decC (decV .bool) dec0) es).map fun q => (q.1)) (by intro b; kernel_rfl) (fun {R} k => g102 x0 (fun (r0 : Bool) => k (r0))) (fun k => gen102 x0 k))
theorem ho102 (D : Nat) : (ctr102 (S102 2000)).holds (acall table prims 2000 (D + 1)) := fun a => va102 D a.1
theorem va86 (D : Nat) (x0 : V1) : acall table prims 2000 (D + 2) 86 [.v .str x0] = (S86 2000 x0).bind fun b => some [.v U2 b] := by
  have h101 : (ctr101 (S101 2000)).holds (acall table prims 2000 (D + 1)) := ho101 (D + 0)
  have h102 : (ctr102 (S102 2000)).holds (acall table prims 2000 (D + 1)) := ho102 (D + 0)
  have e1 := acall_succ (tb := table) (pr := prims) (N := 2000) (D := D + 1) (f := 86) (fd := d86) (es := [.v .str x0]) rfl rfl rfl
  exact e1.trans (fn_of (fd := d86) (B := Int) (ent := fun b => [.v U2 b]) (dr := fun es => ((decC (decV U2) dec0) es).map fun q => (q.1)) (by intro b; kernel_rfl) (fun {R} k => g86 2000 (S101 2000) (S102 2000) x0 (fun (r0 : Int) => k (r0))) (fun k => gen86 (S101 2000) (S102 2000) h101 h102 x0 k))
theorem ho86 (D : Nat) : (ctr86 (S86 2000)).holds (acall table prims 2000 (D + 2)) := fun a => va86 D a.1
theorem va65 (D : Nat) (x0 : V1) : acall table prims 2000 (D + 3) 65 [.v .str x0] = (S65 2000 x0).bind fun b => some [.v .bool b] := by
  have h86 : (ctr86 (S86 2000)).holds (acall table prims 2000 (D + 2)) := ho86 (D + 0)
  have e1 := acall_succ (tb := table) (pr := prims) (N := 2000) (D := D + 2) (f := 65) (fd := d65) (es := [.v .str x0]) rfl rfl rfl
  exact e1.trans (fn_of (fd := d65) (B := Bool) (ent := fun b => [.v .bool b]) (dr := fun es => ((decC (decV .bool) dec0) es).map fun q => (q.1)) (by intro b; kernel_rfl) (fun {R} k => g65 (S86 2000) x0 (fun (r0 : Bool) => k (r0))) (fun k => gen65 (S86 2000) h86 x0 k))
theorem ho65 (D : Nat) : (ctr65 (S65 2000)).holds (acall table prims 2000 (D + 3)) := fun a => va65 D a.1
theorem va69 (D : Nat) (x0 : V1) : acall table prims 2000 (D + 1) 69 [.v .str x0] = (S69 2000 x0).bind fun b => some [.v .str b] := by
  have e1 := acall_succ (tb := table) (pr := prims) (N := 2000) (D := D + 0) (f := 69) (fd := d69) (es := [.v .str x0]) rfl rfl rfl
  exact e1.trans (fn_of (fd := d69) (B := V1) (ent := fun b => [.v .str b]) (dr := fun es => ((decC (decV .str) dec0) es).map fun q => (q.1)) (by intro b; kernel_rfl) (fun {R} k => g69 2000 x0 (fun (r0 : V1) => k (r0))) (fun k => gen69 x0 k))
theorem ho69 (D : Nat) : (ctr69 (S69 2000)).holds (acall table prims 2000 (D + 1)) := fun a => va69 D a.1
theorem va103 (D : Nat) (x0 : Int) : acall table prims 2000 (D + 1) 103 [.v U1 x0] = (S103 2000 x0).bind fun b => some [.v .bool b] := by
  have e1 := acall_succ (tb := table) (pr := prims) (N := 2000) (D := D + 0) (f := 103) (fd := d103) (es := [.v U1 x0]) rfl rfl rfl
  exact e1.trans (fn_of (fd := d103) (B := Bool) (ent := fun b => [.v .bool b]) (dr := fun es => ((decC (decV .bool) dec0) es).map fun q => (q.1)) (by intro b; kernel_rfl) (fun {R} k => g103 2000 x0 (fun (r0 : Bool) => k (r0))) (fun k => gen103 x0 k))
theorem ho103 (D : Nat) : (ctr103 (S103 2000)).holds (acall table prims 2000 (D + 1)) := fun a => va103 D a.1
theorem va87 (D : Nat) (x0 : V1) : acall table prims 2000 (D + 2) 87 [.v .str x0] = (S87 2000 x0).bind fun b => some [.v U2 b] := by
  have h69 : (ctr69 (S69 2000)).holds (acall table prims 2000 (D + 1)) := ho69 (D + 0)
  have h103 : (ctr103 (S103 2000)).holds (acall table prims 2000 (D + 1)) := ho103 (D + 0)
  have e1 := acall_succ (tb := table) (pr := prims) (N := 2000) (D := D + 1) (f := 87) (fd := d87) (es := [.v .str x0]) rfl rfl rfl
  exact e1.trans (fn_of (fd := d87) (B := Int) (ent := fun b => [.v U2 b]) (dr := fun es => ((decC (decV U2) dec0) es).map fun q => (q.1)) (by intro b; kernel_rfl) (fun {R} k => g87 2000 (S69 2000) (S103 2000) x0 (fun (r0 : Int) => k (r0))) (fun k => gen87 (S69 2000) (S103 2000) h69 h103 x0 k))
theorem ho87 (D : Nat) : (ctr87 (S87 2000)).holds (acall table prims 2000 (D + 2)) := fun a => va87 D a.1
theorem va70 (D : Nat) (x0 : V6) (x1 : V1) : acall table prims 2000 (D + 1) 70 [.v U0 x0, .v .str x1] = (S70 2000 x0 x1).bind fun b => some [.v .bool b] := by
  have e1 := acall_succ (tb := table) (pr := prims) (N := 2000) (D := D + 0) (f := 70) (fd := d70) (es := [.v U0 x0, .v .str x1]) rfl rfl rfl
  exact e1.trans (fn_of (fd := d70) (B := Bool) (ent := fun b => [.v .bool b]) (dr := fun es => ((decC (decV .bool) dec0) es).map fun q => (q.1)) (by intro b; kernel_rfl) (fun {R} k => g70 2000 x0 x1 (fun (r0 : Bool) => k (r0))) (fun k => gen70 x0 x1 k))
theorem ho70 (D : Nat) : (ctr70 (S70 2000)).holds (acall table prims 2000 (D + 1)) := fun a => va70 D a.1 a.2.1
theorem va66 (D : Nat) (x0 : V21) : acall table prims 2000 (D + 3) 66 [.v U20 x0] = (S66 2000 x0).bind fun b => some [.v U2 b] := by
  have h70 : (ctr70 (S70 2000)).holds (acall table prims 2000 (D + 2)) := ho70 (D + 1)
  have h87 : (ctr87 (S87 2000)).holds (acall table prims 2000 (D + 2)) := ho87 (D + 0)
  have e1 := acall_succ (tb := table) (pr := prims) (N := 2000) (D := D + 2) (f := 66) (fd := d66) (es := [.v U20 x0]) rfl rfl rfl
  exact e1.trans (fn_of (fd := d66) (B := Int) (ent := fun b => [.v U2 b]) (dr := fun es => ((decC (decV U2) dec0) es).map fun q => (q.1)) (by intro b; kernel_rfl) (fun {R} k => g66 2000 (S70 2000) (S87 2000) x0 (fun (r0 : Int) => k (r0))) (fun k => gen66 (S70 2000) (S87 2000) h70 h87 x0 k))
theorem ho66 (D : Nat) : (ctr66 (S66 2000)).holds (acall table prims 2000 (D + 3)) := fun a => va66 D a.1
theorem va38 (D : Nat) (x0 : V28) : acall table prims 2000 (D + 4) 38 [.v U27 x0] = (S38 2000 x0).bind fun b => some [.v U2 b] := by
  have h65 : (ctr65 (S65 2000)).holds (acall table prims 2000 (D + 3)) := ho65 (D + 0)
  have h66 : (ctr66 (S66 2000)).holds (acall table prims 2000 (D + 3)) := ho66 (D + 0)
  have e1 := acall_succ (tb := table) (pr := prims) (N := 2000) (D := D + 3) (f := 38) (fd := d38) (es := [.v U27 x0]) rfl rfl rfl
  exact e1.trans (fn_of (fd := d38) (B := Int) (ent := fun b => [.v U2 b]) (dr := fun es => ((decC (decV U2) dec0) es).map fun q => (q.1)) (by intro b; kernel_rfl) (fun {R} k => g38 2000 (S65 2000) (S66 2000) x0 (fun (r0 : Int) => k (r0))) (fun k => gen38 (S65 2000) (S66 2000) h65 h66 x0 k))
theorem ho38 (D : Nat) : (ctr38 (S38 2000)).holds (acall table prims 2000 (D + 4)) := fun a => va38 D a.1
theorem va88 (D : Nat) (x0 : Int) : acall table prims 2000 (D + 1) 88 [.v U1 x0] = (S88 2000 x0).bind fun b => some [.v .bool b] := by
  have e1 := acall_succ (tb := table) (pr := prims) (N := 2000) (D := D + 0) (f := 88) (fd := d88) (es := [.v U1 x0]) rfl rfl rfl
  exact e1.trans (fn_of (fd := d88) (B := Bool) (ent := fun b => [.v .bool b]) (dr := fun es => ((decC (decV .bool) dec0) es).map fun q => (q.1)) (by intro b; kernel_rfl) (fun {R} k => g88 x0 (fun (r0 : Bool) => k (r0))) (fun k => gen88 x0 k))
theorem ho88 (D : Nat) : (ctr88 (S88 2000)).holds (acall table prims 2000 (D + 1)) := fun a => va88 D a.1
theorem va73 (D : Nat) (x0 : V19) : acall table prims 2000 (D + 2) 73 [.v U17 x0] = (S73 2000 x0).bind fun b => some [.v U2 b] := by
  have h88 : (ctr88 (S88 2000)).holds (acall table prims 2000 (D + 1)) := ho88 (D + 0)
  have e1 := acall_succ (tb := table) (pr := prims) (N := 2000) (D := D + 1) (f := 73) (fd := d73) (es := [.v U17 x0]) rfl rfl rfl
  exact e1.trans (fn_of (fd := d73) (B := Int) (ent := fun b => [.v U2 b]) (dr := fun es => ((decC (decV U2) dec0) es).map fun q => (q.1)) (by intro b; kernel_rfl) (fun {R} k => g73 2000 (S88 2000) x0 (fun (r0 : Int) => k (r0))) (fun k => gen73 (S88 2000) h88 x0 k))
theorem ho73 (D : Nat) : (ctr73 (S73 2000)).holds (acall table prims 2000 (D + 2)) := fun a => va73 D a.1
theorem va67 (D : Nat) (x0 : V20) : acall table prims 2000 (D + 3) 67 [.v U21 x0] = (S67 2000 x0).bind fun b => some [.v U2 b] := by
  have h73 : (ctr73 (S73 2000)).holds (acall table prims 2000 (D + 2)) := ho73 (D + 0)
  have e1 := acall_succ (tb := table) (pr := prims) (N := 2000) (D := D + 2) (f := 67) (fd := d67) (es := [.v U21 x0]) rfl rfl rfl
  exact e1.trans (fn_of (fd := d67) (B := Int) (ent := fun b => [.v U2 b]) (dr := fun es => ((decC (decV U2) dec0) es).map fun q => (q.1)) (by intro b; kernel_rfl) (fun {R} k => g67 2000 (S73 2000) x0 (fun (r0 : Int) => k (r0))) (fun k => gen67 (S73 2000) h73 x0 k))
theorem ho67 (D : Nat) : (ctr67 (S67 2000)).holds (acall table prims 2000 (D + 3)) := fun a => va67 D a.1
theorem va39 (D : Nat) (x0 : V20) (x1 : V20) : acall table prims 2000 (D + 4) 39 [.v U21 x0, .v U21 x1] = (S39 2000 x0 x1).bind fun b => some [.v U2 b] := by
  have h67 : (ctr67 (S67 2000)).holds (acall table prims 2000 (D + 3)) := ho67 (D + 0)
  have e1 := acall_succ (tb := table) (pr := prims) (N := 2000) (D := D + 3) (f := 39) (fd := d39) (es := [.v U21 x0, .v U21 x1]) rfl rfl rfl
  exact e1.trans (fn_of (fd := d39) (B := Int) (ent := fun b => [.v U2 b]) (dr := fun es => ((decC (decV U2) dec0) es).map fun q => (q.1)) (by intro b; kernel_rfl) (fun {R} k => g39 (S67 2000) x0 x1 (fun (r0 : Int) => k (r0))) (fun k => gen39 (S67 2000) h67 x0 x1 k))
theorem ho39 (D : Nat) : (ctr39 (S39 2000)).holds (acall table prims 2000 (D + 4)) := fun a => va39 D a.1 a.2.1
theorem va71 (D : Nat) (x0 : V19) : acall table prims 2000 (D + 1) 71 [.v U17 x0] = (S71 2000 x0).bind fun b => some [.v .bool b] := by
  have e1 := acall_succ (tb := table) (pr := prims) (N := 2000) (D := D + 0) (f := 71) (fd := d71) (es := [.v U17 x0]) rfl rfl rfl
  exact e1.trans (fn_of (fd := d71) (B := Bool) (ent := fun b => [.v .bool b]) (dr := fun es => ((decC (decV .bool) dec0) es).map fun q => (q.1)) (by intro b; kernel_rfl) (fun {R} k => g71 x0 (fun (r0 : Bool) => k (r0))) (fun k => gen71 x0 k))
theorem ho71 (D : Nat) : (ctr71 (S71 2000)).holds (acall table prims 2000 (D + 1)) := fun a => va71 D a.1
theorem va43 (D : Nat) (x0 : V20) : acall table prims 2000 (D + 2) 43 [.v U21 x0] = (S43 2000 x0).bind fun b => some [.v U2 b] := by
  have h71 : (ctr71 (S71 2000)).holds (acall table prims 2000 (D + 1)) := ho71 (D + 0)
  have e1 := acall_succ (tb := table) (pr := prims) (N := 2000) (D := D + 1) (f := 43) (fd := d43) (es := [.v U21 x0]) rfl rfl rfl
  exact e1.trans (fn_of (fd := d43) (B := Int) (ent := fun b => [.v U2 b]) (dr := fun es => ((decC (decV U2) dec0) es).map fun q => (q.1)) (by intro b; kernel_rfl) (fun {R} k => g43 (S71 2000) x0 (fun (r0 : Int) => k (r0))) (fun k => gen43 (S71 2000) h71 x0 k))
theorem ho43 (D : Nat) : (ctr43 (S43 2000)).holds (acall table prims 2000 (D + 2)) := fun a => va43 D a.1
theorem va56 (D : Nat) (x0 : V20) : acall table prims 2000 (D + 2) 56 [.v U21 x0] = (S56 2000 x0).bind fun b => some [.v U2 b] := by
  have h71 : (ctr71 (S71 2000)).holds (acall table prims 2000 (D + 1)) := ho71 (D + 0)
  have e1 := acall_succ (tb := table) (pr := prims) (N := 2000) (D := D + 1) (f := 56) (fd := d56) (es := [.v U21 x0]) rfl rfl rfl
  exact e1.trans (fn_of (fd := d56) (B := Int) (ent := fun b => [.v U2 b]) (dr := fun es => ((decC (decV U2) dec0) es).map fun q => (q.1)) (by intro b; kernel_rfl) (fun {R} k => g56 2000 (S71 2000) x0 (fun (r0 : Int) => k (r0))) (fun k => gen56 (S71 2000) h71 x0 k))
theorem ho56 (D : Nat) : (ctr56 (S56 2000)).holds (acall table prims 2000 (D + 2)) := fun a => va56 D a.1
theorem va68 (D : Nat) (x0 : V20) : acall table prims 2000 (D + 3) 68 [.v U21 x0] = (S68 2000 x0).bind fun b => some [.v .bool b] := by
  have h56 : (ctr56 (S56 2000)).holds (acall table prims 2000 (D + 2)) := ho56 (D + 0)
  have e1 := acall_succ (tb := table) (pr := prims) (N := 2000) (D := D + 2) (f := 68) (fd := d68) (es := [.v U21 x0]) rfl rfl rfl
  exact e1.trans (fn_of (fd := d68) (B := Bool) (ent := fun b => [.v .bool b]) (dr := fun es => ((decC (decV .bool) dec0) es).map fun q => (q.1)) (by intro b; kernel_rfl) (fun {R} k => g68 (S56 2000) x0 (fun (r0 : Bool) => k (r0))) (fun k => gen68 (S56 2000) h56 x0 k))
theorem ho68 (D : Nat) : (ctr68 (S68 2000)).holds (acall table prims 2000 (D + 3)) := fun a => va68 D a.1
theorem va40 (D : Nat) (x0 : V20) (x1 : V20) : acall table prims 2000 (D + 4) 40 [.v U21 x0, .v U21 x1] = (S40 2000 x0 x1).bind fun b => some [.own true 3 U2 .no b] := by
  have h43 : (ctr43 (S43 2000)).holds (acall table prims 2000 (D + 3)) := ho43 (D + 1)
  have h68 : (ctr68 (S68 2000)).holds (acall table prims 2000 (D + 3)) := ho68 (D + 0)
  have e1 := acall_succ (tb := table) (pr := prims) (N := 2000) (D := D + 3) (f := 40) (fd := d40) (es := [.v U21 x0, .v U21 x1]) rfl rfl rfl
  exact e1.trans (fn_of (fd := d40) (B := V0) (ent := fun b => [.own true 3 U2 .no b]) (dr := fun es => ((decC (decO U2) dec0) es).map fun q => (q.1)) (by intro b; kernel_rfl) (fun {R} k => g40 (S43 2000) (S68 2000) x0 x1 (fun (r0 : V0) => k (r0))) (fun k => gen40 (S43 2000) (S68 2000) h43 h68 x0 x1 k))
theorem ho40 (D : Nat) : (ctr40 (S40 2000)).holds (acall table prims 2000 (D + 4)) := fun a => va40 D a.1 a.2.1
theorem va42 (D : Nat) (x0 : Int) (x1 : Int) : acall table prims 2000 (D + 1) 42 [.v U2 x0, .v U2 x1] = (S42 2000 x0 x1).bind fun b => some [.v U2 b] := by
  have e1 := acall_succ (tb := table) (pr := prims) (N := 2000) (D := D + 0) (f := 42) (fd := d42) (es := [.v U2 x0, .v U2 x1]) rfl rfl rfl
  exact e1.trans (fn_of (fd := d42) (B := Int) (ent := fun b => [.v U2 b]) (dr := fun es => ((decC (decV U2) dec0) es).map fun q => (q.1)) (by intro b; kernel_rfl) (fun {R} k => g42 x0 x1 (fun (r0 : Int) => k (r0))) (fun k => gen42 x0 x1 k))
theorem ho42 (D : Nat) : (ctr42 (S42 2000)).holds (acall table prims 2000 (D + 1)) := fun a => va42 D a.1 a.2.1
theorem va41 (D : Nat) (x0 : V28) (x1 : Int) (x2 : V1) : acall table prims 2000 (D + 2) 41 [.v U27 x0, .v U2 x1, .v .str x2] = (S41 2000 x0 x1 x2).bind fun b => some [.v U2 b.1, .v .bool b.2] := by
  have h69 : (ctr69 (S69 2000)).holds (acall table prims 2000 (D + 1)) := ho69 (D + 0)
  have h70 : (ctr70 (S70 2000)).holds (acall table prims 2000 (D + 1)) := ho70 (D + 0)
  have e1 := acall_succ (tb := table) (pr := prims) (N := 2000) (D := D + 1) (f := 41) (fd := d41) (es := [.v U27 x0, .v U2 x1, .v .str x2]) rfl rfl rfl
  exact e1.trans (fn_of (fd := d41) (B := Int × Bool) (ent := fun b => [.v U2 b.1, .v .bool b.2]) (dr := fun es => ((decC (decV U2) (decC (decV .bool) dec0)) es).map fun q => (q.1, q.2.1)) (by intro b; kernel_rfl) (fun {R} k => g41 2000 (S69 2000) (S70 2000) x0 x1 x2 (fun (r0 : Int) (r1 : Bool) => k (r0, r1))) (fun k => gen41 (S69 2000) (S70 2000) h69 h70 x0 x1 x2 k))
theorem ho41 (D : Nat) : (ctr41 (S41 2000)).holds (acall table prims 2000 (D + 2)) := fun a => va41 D a.1 a.2.1 a.2.2.1
theorem va17 (D : Nat) (x0 : V28) (x1 : V1) (x2 : V1) (x3 : V20) (x4 : V20) : acall table prims 2000 (D + 5) 17 [.v U27 x0, .v .str x1, .v .str x2, .v U21 x3, .v U21 x4] = (S17 2000 x0 x1 x2 x3 x4).bind fun b => some [.own true 45 U15 .no b.1, .v U2 b.2] := by
  have h38 : (ctr38 (S38 2000)).holds (acall table prims 2000 (D + 4)) := ho38 (D + 0)
  have h39 : (ctr39 (S39 2000)).holds (acall table prims 2000 (D + 4)) := ho39 (D + 0)
  have h40 : (ctr40 (S40 2000)).holds (acall table prims 2000 (D + 4)) := ho40 (D + 0)
  have h41 : (ctr41 (S41 2000)).holds (acall table prims 2000 (D + 4)) := ho41 (D + 2)
  have h42 : (ctr42 (S42 2000)).holds (acall table prims 2000 (D + 4)) := ho42 (D + 3)
  have h43 : (ctr43 (S43 2000)).holds (acall table prims 2000 (D + 4)) := ho43 (D + 2)
  have e1 := acall_succ (tb := table) (pr := prims) (N := 2000) (D := D + 4) (f := 17) (fd := d17) (es := [.v U27 x0, .v .str x1, .v .str x2, .v U21 x3, .v U21 x4]) rfl rfl rfl
  exact e1.trans (fn_of (fd := d17) (B := V11 × Int) (ent := fun b => [.own true 45 U15 .no b.1, .v U2 b.2]) (dr := fun es => ((decC (decO U15) (decC (decV U2) dec0)) es).map fun q => (q.1, q.2.1)) (by intro b; kernel_rfl) (fun {R} k => g17 2000 (S38 2000) (S39 2000) (S40 2000) (S41 2000) (S42 2000) (S43 2000) x0 x1 x2 x3 x4 (fun (r0 : V11) (r1 : Int) => k (r0, r1))) (fun k => gen17 (S38 2000) (S39 2000) (S40 2000) (S41 2000) (S42 2000) (S43 2000) h38 h39 h40 h41 h42 h43 x0 x1 x2 x3 x4 k))
theorem ho17 (D : Nat) : (ctr17 (S17 2000)).holds (acall table prims 2000 (D + 5)) := fun a => va17 D a.1 a.2.1 a.2.2.1 a.2.2.2.1 a.2.2.2.2.1
theorem va45 (D : Nat) (x0 : V7) (x1 : V7) : acall table prims 2000 (D + 1) 45 [.v U15 x0, .v U15 x1] = (S45 2000 x0 x1).bind fun b => some [.v U2 b] := by
  have e1 := acall_succ (tb := table) (pr := prims) (N := 2000) (D := D + 0) (f := 45) (fd := d45) (es := [.v U15 x0, .v U15 x1]) rfl rfl rfl
  exact e1.trans (fn_of (fd := d45) (B := Int) (ent := fun b => [.v U2 b]) (dr := fun es => ((decC (decV U2) dec0) es).map fun q => (q.1)) (by intro b; kernel_rfl) (fun {R} k => g45 x0 x1 (fun (r0 : Int) => k (r0))) (fun k => gen45 x0 x1 k))
theorem ho45 (D : Nat) : (ctr45 (S45 2000)).holds (acall table prims 2000 (D + 1)) := fun a => va45 D a.1 a.2.1
theorem va44 (D : Nat) (x0 : V11) (x1 : V27) : acall table prims 2000 (D + 1) 44 [.v U16 x0, .v U29 x1] = (S44 2000 x0 x1).bind fun b => some [.v U15 b] := by
  have e1 := acall_succ (tb := table) (pr := prims) (N := 2000) (D := D + 0) (f := 44) (fd := d44) (es := [.v U16 x0, .v U29 x1]) rfl rfl rfl
  exact e1.trans (fn_of (fd := d44) (B := V7) (ent := fun b => [.v U15 b]) (dr := fun es => ((decC (decV U15) dec0) es).map fun q => (q.1)) (by intro b; kernel_rfl) (fun {R} k => g44 2000 x0 x1 (fun (r0 : V7) => k (r0))) (fun k => gen44 x0 x1 k))
theorem ho44 (D : Nat) : (ctr44 (S44 2000)).holds (acall table prims 2000 (D + 1)) := fun a => va44 D a.1 a.2.1
theorem va18 (D : Nat) (x0 : V28) (x1 : V1) (x2 : V1) (x3 : V20) (x4 : V20) : acall table prims 2000 (D + 10) 18 [.v U27 x0, .v .str x1, .v .str x2, .v U21 x3, .v U21 x4] = (S18 2000 x0 x1 x2 x3 x4).bind fun b => some [.v U15 b.1, .v U2 b.2] := by
  have h16 : (ctr16 (S16 2000)).holds (acall table prims 2000 (D + 9)) := ho16 (D + 0)
  have h44 : (ctr44 (S44 2000)).holds (acall table prims 2000 (D + 9)) := ho44 (D + 8)
  have h45 : (ctr45 (S45 2000)).holds (acall table prims 2000 (D + 9)) := ho45 (D + 8)
  have e1 := acall_succ (tb := table) (pr := prims) (N := 2000) (D := D + 9) (f := 18) (fd := d18) (es := [.v U27 x0, .v .str x1, .v .str x2, .v U21 x3, .v U21 x4]) rfl rfl rfl
  exact e1.trans (fn_of (fd := d18) (B := V7 × Int) (ent := fun b => [.v U15 b.1, .v U2 b.2]) (dr := fun es => ((decC (decV U15) (decC (decV U2) dec0)) es).map fun q => (q.1, q.2.1)) (by intro b; kernel_rfl) (fun {R} k => g18 (S16 2000) (S44 2000) (S45 2000) x0 x1 x2 x3 x4 (fun (r0 : V7) (r1 : Int) => k (r0, r1))) (fun k => gen18 (S16 2000) (S44 2000) (S45 2000) h16 h44 h45 x0 x1 x2 x3 x4 k))
theorem ho18 (D : Nat) : (ctr18 (S18 2000)).holds (acall table prims 2000 (D + 10)) := fun a => va18 D a.1 a.2.1 a.2.2.1 a.2.2.2.1 a.2.2.2.2.1
theorem va19 (D : Nat) (x0 : V28) (x1 : V1) (x2 : V1) (x3 : V20) (x4 : V20) : acall table prims 2000 (D + 6) 19 [.v U27 x0, .v .str x1, .v .str x2, .v U21 x3, .v U21 x4] = (S19 2000 x0 x1 x2 x3 x4).bind fun b => some [.v U15 b.1, .v U2 b.2] := by
  have h17 : (ctr17 (S17 2000)).holds (acall table prims 2000 (D + 5)) := ho17 (D + 0)
  have e1 := acall_succ (tb := table) (pr := prims) (N := 2000) (D := D + 5) (f := 19) (fd := d19) (es := [.v U27 x0, .v .str x1, .v .str x2, .v U21 x3, .v U21 x4]) rfl rfl rfl
  exact e1.trans (fn_of (fd := d19) (B := V7 × Int) (ent := fun b => [.v U15 b.1, .v U2 b.2]) (dr := fun es => ((decC (decV U15) (decC (decV U2) dec0)) es).map fun q => (q.1, q.2.1)) (by intro b; kernel_rfl) (fun {R} k => g19 2000 (S17 2000) x0 x1 x2 x3 x4 (fun (r0 : V7) (r1 : Int) => k (r0, r1))) (fun k => gen19 (S17 2000) h17 x0 x1 x2 x3 x4 k))
theorem ho19 (D : Nat) : (ctr19 (S19 2000)).holds (acall table prims 2000 (D + 6)) := fun a => va19 D a.1 a.2.1 a.2.2.1 a.2.2.2.1 a.2.2.2.2.1
theorem va20 (D : Nat) (x0 : V11) (x1 : V11) : acall table prims 2000 (D + 1) 20 [.v U16 x0, .v U16 x1] = (S20 2000 x0 x1).bind fun b => some [.v .bool b] := by
  have e1 := acall_succ (tb := table) (pr := prims) (N := 2000) (D := D + 0) (f := 20) (fd := d20) (es := [.v U16 x0, .v U16 x1]) rfl rfl rfl
  exact e1.trans (fn_of (fd := d20) (B := Bool) (ent := fun b => [.v .bool b]) (dr := fun es => ((decC (decV .bool) dec0) es).map fun q => (q.1)) (by intro b; kernel_rfl) (fun {R} k => g20 2000 x0 x1 (fun (r0 : Bool) => k (r0))) (fun k => gen20 x0 x1 k))
theorem ho20 (D : Nat) : (ctr20 (S20 2000)).holds (acall table prims 2000 (D + 1)) := fun a => va20 D a.1 a.2.1
theorem va4 (D : Nat) (x0 : V28) (x1 : V31) : acall table prims 2000 (D + 13) 4 [.v U27 x0, .v U32 x1] = (S4 2000 x0 x1).bind fun b => some [.v .bool b] := by
  have h6 : (ctr6 (S6 2000)).holds (acall table prims 2000 (D + 12)) := ho6 (D + 0)
  have h9 : (ctr9 (S9 2000)).holds (acall table prims 2000 (D + 12)) := ho9 (D + 11)
  have h14 : (ctr14 (S14 2000)).holds (acall table prims 2000 (D + 12)) := ho14 (D + 10)
  have h15 : (ctr15 (S15 2000)).holds (acall table prims 2000 (D + 12)) := ho15 (D + 10)
  have h16 : (ctr16 (S16 2000)).holds (acall table prims 2000 (D + 12)) := ho16 (D + 3)
  have h17 : (ctr17 (S17 2000)).holds (acall table prims 2000 (D + 12)) := ho17 (D + 7)
  have h18 : (ctr18 (S18 2000)).holds (acall table prims 2000 (D + 12)) := ho18 (D + 2)
  have h19 : (ctr19 (S19 2000)).holds (acall table prims 2000 (D + 12)) := ho19 (D + 6)
  have h20 : (ctr20 (S20 2000)).holds (acall table prims 2000 (D + 12)) := ho20 (D + 11)
  have e1 := acall_succ (tb := table) (pr := prims) (N := 2000) (D := D + 12) (f := 4) (fd := d4) (es := [.v U27 x0, .v U32 x1]) rfl rfl rfl
  exact e1.trans (fn_of (fd := d4) (B := Bool) (ent := fun b => [.v .bool b]) (dr := fun es => ((decC (decV .bool) dec0) es).map fun q => (q.1)) (by intro b; kernel_rfl) (fun {R} k => g4 (S6 2000) (S9 2000) (S14 2000) (S15 2000) (S16 2000) (S17 2000) (S18 2000) (S19 2000) (S20 2000) x0 x1 (fun (r0 : Bool) => k (r0))) (fun k => gen4 (S6 2000) (S9 2000) (S14 2000) (S15 2000) (S16 2000) (S17 2000) (S18 2000) (S19 2000) (S20 2000) h6 h9 h14 h15 h16 h17 h18 h19 h20 x0 x1 k))
theorem ho4 (D : Nat) : (ctr4 (S4 2000)).holds (acall table prims 2000 (D + 13)) := fun a => va4 D a.1 a.2.1
end Go.Fw.L19
