/- Printed by an own program for this claim: the machine's code of functions, or their typed forms with their equations; no conditions. -/
import Derived.Test.YtggppceiapjadaaGreatFwMc19
import Derived.Test.YtggppceiapjadaaGreatFwB1
import Derived.Test.YtggppceiapjadaaGreatFwXc19
set_option linter.unusedVariables false
set_option linter.unusedSimpArgs false
namespace Go.Fw.L19
open Go Go.Fw
set_option maxRecDepth 100000
theorem ho9 (D : Nat) : (ctr9 (S9 2000)).holds (acall table prims 2000 (D + 1)) := prim_holds rfl (by intro a; kernel_rfl)
theorem ho119 (D : Nat) : (ctr119 (S119 2000)).holds (acall table prims 2000 (D + 1)) := prim_holds rfl (by intro a; kernel_rfl)
theorem ho6 (D : Nat) : (ctr6 (S6 2000)).holds (acall table prims 2000 (D + 12)) := fun a => fd6 D
theorem va31 (D : Nat) (x0 : V6) (x1 : Int) : acall table prims 2000 (D + 1) 31 [.v U0 x0, .v U2 x1] = (S31 2000 x0 x1).bind fun b => some [.v U2 b] := by
  have e1 := acall_succ (tb := table) (pr := prims) (N := 2000) (D := D + 0) (f := 31) (fd := d31) (es := [.v U0 x0, .v U2 x1]) rfl rfl rfl
  exact e1.trans (fn_of (fd := d31) (B := Int) (ent := fun b => [.v U2 b]) (dr := fun es => ((decC (decV U2) dec0) es).map fun q => (q.1)) (by intro b; kernel_rfl) (fun {R} k => g31 2000 x0 x1 (fun (r0 : Int) => k (r0))) (fun k => gen31 x0 x1 k))
theorem ho31 (D : Nat) : (ctr31 (S31 2000)).holds (acall table prims 2000 (D + 1)) := fun a => va31 D a.1 a.2.1
theorem va14 (D : Nat) (x0 : V29) : acall table prims 2000 (D + 2) 14 [.v U27 x0] = (S14 2000 x0).bind fun b => some [.v .bool b] := by
  have h31 : (ctr31 (S31 2000)).holds (acall table prims 2000 (D + 1)) := by have := ho31 (D + 0); rwa [show D + 0 + 1 = D + 1 by omega] at this
  have e1 := acall_succ (tb := table) (pr := prims) (N := 2000) (D := D + 1) (f := 14) (fd := d14) (es := [.v U27 x0]) rfl rfl rfl
  exact e1.trans (fn_of (fd := d14) (B := Bool) (ent := fun b => [.v .bool b]) (dr := fun es => ((decC (decV .bool) dec0) es).map fun q => (q.1)) (by intro b; kernel_rfl) (fun {R} k => g14 2000 (S31 2000) x0 (fun (r0 : Bool) => k (r0))) (fun k => gen14 (S31 2000) h31 x0 k))
theorem ho14 (D : Nat) : (ctr14 (S14 2000)).holds (acall table prims 2000 (D + 2)) := fun a => va14 D a.1
theorem va46 (D : Nat) (x0 : Int) : acall table prims 2000 (D + 1) 46 [.v U1 x0] = (S46 2000 x0).bind fun b => some [.v U17 b] := by
  have e1 := acall_succ (tb := table) (pr := prims) (N := 2000) (D := D + 0) (f := 46) (fd := d46) (es := [.v U1 x0]) rfl rfl rfl
  exact e1.trans (fn_of (fd := d46) (B := V19) (ent := fun b => [.v U17 b]) (dr := fun es => ((decC (decV U17) dec0) es).map fun q => (q.1)) (by intro b; kernel_rfl) (fun {R} k => g46 x0 (fun (r0 : V19) => k (r0))) (fun k => gen46 x0 k))
theorem ho46 (D : Nat) : (ctr46 (S46 2000)).holds (acall table prims 2000 (D + 1)) := fun a => va46 D a.1
theorem va21 (D : Nat) (x0 : V0) : acall table prims 2000 (D + 2) 21 [.v U4 x0] = (S21 2000 x0).bind fun b => some [.own true 30 U17 .no b] := by
  have h46 : (ctr46 (S46 2000)).holds (acall table prims 2000 (D + 1)) := by have := ho46 (D + 0); rwa [show D + 0 + 1 = D + 1 by omega] at this
  have e1 := acall_succ (tb := table) (pr := prims) (N := 2000) (D := D + 1) (f := 21) (fd := d21) (es := [.v U4 x0]) rfl rfl rfl
  exact e1.trans (fn_of (fd := d21) (B := V21) (ent := fun b => [.own true 30 U17 .no b]) (dr := fun es => ((decC (decO U17) dec0) es).map fun q => (q.1)) (by intro b; kernel_rfl) (fun {R} k => g21 2000 (S46 2000) x0 (fun (r0 : V21) => k (r0))) (fun k => gen21 (S46 2000) h46 x0 k))
theorem ho21 (D : Nat) : (ctr21 (S21 2000)).holds (acall table prims 2000 (D + 2)) := fun a => va21 D a.1
theorem va93 (D : Nat) (x0 : Int) : acall table prims 2000 (D + 1) 93 [.v U1 x0] = (S93 2000 x0).bind fun b => some [.v .bool b] := by
  have e1 := acall_succ (tb := table) (pr := prims) (N := 2000) (D := D + 0) (f := 93) (fd := d93) (es := [.v U1 x0]) rfl rfl rfl
  exact e1.trans (fn_of (fd := d93) (B := Bool) (ent := fun b => [.v .bool b]) (dr := fun es => ((decC (decV .bool) dec0) es).map fun q => (q.1)) (by intro b; kernel_rfl) (fun {R} k => g93 x0 (fun (r0 : Bool) => k (r0))) (fun k => gen93 x0 k))
theorem ho93 (D : Nat) : (ctr93 (S93 2000)).holds (acall table prims 2000 (D + 1)) := fun a => va93 D a.1
theorem va94 (D : Nat) (x0 : Int) : acall table prims 2000 (D + 1) 94 [.v U1 x0] = (S94 2000 x0).bind fun b => some [.v .bool b] := by
  have e1 := acall_succ (tb := table) (pr := prims) (N := 2000) (D := D + 0) (f := 94) (fd := d94) (es := [.v U1 x0]) rfl rfl rfl
  exact e1.trans (fn_of (fd := d94) (B := Bool) (ent := fun b => [.v .bool b]) (dr := fun es => ((decC (decV .bool) dec0) es).map fun q => (q.1)) (by intro b; kernel_rfl) (fun {R} k => g94 x0 (fun (r0 : Bool) => k (r0))) (fun k => gen94 x0 k))
theorem ho94 (D : Nat) : (ctr94 (S94 2000)).holds (acall table prims 2000 (D + 1)) := fun a => va94 D a.1
theorem va82 (D : Nat) (x0 : V1) : acall table prims 2000 (D + 2) 82 [.v .str x0] = (S82 2000 x0).bind fun b => some [.v U2 b] := by
  have h93 : (ctr93 (S93 2000)).holds (acall table prims 2000 (D + 1)) := by have := ho93 (D + 0); rwa [show D + 0 + 1 = D + 1 by omega] at this
  have h94 : (ctr94 (S94 2000)).holds (acall table prims 2000 (D + 1)) := by have := ho94 (D + 0); rwa [show D + 0 + 1 = D + 1 by omega] at this
  have e1 := acall_succ (tb := table) (pr := prims) (N := 2000) (D := D + 1) (f := 82) (fd := d82) (es := [.v .str x0]) rfl rfl rfl
  exact e1.trans (fn_of (fd := d82) (B := Int) (ent := fun b => [.v U2 b]) (dr := fun es => ((decC (decV U2) dec0) es).map fun q => (q.1)) (by intro b; kernel_rfl) (fun {R} k => g82 2000 (S93 2000) (S94 2000) x0 (fun (r0 : Int) => k (r0))) (fun k => gen82 (S93 2000) (S94 2000) h93 h94 x0 k))
theorem ho82 (D : Nat) : (ctr82 (S82 2000)).holds (acall table prims 2000 (D + 2)) := fun a => va82 D a.1
theorem va58 (D : Nat) (x0 : V1) : acall table prims 2000 (D + 3) 58 [.v .str x0] = (S58 2000 x0).bind fun b => some [.v .bool b] := by
  have h82 : (ctr82 (S82 2000)).holds (acall table prims 2000 (D + 2)) := by have := ho82 (D + 0); rwa [show D + 0 + 2 = D + 2 by omega] at this
  have e1 := acall_succ (tb := table) (pr := prims) (N := 2000) (D := D + 2) (f := 58) (fd := d58) (es := [.v .str x0]) rfl rfl rfl
  exact e1.trans (fn_of (fd := d58) (B := Bool) (ent := fun b => [.v .bool b]) (dr := fun es => ((decC (decV .bool) dec0) es).map fun q => (q.1)) (by intro b; kernel_rfl) (fun {R} k => g58 (S82 2000) x0 (fun (r0 : Bool) => k (r0))) (fun k => gen58 (S82 2000) h82 x0 k))
theorem ho58 (D : Nat) : (ctr58 (S58 2000)).holds (acall table prims 2000 (D + 3)) := fun a => va58 D a.1
theorem va114 (D : Nat) (x0 : V1) (x1 : Int) : acall table prims 2000 (D + 2) 114 [.v .str x0, .v U1 x1] = (S114 2000 x0 x1).bind fun b => some [.v U2 b] := by
  have h119 : (ctr119 (S119 2000)).holds (acall table prims 2000 (D + 1)) := by have := ho119 (D + 0); rwa [show D + 0 + 1 = D + 1 by omega] at this
  have e1 := acall_succ (tb := table) (pr := prims) (N := 2000) (D := D + 1) (f := 114) (fd := d114) (es := [.v .str x0, .v U1 x1]) rfl rfl rfl
  exact e1.trans (fn_of (fd := d114) (B := Int) (ent := fun b => [.v U2 b]) (dr := fun es => ((decC (decV U2) dec0) es).map fun q => (q.1)) (by intro b; kernel_rfl) (fun {R} k => g114 (S119 2000) x0 x1 (fun (r0 : Int) => k (r0))) (fun k => gen114 (S119 2000) h119 x0 x1 k))
theorem ho114 (D : Nat) : (ctr114 (S114 2000)).holds (acall table prims 2000 (D + 2)) := fun a => va114 D a.1 a.2.1
theorem va109 (D : Nat) (x0 : Int) : acall table prims 2000 (D + 3) 109 [.v U1 x0] = (S109 2000 x0).bind fun b => some [.v .bool b] := by
  have h114 : (ctr114 (S114 2000)).holds (acall table prims 2000 (D + 2)) := by have := ho114 (D + 0); rwa [show D + 0 + 2 = D + 2 by omega] at this
  have e1 := acall_succ (tb := table) (pr := prims) (N := 2000) (D := D + 2) (f := 109) (fd := d109) (es := [.v U1 x0]) rfl rfl rfl
  exact e1.trans (fn_of (fd := d109) (B := Bool) (ent := fun b => [.v .bool b]) (dr := fun es => ((decC (decV .bool) dec0) es).map fun q => (q.1)) (by intro b; kernel_rfl) (fun {R} k => g109 (S114 2000) x0 (fun (r0 : Bool) => k (r0))) (fun k => gen109 (S114 2000) h114 x0 k))
theorem ho109 (D : Nat) : (ctr109 (S109 2000)).holds (acall table prims 2000 (D + 3)) := fun a => va109 D a.1
theorem va108 (D : Nat) (x0 : Int) : acall table prims 2000 (D + 4) 108 [.v U1 x0] = (S108 2000 x0).bind fun b => some [.v .bool b] := by
  have h109 : (ctr109 (S109 2000)).holds (acall table prims 2000 (D + 3)) := by have := ho109 (D + 0); rwa [show D + 0 + 3 = D + 3 by omega] at this
  have e1 := acall_succ (tb := table) (pr := prims) (N := 2000) (D := D + 3) (f := 108) (fd := d108) (es := [.v U1 x0]) rfl rfl rfl
  exact e1.trans (fn_of (fd := d108) (B := Bool) (ent := fun b => [.v .bool b]) (dr := fun es => ((decC (decV .bool) dec0) es).map fun q => (q.1)) (by intro b; kernel_rfl) (fun {R} k => g108 (S109 2000) x0 (fun (r0 : Bool) => k (r0))) (fun k => gen108 (S109 2000) h109 x0 k))
theorem ho108 (D : Nat) : (ctr108 (S108 2000)).holds (acall table prims 2000 (D + 4)) := fun a => va108 D a.1
theorem va113 (D : Nat) (x0 : V0) (x1 : V13) : acall table prims 2000 (D + 1) 113 [.v U4 x0, .v U10 x1] = (S113 2000 x0 x1).bind fun b => some [.v U2 b] := by
  have e1 := acall_succ (tb := table) (pr := prims) (N := 2000) (D := D + 0) (f := 113) (fd := d113) (es := [.v U4 x0, .v U10 x1]) rfl rfl rfl
  exact e1.trans (fn_of (fd := d113) (B := Int) (ent := fun b => [.v U2 b]) (dr := fun es => ((decC (decV U2) dec0) es).map fun q => (q.1)) (by intro b; kernel_rfl) (fun {R} k => g113 2000 x0 x1 (fun (r0 : Int) => k (r0))) (fun k => gen113 x0 x1 k))
theorem ho113 (D : Nat) : (ctr113 (S113 2000)).holds (acall table prims 2000 (D + 1)) := fun a => va113 D a.1 a.2.1
theorem va107 (D : Nat) (x0 : V0) (x1 : V13) : acall table prims 2000 (D + 2) 107 [.v U4 x0, .v U10 x1] = (S107 2000 x0 x1).bind fun b => some [.v .bool b] := by
  have h113 : (ctr113 (S113 2000)).holds (acall table prims 2000 (D + 1)) := by have := ho113 (D + 0); rwa [show D + 0 + 1 = D + 1 by omega] at this
  have e1 := acall_succ (tb := table) (pr := prims) (N := 2000) (D := D + 1) (f := 107) (fd := d107) (es := [.v U4 x0, .v U10 x1]) rfl rfl rfl
  exact e1.trans (fn_of (fd := d107) (B := Bool) (ent := fun b => [.v .bool b]) (dr := fun es => ((decC (decV .bool) dec0) es).map fun q => (q.1)) (by intro b; kernel_rfl) (fun {R} k => g107 (S113 2000) x0 x1 (fun (r0 : Bool) => k (r0))) (fun k => gen107 (S113 2000) h113 x0 x1 k))
theorem ho107 (D : Nat) : (ctr107 (S107 2000)).holds (acall table prims 2000 (D + 2)) := fun a => va107 D a.1 a.2.1
theorem va110 (D : Nat) (x0 : V6) (x1 : V1) : acall table prims 2000 (D + 1) 110 [.v U0 x0, .v .str x1] = (S110 2000 x0 x1).bind fun b => some [.v .str b] := by
  have e1 := acall_succ (tb := table) (pr := prims) (N := 2000) (D := D + 0) (f := 110) (fd := d110) (es := [.v U0 x0, .v .str x1]) rfl rfl rfl
  exact e1.trans (fn_of (fd := d110) (B := V1) (ent := fun b => [.v .str b]) (dr := fun es => ((decC (decV .str) dec0) es).map fun q => (q.1)) (by intro b; kernel_rfl) (fun {R} k => g110 2000 x0 x1 (fun (r0 : V1) => k (r0))) (fun k => gen110 x0 x1 k))
theorem ho110 (D : Nat) : (ctr110 (S110 2000)).holds (acall table prims 2000 (D + 1)) := fun a => va110 D a.1 a.2.1
theorem va95 (D : Nat) (x0 : V6) : acall table prims 2000 (D + 5) 95 [.v U0 x0] = (S95 2000 x0).bind fun b => some [.v .str b.1, .v U2 b.2] := by
  have h107 : (ctr107 (S107 2000)).holds (acall table prims 2000 (D + 4)) := by have := ho107 (D + 2); rwa [show D + 2 + 2 = D + 4 by omega] at this
  have h108 : (ctr108 (S108 2000)).holds (acall table prims 2000 (D + 4)) := by have := ho108 (D + 0); rwa [show D + 0 + 4 = D + 4 by omega] at this
  have h110 : (ctr110 (S110 2000)).holds (acall table prims 2000 (D + 4)) := by have := ho110 (D + 3); rwa [show D + 3 + 1 = D + 4 by omega] at this
  have e1 := acall_succ (tb := table) (pr := prims) (N := 2000) (D := D + 4) (f := 95) (fd := d95) (es := [.v U0 x0]) rfl rfl rfl
  exact e1.trans (fn_of (fd := d95) (B := V1 × Int) (ent := fun b => [.v .str b.1, .v U2 b.2]) (dr := fun es => ((decC (decV .str) (decC (decV U2) dec0)) es).map fun q => (q.1, q.2.1)) (by intro b; kernel_rfl) (fun {R} k => g95 2000 (S107 2000) (S108 2000) (S110 2000) x0 (fun (r0 : V1) (r1 : Int) => k (r0, r1))) (fun k => gen95 (S107 2000) (S108 2000) (S110 2000) h107 h108 h110 x0 k))
theorem ho95 (D : Nat) : (ctr95 (S95 2000)).holds (acall table prims 2000 (D + 5)) := fun a => va95 D a.1
theorem va62 (D : Nat) (x0 : V1) : acall table prims 2000 (D + 1) 62 [.v .str x0] = (S62 2000 x0).bind fun b => some [.v .str b] := by
  have e1 := acall_succ (tb := table) (pr := prims) (N := 2000) (D := D + 0) (f := 62) (fd := d62) (es := [.v .str x0]) rfl rfl rfl
  exact e1.trans (fn_of (fd := d62) (B := V1) (ent := fun b => [.v .str b]) (dr := fun es => ((decC (decV .str) dec0) es).map fun q => (q.1)) (by intro b; kernel_rfl) (fun {R} k => g62 2000 x0 (fun (r0 : V1) => k (r0))) (fun k => gen62 x0 k))
theorem ho62 (D : Nat) : (ctr62 (S62 2000)).holds (acall table prims 2000 (D + 1)) := fun a => va62 D a.1
theorem va83 (D : Nat) (x0 : V1) : acall table prims 2000 (D + 6) 83 [.v .str x0] = (S83 2000 x0).bind fun b => some [.v U2 b] := by
  have h62 : (ctr62 (S62 2000)).holds (acall table prims 2000 (D + 5)) := by have := ho62 (D + 4); rwa [show D + 4 + 1 = D + 5 by omega] at this
  have h95 : (ctr95 (S95 2000)).holds (acall table prims 2000 (D + 5)) := by have := ho95 (D + 0); rwa [show D + 0 + 5 = D + 5 by omega] at this
  have e1 := acall_succ (tb := table) (pr := prims) (N := 2000) (D := D + 5) (f := 83) (fd := d83) (es := [.v .str x0]) rfl rfl rfl
  exact e1.trans (fn_of (fd := d83) (B := Int) (ent := fun b => [.v U2 b]) (dr := fun es => ((decC (decV U2) dec0) es).map fun q => (q.1)) (by intro b; kernel_rfl) (fun {R} k => g83 (S62 2000) (S95 2000) x0 (fun (r0 : Int) => k (r0))) (fun k => gen83 (S62 2000) (S95 2000) h62 h95 x0 k))
theorem ho83 (D : Nat) : (ctr83 (S83 2000)).holds (acall table prims 2000 (D + 6)) := fun a => va83 D a.1
theorem va96 (D : Nat) (x0 : V6) (x1 : V1) : acall table prims 2000 (D + 1) 96 [.v U0 x0, .v .str x1] = (S96 2000 x0 x1).bind fun b => some [.v U2 b] := by
  have e1 := acall_succ (tb := table) (pr := prims) (N := 2000) (D := D + 0) (f := 96) (fd := d96) (es := [.v U0 x0, .v .str x1]) rfl rfl rfl
  exact e1.trans (fn_of (fd := d96) (B := Int) (ent := fun b => [.v U2 b]) (dr := fun es => ((decC (decV U2) dec0) es).map fun q => (q.1)) (by intro b; kernel_rfl) (fun {R} k => g96 2000 x0 x1 (fun (r0 : Int) => k (r0))) (fun k => gen96 x0 x1 k))
theorem ho96 (D : Nat) : (ctr96 (S96 2000)).holds (acall table prims 2000 (D + 1)) := fun a => va96 D a.1 a.2.1
theorem va84 (D : Nat) (x0 : V6) (x1 : V1) : acall table prims 2000 (D + 2) 84 [.v U0 x0, .v .str x1] = (S84 2000 x0 x1).bind fun b => some [.v .bool b] := by
  have h96 : (ctr96 (S96 2000)).holds (acall table prims 2000 (D + 1)) := by have := ho96 (D + 0); rwa [show D + 0 + 1 = D + 1 by omega] at this
  have e1 := acall_succ (tb := table) (pr := prims) (N := 2000) (D := D + 1) (f := 84) (fd := d84) (es := [.v U0 x0, .v .str x1]) rfl rfl rfl
  exact e1.trans (fn_of (fd := d84) (B := Bool) (ent := fun b => [.v .bool b]) (dr := fun es => ((decC (decV .bool) dec0) es).map fun q => (q.1)) (by intro b; kernel_rfl) (fun {R} k => g84 (S96 2000) x0 x1 (fun (r0 : Bool) => k (r0))) (fun k => gen84 (S96 2000) h96 x0 x1 k))
theorem ho84 (D : Nat) : (ctr84 (S84 2000)).holds (acall table prims 2000 (D + 2)) := fun a => va84 D a.1 a.2.1
theorem va59 (D : Nat) (x0 : V22) : acall table prims 2000 (D + 7) 59 [.v U20 x0] = (S59 2000 x0).bind fun b => some [.v U2 b] := by
  have h83 : (ctr83 (S83 2000)).holds (acall table prims 2000 (D + 6)) := by have := ho83 (D + 0); rwa [show D + 0 + 6 = D + 6 by omega] at this
  have h84 : (ctr84 (S84 2000)).holds (acall table prims 2000 (D + 6)) := by have := ho84 (D + 4); rwa [show D + 4 + 2 = D + 6 by omega] at this
  have e1 := acall_succ (tb := table) (pr := prims) (N := 2000) (D := D + 6) (f := 59) (fd := d59) (es := [.v U20 x0]) rfl rfl rfl
  exact e1.trans (fn_of (fd := d59) (B := Int) (ent := fun b => [.v U2 b]) (dr := fun es => ((decC (decV U2) dec0) es).map fun q => (q.1)) (by intro b; kernel_rfl) (fun {R} k => g59 2000 (S83 2000) (S84 2000) x0 (fun (r0 : Int) => k (r0))) (fun k => gen59 (S83 2000) (S84 2000) h83 h84 x0 k))
theorem ho59 (D : Nat) : (ctr59 (S59 2000)).holds (acall table prims 2000 (D + 7)) := fun a => va59 D a.1
theorem va32 (D : Nat) (x0 : V29) : acall table prims 2000 (D + 8) 32 [.v U27 x0] = (S32 2000 x0).bind fun b => some [.v U2 b] := by
  have h58 : (ctr58 (S58 2000)).holds (acall table prims 2000 (D + 7)) := by have := ho58 (D + 4); rwa [show D + 4 + 3 = D + 7 by omega] at this
  have h59 : (ctr59 (S59 2000)).holds (acall table prims 2000 (D + 7)) := by have := ho59 (D + 0); rwa [show D + 0 + 7 = D + 7 by omega] at this
  have e1 := acall_succ (tb := table) (pr := prims) (N := 2000) (D := D + 7) (f := 32) (fd := d32) (es := [.v U27 x0]) rfl rfl rfl
  exact e1.trans (fn_of (fd := d32) (B := Int) (ent := fun b => [.v U2 b]) (dr := fun es => ((decC (decV U2) dec0) es).map fun q => (q.1)) (by intro b; kernel_rfl) (fun {R} k => g32 2000 (S58 2000) (S59 2000) x0 (fun (r0 : Int) => k (r0))) (fun k => gen32 (S58 2000) (S59 2000) h58 h59 x0 k))
theorem ho32 (D : Nat) : (ctr32 (S32 2000)).holds (acall table prims 2000 (D + 8)) := fun a => va32 D a.1
theorem va97 (D : Nat) (x0 : V19) : acall table prims 2000 (D + 1) 97 [.v U17 x0] = (S97 2000 x0).bind fun b => some [.v .bool b] := by
  have e1 := acall_succ (tb := table) (pr := prims) (N := 2000) (D := D + 0) (f := 97) (fd := d97) (es := [.v U17 x0]) rfl rfl rfl
  exact e1.trans (fn_of (fd := d97) (B := Bool) (ent := fun b => [.v .bool b]) (dr := fun es => ((decC (decV .bool) dec0) es).map fun q => (q.1)) (by intro b; kernel_rfl) (fun {R} k => g97 x0 (fun (r0 : Bool) => k (r0))) (fun k => gen97 x0 k))
theorem ho97 (D : Nat) : (ctr97 (S97 2000)).holds (acall table prims 2000 (D + 1)) := fun a => va97 D a.1
theorem va100 (D : Nat) (x0 : Int) : acall table prims 2000 (D + 1) 100 [.v U3 x0] = (S100 2000 x0).bind fun b => some [.v .bool b] := by
  have e1 := acall_succ (tb := table) (pr := prims) (N := 2000) (D := D + 0) (f := 100) (fd := d100) (es := [.v U3 x0]) rfl rfl rfl
  exact e1.trans (fn_of (fd := d100) (B := Bool) (ent := fun b => [.v .bool b]) (dr := fun es => ((decC (decV .bool) dec0) es).map fun q => (q.1)) (by intro b; kernel_rfl) (fun {R} k => g100 x0 (fun (r0 : Bool) => k (r0))) (fun k => gen100 x0 k))
theorem ho100 (D : Nat) : (ctr100 (S100 2000)).holds (acall table prims 2000 (D + 1)) := fun a => va100 D a.1
theorem va99 (D : Nat) (x0 : Int) : acall table prims 2000 (D + 2) 99 [.v U3 x0] = (S99 2000 x0).bind fun b => some [.v .bool b] := by
  have h100 : (ctr100 (S100 2000)).holds (acall table prims 2000 (D + 1)) := by have := ho100 (D + 0); rwa [show D + 0 + 1 = D + 1 by omega] at this
  have e1 := acall_succ (tb := table) (pr := prims) (N := 2000) (D := D + 1) (f := 99) (fd := d99) (es := [.v U3 x0]) rfl rfl rfl
  exact e1.trans (fn_of (fd := d99) (B := Bool) (ent := fun b => [.v .bool b]) (dr := fun es => ((decC (decV .bool) dec0) es).map fun q => (q.1)) (by intro b; kernel_rfl) (fun {R} k => g99 (S100 2000) x0 (fun (r0 : Bool) => k (r0))) (fun k => gen99 (S100 2000) h100 x0 k))
theorem ho99 (D : Nat) : (ctr99 (S99 2000)).holds (acall table prims 2000 (D + 2)) := fun a => va99 D a.1
theorem va118 (D : Nat) (x0 : V1) (x1 : V13) (x2 : Bool) : acall table prims 2000 (D + 1) 118 [.v .str x0, .v U11 x1, .v .bool x2] = (S118 2000 x0 x1 x2).bind fun b => some [.v U2 b] := by
  have e1 := acall_succ (tb := table) (pr := prims) (N := 2000) (D := D + 0) (f := 118) (fd := d118) (es := [.v .str x0, .v U11 x1, .v .bool x2]) rfl rfl rfl
  exact e1.trans (fn_of (fd := d118) (B := Int) (ent := fun b => [.v U2 b]) (dr := fun es => ((decC (decV U2) dec0) es).map fun q => (q.1)) (by intro b; kernel_rfl) (fun {R} k => g118 2000 x0 x1 x2 (fun (r0 : Int) => k (r0))) (fun k => gen118 x0 x1 x2 k))
theorem ho118 (D : Nat) : (ctr118 (S118 2000)).holds (acall table prims 2000 (D + 1)) := fun a => va118 D a.1 a.2.1 a.2.2.1
theorem va111 (D : Nat) (x0 : V1) (x1 : V13) : acall table prims 2000 (D + 2) 111 [.v .str x0, .v U11 x1] = (S111 2000 x0 x1).bind fun b => some [.v U2 b] := by
  have h118 : (ctr118 (S118 2000)).holds (acall table prims 2000 (D + 1)) := by have := ho118 (D + 0); rwa [show D + 0 + 1 = D + 1 by omega] at this
  have e1 := acall_succ (tb := table) (pr := prims) (N := 2000) (D := D + 1) (f := 111) (fd := d111) (es := [.v .str x0, .v U11 x1]) rfl rfl rfl
  exact e1.trans (fn_of (fd := d111) (B := Int) (ent := fun b => [.v U2 b]) (dr := fun es => ((decC (decV U2) dec0) es).map fun q => (q.1)) (by intro b; kernel_rfl) (fun {R} k => g111 (S118 2000) x0 x1 (fun (r0 : Int) => k (r0))) (fun k => gen111 (S118 2000) h118 x0 x1 k))
theorem ho111 (D : Nat) : (ctr111 (S111 2000)).holds (acall table prims 2000 (D + 2)) := fun a => va111 D a.1 a.2.1
theorem va98 (D : Nat) (x0 : V1) (x1 : V13) : acall table prims 2000 (D + 3) 98 [.v .str x0, .v U11 x1] = (S98 2000 x0 x1).bind fun b => some [.v .bool b] := by
  have h111 : (ctr111 (S111 2000)).holds (acall table prims 2000 (D + 2)) := by have := ho111 (D + 0); rwa [show D + 0 + 2 = D + 2 by omega] at this
  have e1 := acall_succ (tb := table) (pr := prims) (N := 2000) (D := D + 2) (f := 98) (fd := d98) (es := [.v .str x0, .v U11 x1]) rfl rfl rfl
  exact e1.trans (fn_of (fd := d98) (B := Bool) (ent := fun b => [.v .bool b]) (dr := fun es => ((decC (decV .bool) dec0) es).map fun q => (q.1)) (by intro b; kernel_rfl) (fun {R} k => g98 (S111 2000) x0 x1 (fun (r0 : Bool) => k (r0))) (fun k => gen98 (S111 2000) h111 x0 x1 k))
theorem ho98 (D : Nat) : (ctr98 (S98 2000)).holds (acall table prims 2000 (D + 3)) := fun a => va98 D a.1 a.2.1
theorem va85 (D : Nat) (x0 : V19) : acall table prims 2000 (D + 4) 85 [.v U17 x0] = (S85 2000 x0).bind fun b => some [.v U2 b] := by
  have h97 : (ctr97 (S97 2000)).holds (acall table prims 2000 (D + 3)) := by have := ho97 (D + 2); rwa [show D + 2 + 1 = D + 3 by omega] at this
  have h98 : (ctr98 (S98 2000)).holds (acall table prims 2000 (D + 3)) := by have := ho98 (D + 0); rwa [show D + 0 + 3 = D + 3 by omega] at this
  have h99 : (ctr99 (S99 2000)).holds (acall table prims 2000 (D + 3)) := by have := ho99 (D + 1); rwa [show D + 1 + 2 = D + 3 by omega] at this
  have e1 := acall_succ (tb := table) (pr := prims) (N := 2000) (D := D + 3) (f := 85) (fd := d85) (es := [.v U17 x0]) rfl rfl rfl
  exact e1.trans (fn_of (fd := d85) (B := Int) (ent := fun b => [.v U2 b]) (dr := fun es => ((decC (decV U2) dec0) es).map fun q => (q.1)) (by intro b; kernel_rfl) (fun {R} k => g85 (S97 2000) (S98 2000) (S99 2000) x0 (fun (r0 : Int) => k (r0))) (fun k => gen85 (S97 2000) (S98 2000) (S99 2000) h97 h98 h99 x0 k))
theorem ho85 (D : Nat) : (ctr85 (S85 2000)).holds (acall table prims 2000 (D + 4)) := fun a => va85 D a.1
theorem va60 (D : Nat) (x0 : V21) : acall table prims 2000 (D + 5) 60 [.v U21 x0] = (S60 2000 x0).bind fun b => some [.v U2 b] := by
  have h85 : (ctr85 (S85 2000)).holds (acall table prims 2000 (D + 4)) := by have := ho85 (D + 0); rwa [show D + 0 + 4 = D + 4 by omega] at this
  have e1 := acall_succ (tb := table) (pr := prims) (N := 2000) (D := D + 4) (f := 60) (fd := d60) (es := [.v U21 x0]) rfl rfl rfl
  exact e1.trans (fn_of (fd := d60) (B := Int) (ent := fun b => [.v U2 b]) (dr := fun es => ((decC (decV U2) dec0) es).map fun q => (q.1)) (by intro b; kernel_rfl) (fun {R} k => g60 2000 (S85 2000) x0 (fun (r0 : Int) => k (r0))) (fun k => gen60 (S85 2000) h85 x0 k))
theorem ho60 (D : Nat) : (ctr60 (S60 2000)).holds (acall table prims 2000 (D + 5)) := fun a => va60 D a.1
theorem va33 (D : Nat) (x0 : V21) (x1 : V21) : acall table prims 2000 (D + 6) 33 [.v U21 x0, .v U21 x1] = (S33 2000 x0 x1).bind fun b => some [.v U2 b] := by
  have h60 : (ctr60 (S60 2000)).holds (acall table prims 2000 (D + 5)) := by have := ho60 (D + 0); rwa [show D + 0 + 5 = D + 5 by omega] at this
  have e1 := acall_succ (tb := table) (pr := prims) (N := 2000) (D := D + 5) (f := 33) (fd := d33) (es := [.v U21 x0, .v U21 x1]) rfl rfl rfl
  exact e1.trans (fn_of (fd := d33) (B := Int) (ent := fun b => [.v U2 b]) (dr := fun es => ((decC (decV U2) dec0) es).map fun q => (q.1)) (by intro b; kernel_rfl) (fun {R} k => g33 (S60 2000) x0 x1 (fun (r0 : Int) => k (r0))) (fun k => gen33 (S60 2000) h60 x0 x1 k))
theorem ho33 (D : Nat) : (ctr33 (S33 2000)).holds (acall table prims 2000 (D + 6)) := fun a => va33 D a.1 a.2.1
theorem va64 (D : Nat) (x0 : V19) : acall table prims 2000 (D + 1) 64 [.v U17 x0] = (S64 2000 x0).bind fun b => some [.v .bool b] := by
  have e1 := acall_succ (tb := table) (pr := prims) (N := 2000) (D := D + 0) (f := 64) (fd := d64) (es := [.v U17 x0]) rfl rfl rfl
  exact e1.trans (fn_of (fd := d64) (B := Bool) (ent := fun b => [.v .bool b]) (dr := fun es => ((decC (decV .bool) dec0) es).map fun q => (q.1)) (by intro b; kernel_rfl) (fun {R} k => g64 x0 (fun (r0 : Bool) => k (r0))) (fun k => gen64 x0 k))
theorem ho64 (D : Nat) : (ctr64 (S64 2000)).holds (acall table prims 2000 (D + 1)) := fun a => va64 D a.1
theorem va37 (D : Nat) (x0 : V21) : acall table prims 2000 (D + 2) 37 [.v U21 x0] = (S37 2000 x0).bind fun b => some [.v U2 b] := by
  have h64 : (ctr64 (S64 2000)).holds (acall table prims 2000 (D + 1)) := by have := ho64 (D + 0); rwa [show D + 0 + 1 = D + 1 by omega] at this
  have e1 := acall_succ (tb := table) (pr := prims) (N := 2000) (D := D + 1) (f := 37) (fd := d37) (es := [.v U21 x0]) rfl rfl rfl
  exact e1.trans (fn_of (fd := d37) (B := Int) (ent := fun b => [.v U2 b]) (dr := fun es => ((decC (decV U2) dec0) es).map fun q => (q.1)) (by intro b; kernel_rfl) (fun {R} k => g37 (S64 2000) x0 (fun (r0 : Int) => k (r0))) (fun k => gen37 (S64 2000) h64 x0 k))
theorem ho37 (D : Nat) : (ctr37 (S37 2000)).holds (acall table prims 2000 (D + 2)) := fun a => va37 D a.1
theorem va81 (D : Nat) (x0 : V19) : acall table prims 2000 (D + 1) 81 [.v U17 x0] = (S81 2000 x0).bind fun b => some [.v .bool b] := by
  have e1 := acall_succ (tb := table) (pr := prims) (N := 2000) (D := D + 0) (f := 81) (fd := d81) (es := [.v U17 x0]) rfl rfl rfl
  exact e1.trans (fn_of (fd := d81) (B := Bool) (ent := fun b => [.v .bool b]) (dr := fun es => ((decC (decV .bool) dec0) es).map fun q => (q.1)) (by intro b; kernel_rfl) (fun {R} k => g81 x0 (fun (r0 : Bool) => k (r0))) (fun k => gen81 x0 k))
theorem ho81 (D : Nat) : (ctr81 (S81 2000)).holds (acall table prims 2000 (D + 1)) := fun a => va81 D a.1
theorem va80 (D : Nat) (x0 : V21) (x1 : V27) : acall table prims 2000 (D + 1) 80 [.v U21 x0, .v U26 x1] = (S80 2000 x0 x1).bind fun b => some [.v U2 b] := by
  have e1 := acall_succ (tb := table) (pr := prims) (N := 2000) (D := D + 0) (f := 80) (fd := d80) (es := [.v U21 x0, .v U26 x1]) rfl rfl rfl
  exact e1.trans (fn_of (fd := d80) (B := Int) (ent := fun b => [.v U2 b]) (dr := fun es => ((decC (decV U2) dec0) es).map fun q => (q.1)) (by intro b; kernel_rfl) (fun {R} k => g80 2000 x0 x1 (fun (r0 : Int) => k (r0))) (fun k => gen80 x0 x1 k))
theorem ho80 (D : Nat) : (ctr80 (S80 2000)).holds (acall table prims 2000 (D + 1)) := fun a => va80 D a.1 a.2.1
theorem va53 (D : Nat) (x0 : V21) : acall table prims 2000 (D + 2) 53 [.v U21 x0] = (S53 2000 x0).bind fun b => some [.v U2 b] := by
  have h80 : (ctr80 (S80 2000)).holds (acall table prims 2000 (D + 1)) := by have := ho80 (D + 0); rwa [show D + 0 + 1 = D + 1 by omega] at this
  have h81 : (ctr81 (S81 2000)).holds (acall table prims 2000 (D + 1)) := by have := ho81 (D + 0); rwa [show D + 0 + 1 = D + 1 by omega] at this
  have e1 := acall_succ (tb := table) (pr := prims) (N := 2000) (D := D + 1) (f := 53) (fd := d53) (es := [.v U21 x0]) rfl rfl rfl
  exact e1.trans (fn_of (fd := d53) (B := Int) (ent := fun b => [.v U2 b]) (dr := fun es => ((decC (decV U2) dec0) es).map fun q => (q.1)) (by intro b; kernel_rfl) (fun {R} k => g53 (S80 2000) (S81 2000) x0 (fun (r0 : Int) => k (r0))) (fun k => gen53 (S80 2000) (S81 2000) h80 h81 x0 k))
theorem ho53 (D : Nat) : (ctr53 (S53 2000)).holds (acall table prims 2000 (D + 2)) := fun a => va53 D a.1
theorem va61 (D : Nat) (x0 : V21) : acall table prims 2000 (D + 3) 61 [.v U21 x0] = (S61 2000 x0).bind fun b => some [.v .bool b] := by
  have h53 : (ctr53 (S53 2000)).holds (acall table prims 2000 (D + 2)) := by have := ho53 (D + 0); rwa [show D + 0 + 2 = D + 2 by omega] at this
  have h64 : (ctr64 (S64 2000)).holds (acall table prims 2000 (D + 2)) := by have := ho64 (D + 1); rwa [show D + 1 + 1 = D + 2 by omega] at this
  have e1 := acall_succ (tb := table) (pr := prims) (N := 2000) (D := D + 2) (f := 61) (fd := d61) (es := [.v U21 x0]) rfl rfl rfl
  exact e1.trans (fn_of (fd := d61) (B := Bool) (ent := fun b => [.v .bool b]) (dr := fun es => ((decC (decV .bool) dec0) es).map fun q => (q.1)) (by intro b; kernel_rfl) (fun {R} k => g61 (S53 2000) (S64 2000) x0 (fun (r0 : Bool) => k (r0))) (fun k => gen61 (S53 2000) (S64 2000) h53 h64 x0 k))
theorem ho61 (D : Nat) : (ctr61 (S61 2000)).holds (acall table prims 2000 (D + 3)) := fun a => va61 D a.1
theorem va34 (D : Nat) (x0 : V21) (x1 : V21) : acall table prims 2000 (D + 4) 34 [.v U21 x0, .v U21 x1] = (S34 2000 x0 x1).bind fun b => some [.own true 3 U2 .no b] := by
  have h37 : (ctr37 (S37 2000)).holds (acall table prims 2000 (D + 3)) := by have := ho37 (D + 1); rwa [show D + 1 + 2 = D + 3 by omega] at this
  have h61 : (ctr61 (S61 2000)).holds (acall table prims 2000 (D + 3)) := by have := ho61 (D + 0); rwa [show D + 0 + 3 = D + 3 by omega] at this
  have e1 := acall_succ (tb := table) (pr := prims) (N := 2000) (D := D + 3) (f := 34) (fd := d34) (es := [.v U21 x0, .v U21 x1]) rfl rfl rfl
  exact e1.trans (fn_of (fd := d34) (B := V0) (ent := fun b => [.own true 3 U2 .no b]) (dr := fun es => ((decC (decO U2) dec0) es).map fun q => (q.1)) (by intro b; kernel_rfl) (fun {R} k => g34 (S37 2000) (S61 2000) x0 x1 (fun (r0 : V0) => k (r0))) (fun k => gen34 (S37 2000) (S61 2000) h37 h61 x0 x1 k))
theorem ho34 (D : Nat) : (ctr34 (S34 2000)).holds (acall table prims 2000 (D + 4)) := fun a => va34 D a.1 a.2.1
theorem va36 (D : Nat) (x0 : Int) (x1 : Int) : acall table prims 2000 (D + 1) 36 [.v U2 x0, .v U2 x1] = (S36 2000 x0 x1).bind fun b => some [.v U2 b] := by
  have e1 := acall_succ (tb := table) (pr := prims) (N := 2000) (D := D + 0) (f := 36) (fd := d36) (es := [.v U2 x0, .v U2 x1]) rfl rfl rfl
  exact e1.trans (fn_of (fd := d36) (B := Int) (ent := fun b => [.v U2 b]) (dr := fun es => ((decC (decV U2) dec0) es).map fun q => (q.1)) (by intro b; kernel_rfl) (fun {R} k => g36 x0 x1 (fun (r0 : Int) => k (r0))) (fun k => gen36 x0 x1 k))
theorem ho36 (D : Nat) : (ctr36 (S36 2000)).holds (acall table prims 2000 (D + 1)) := fun a => va36 D a.1 a.2.1
theorem va63 (D : Nat) (x0 : V22) (x1 : V1) : acall table prims 2000 (D + 3) 63 [.v U20 x0, .v .str x1] = (S63 2000 x0 x1).bind fun b => some [.v .bool b] := by
  have h84 : (ctr84 (S84 2000)).holds (acall table prims 2000 (D + 2)) := by have := ho84 (D + 0); rwa [show D + 0 + 2 = D + 2 by omega] at this
  have e1 := acall_succ (tb := table) (pr := prims) (N := 2000) (D := D + 2) (f := 63) (fd := d63) (es := [.v U20 x0, .v .str x1]) rfl rfl rfl
  exact e1.trans (fn_of (fd := d63) (B := Bool) (ent := fun b => [.v .bool b]) (dr := fun es => ((decC (decV .bool) dec0) es).map fun q => (q.1)) (by intro b; kernel_rfl) (fun {R} k => g63 (S84 2000) x0 x1 (fun (r0 : Bool) => k (r0))) (fun k => gen63 (S84 2000) h84 x0 x1 k))
theorem ho63 (D : Nat) : (ctr63 (S63 2000)).holds (acall table prims 2000 (D + 3)) := fun a => va63 D a.1 a.2.1
theorem va35 (D : Nat) (x0 : V29) (x1 : Int) (x2 : V1) : acall table prims 2000 (D + 4) 35 [.v U27 x0, .v U2 x1, .v .str x2] = (S35 2000 x0 x1 x2).bind fun b => some [.v U2 b.1, .v .bool b.2] := by
  have h62 : (ctr62 (S62 2000)).holds (acall table prims 2000 (D + 3)) := by have := ho62 (D + 2); rwa [show D + 2 + 1 = D + 3 by omega] at this
  have h63 : (ctr63 (S63 2000)).holds (acall table prims 2000 (D + 3)) := by have := ho63 (D + 0); rwa [show D + 0 + 3 = D + 3 by omega] at this
  have e1 := acall_succ (tb := table) (pr := prims) (N := 2000) (D := D + 3) (f := 35) (fd := d35) (es := [.v U27 x0, .v U2 x1, .v .str x2]) rfl rfl rfl
  exact e1.trans (fn_of (fd := d35) (B := Int × Bool) (ent := fun b => [.v U2 b.1, .v .bool b.2]) (dr := fun es => ((decC (decV U2) (decC (decV .bool) dec0)) es).map fun q => (q.1, q.2.1)) (by intro b; kernel_rfl) (fun {R} k => g35 2000 (S62 2000) (S63 2000) x0 x1 x2 (fun (r0 : Int) (r1 : Bool) => k (r0, r1))) (fun k => gen35 (S62 2000) (S63 2000) h62 h63 x0 x1 x2 k))
theorem ho35 (D : Nat) : (ctr35 (S35 2000)).holds (acall table prims 2000 (D + 4)) := fun a => va35 D a.1 a.2.1 a.2.2.1
theorem va16 (D : Nat) (x0 : V29) (x1 : V1) (x2 : V1) (x3 : V21) (x4 : V21) : acall table prims 2000 (D + 9) 16 [.v U27 x0, .v .str x1, .v .str x2, .v U21 x3, .v U21 x4] = (S16 2000 x0 x1 x2 x3 x4).bind fun b => some [.own true 45 U15 .no b.1, .v U2 b.2] := by
  have h32 : (ctr32 (S32 2000)).holds (acall table prims 2000 (D + 8)) := by have := ho32 (D + 0); rwa [show D + 0 + 8 = D + 8 by omega] at this
  have h33 : (ctr33 (S33 2000)).holds (acall table prims 2000 (D + 8)) := by have := ho33 (D + 2); rwa [show D + 2 + 6 = D + 8 by omega] at this
  have h34 : (ctr34 (S34 2000)).holds (acall table prims 2000 (D + 8)) := by have := ho34 (D + 4); rwa [show D + 4 + 4 = D + 8 by omega] at this
  have h35 : (ctr35 (S35 2000)).holds (acall table prims 2000 (D + 8)) := by have := ho35 (D + 4); rwa [show D + 4 + 4 = D + 8 by omega] at this
  have h36 : (ctr36 (S36 2000)).holds (acall table prims 2000 (D + 8)) := by have := ho36 (D + 7); rwa [show D + 7 + 1 = D + 8 by omega] at this
  have h37 : (ctr37 (S37 2000)).holds (acall table prims 2000 (D + 8)) := by have := ho37 (D + 6); rwa [show D + 6 + 2 = D + 8 by omega] at this
  have e1 := acall_succ (tb := table) (pr := prims) (N := 2000) (D := D + 8) (f := 16) (fd := d16) (es := [.v U27 x0, .v .str x1, .v .str x2, .v U21 x3, .v U21 x4]) rfl rfl rfl
  exact e1.trans (fn_of (fd := d16) (B := V11 × Int) (ent := fun b => [.own true 45 U15 .no b.1, .v U2 b.2]) (dr := fun es => ((decC (decO U15) (decC (decV U2) dec0)) es).map fun q => (q.1, q.2.1)) (by intro b; kernel_rfl) (fun {R} k => g16 2000 (S32 2000) (S33 2000) (S34 2000) (S35 2000) (S36 2000) (S37 2000) x0 x1 x2 x3 x4 (fun (r0 : V11) (r1 : Int) => k (r0, r1))) (fun k => gen16 (S32 2000) (S33 2000) (S34 2000) (S35 2000) (S36 2000) (S37 2000) h32 h33 h34 h35 h36 h37 x0 x1 x2 x3 x4 k))
theorem ho16 (D : Nat) : (ctr16 (S16 2000)).holds (acall table prims 2000 (D + 9)) := fun a => va16 D a.1 a.2.1 a.2.2.1 a.2.2.2.1 a.2.2.2.2.1
theorem va45 (D : Nat) (x0 : V7) (x1 : V7) : acall table prims 2000 (D + 1) 45 [.v U15 x0, .v U15 x1] = (S45 2000 x0 x1).bind fun b => some [.v U2 b] := by
  have e1 := acall_succ (tb := table) (pr := prims) (N := 2000) (D := D + 0) (f := 45) (fd := d45) (es := [.v U15 x0, .v U15 x1]) rfl rfl rfl
  exact e1.trans (fn_of (fd := d45) (B := Int) (ent := fun b => [.v U2 b]) (dr := fun es => ((decC (decV U2) dec0) es).map fun q => (q.1)) (by intro b; kernel_rfl) (fun {R} k => g45 x0 x1 (fun (r0 : Int) => k (r0))) (fun k => gen45 x0 x1 k))
theorem ho45 (D : Nat) : (ctr45 (S45 2000)).holds (acall table prims 2000 (D + 1)) := fun a => va45 D a.1 a.2.1
theorem va44 (D : Nat) (x0 : V11) (x1 : V28) : acall table prims 2000 (D + 1) 44 [.v U16 x0, .v U29 x1] = (S44 2000 x0 x1).bind fun b => some [.v U15 b] := by
  have e1 := acall_succ (tb := table) (pr := prims) (N := 2000) (D := D + 0) (f := 44) (fd := d44) (es := [.v U16 x0, .v U29 x1]) rfl rfl rfl
  exact e1.trans (fn_of (fd := d44) (B := V7) (ent := fun b => [.v U15 b]) (dr := fun es => ((decC (decV U15) dec0) es).map fun q => (q.1)) (by intro b; kernel_rfl) (fun {R} k => g44 2000 x0 x1 (fun (r0 : V7) => k (r0))) (fun k => gen44 x0 x1 k))
theorem ho44 (D : Nat) : (ctr44 (S44 2000)).holds (acall table prims 2000 (D + 1)) := fun a => va44 D a.1 a.2.1
theorem va18 (D : Nat) (x0 : V29) (x1 : V1) (x2 : V1) (x3 : V21) (x4 : V21) : acall table prims 2000 (D + 10) 18 [.v U27 x0, .v .str x1, .v .str x2, .v U21 x3, .v U21 x4] = (S18 2000 x0 x1 x2 x3 x4).bind fun b => some [.v U15 b.1, .v U2 b.2] := by
  have h16 : (ctr16 (S16 2000)).holds (acall table prims 2000 (D + 9)) := by have := ho16 (D + 0); rwa [show D + 0 + 9 = D + 9 by omega] at this
  have h44 : (ctr44 (S44 2000)).holds (acall table prims 2000 (D + 9)) := by have := ho44 (D + 8); rwa [show D + 8 + 1 = D + 9 by omega] at this
  have h45 : (ctr45 (S45 2000)).holds (acall table prims 2000 (D + 9)) := by have := ho45 (D + 8); rwa [show D + 8 + 1 = D + 9 by omega] at this
  have e1 := acall_succ (tb := table) (pr := prims) (N := 2000) (D := D + 9) (f := 18) (fd := d18) (es := [.v U27 x0, .v .str x1, .v .str x2, .v U21 x3, .v U21 x4]) rfl rfl rfl
  exact e1.trans (fn_of (fd := d18) (B := V7 × Int) (ent := fun b => [.v U15 b.1, .v U2 b.2]) (dr := fun es => ((decC (decV U15) (decC (decV U2) dec0)) es).map fun q => (q.1, q.2.1)) (by intro b; kernel_rfl) (fun {R} k => g18 (S16 2000) (S44 2000) (S45 2000) x0 x1 x2 x3 x4 (fun (r0 : V7) (r1 : Int) => k (r0, r1))) (fun k => gen18 (S16 2000) (S44 2000) (S45 2000) h16 h44 h45 x0 x1 x2 x3 x4 k))
theorem ho18 (D : Nat) : (ctr18 (S18 2000)).holds (acall table prims 2000 (D + 10)) := fun a => va18 D a.1 a.2.1 a.2.2.1 a.2.2.2.1 a.2.2.2.2.1
theorem va47 (D : Nat) (x0 : V11) (x1 : V7) : acall table prims 2000 (D + 1) 47 [.v U16 x0, .v U15 x1] = (S47 2000 x0 x1).bind fun b => some [.v U2 b] := by
  have e1 := acall_succ (tb := table) (pr := prims) (N := 2000) (D := D + 0) (f := 47) (fd := d47) (es := [.v U16 x0, .v U15 x1]) rfl rfl rfl
  exact e1.trans (fn_of (fd := d47) (B := Int) (ent := fun b => [.v U2 b]) (dr := fun es => ((decC (decV U2) dec0) es).map fun q => (q.1)) (by intro b; kernel_rfl) (fun {R} k => g47 2000 x0 x1 (fun (r0 : Int) => k (r0))) (fun k => gen47 x0 x1 k))
theorem ho47 (D : Nat) : (ctr47 (S47 2000)).holds (acall table prims 2000 (D + 1)) := fun a => va47 D a.1 a.2.1
theorem va22 (D : Nat) (x0 : V11) (x1 : V7) : acall table prims 2000 (D + 2) 22 [.v U16 x0, .v U15 x1] = (S22 2000 x0 x1).bind fun b => some [.v .bool b] := by
  have h47 : (ctr47 (S47 2000)).holds (acall table prims 2000 (D + 1)) := by have := ho47 (D + 0); rwa [show D + 0 + 1 = D + 1 by omega] at this
  have e1 := acall_succ (tb := table) (pr := prims) (N := 2000) (D := D + 1) (f := 22) (fd := d22) (es := [.v U16 x0, .v U15 x1]) rfl rfl rfl
  exact e1.trans (fn_of (fd := d22) (B := Bool) (ent := fun b => [.v .bool b]) (dr := fun es => ((decC (decV .bool) dec0) es).map fun q => (q.1)) (by intro b; kernel_rfl) (fun {R} k => g22 (S47 2000) x0 x1 (fun (r0 : Bool) => k (r0))) (fun k => gen22 (S47 2000) h47 x0 x1 k))
theorem ho22 (D : Nat) : (ctr22 (S22 2000)).holds (acall table prims 2000 (D + 2)) := fun a => va22 D a.1 a.2.1
theorem va24 (D : Nat) (x0 : V7) (x1 : V7) : acall table prims 2000 (D + 1) 24 [.v U15 x0, .at U15 x1] = (S24 2000 x0 x1).bind fun b => some [.v .bool b] := by
  have e1 := acall_succ (tb := table) (pr := prims) (N := 2000) (D := D + 0) (f := 24) (fd := d24) (es := [.v U15 x0, .at U15 x1]) rfl rfl rfl
  exact e1.trans (fn_of (fd := d24) (B := Bool) (ent := fun b => [.v .bool b]) (dr := fun es => ((decC (decV .bool) dec0) es).map fun q => (q.1)) (by intro b; kernel_rfl) (fun {R} k => g24 x0 x1 (fun (r0 : Bool) => k (r0))) (fun k => gen24 x0 x1 k))
theorem ho24 (D : Nat) : (ctr24 (S24 2000)).holds (acall table prims 2000 (D + 1)) := fun a => va24 D a.1 a.2.1
theorem va48 (D : Nat) (x0 : V11) (x1 : V23) : acall table prims 2000 (D + 1) 48 [.v U16 x0, .v U23 x1] = (S48 2000 x0 x1).bind fun b => some [.v U2 b] := by
  have e1 := acall_succ (tb := table) (pr := prims) (N := 2000) (D := D + 0) (f := 48) (fd := d48) (es := [.v U16 x0, .v U23 x1]) rfl rfl rfl
  exact e1.trans (fn_of (fd := d48) (B := Int) (ent := fun b => [.v U2 b]) (dr := fun es => ((decC (decV U2) dec0) es).map fun q => (q.1)) (by intro b; kernel_rfl) (fun {R} k => g48 2000 x0 x1 (fun (r0 : Int) => k (r0))) (fun k => gen48 x0 x1 k))
theorem ho48 (D : Nat) : (ctr48 (S48 2000)).holds (acall table prims 2000 (D + 1)) := fun a => va48 D a.1 a.2.1
theorem va23 (D : Nat) (x0 : V11) (x1 : V23) : acall table prims 2000 (D + 2) 23 [.v U16 x0, .v U23 x1] = (S23 2000 x0 x1).bind fun b => some [.v .bool b] := by
  have h48 : (ctr48 (S48 2000)).holds (acall table prims 2000 (D + 1)) := by have := ho48 (D + 0); rwa [show D + 0 + 1 = D + 1 by omega] at this
  have e1 := acall_succ (tb := table) (pr := prims) (N := 2000) (D := D + 1) (f := 23) (fd := d23) (es := [.v U16 x0, .v U23 x1]) rfl rfl rfl
  exact e1.trans (fn_of (fd := d23) (B := Bool) (ent := fun b => [.v .bool b]) (dr := fun es => ((decC (decV .bool) dec0) es).map fun q => (q.1)) (by intro b; kernel_rfl) (fun {R} k => g23 (S48 2000) x0 x1 (fun (r0 : Bool) => k (r0))) (fun k => gen23 (S48 2000) h48 x0 x1 k))
theorem ho23 (D : Nat) : (ctr23 (S23 2000)).holds (acall table prims 2000 (D + 2)) := fun a => va23 D a.1 a.2.1
theorem va5 (D : Nat) (x0 : V29) (x1 : V0) (x2 : V0) : acall table prims 2000 (D + 13) 5 [.v U27 x0, .v U4 x1, .v U4 x2] = (S5 2000 x0 x1 x2).bind fun b => some [.v .bool b] := by
  have h6 : (ctr6 (S6 2000)).holds (acall table prims 2000 (D + 12)) := by have := ho6 (D + 0); rwa [show D + 0 + 12 = D + 12 by omega] at this
  have h14 : (ctr14 (S14 2000)).holds (acall table prims 2000 (D + 12)) := by have := ho14 (D + 10); rwa [show D + 10 + 2 = D + 12 by omega] at this
  have h16 : (ctr16 (S16 2000)).holds (acall table prims 2000 (D + 12)) := by have := ho16 (D + 3); rwa [show D + 3 + 9 = D + 12 by omega] at this
  have h18 : (ctr18 (S18 2000)).holds (acall table prims 2000 (D + 12)) := by have := ho18 (D + 2); rwa [show D + 2 + 10 = D + 12 by omega] at this
  have h21 : (ctr21 (S21 2000)).holds (acall table prims 2000 (D + 12)) := by have := ho21 (D + 10); rwa [show D + 10 + 2 = D + 12 by omega] at this
  have h22 : (ctr22 (S22 2000)).holds (acall table prims 2000 (D + 12)) := by have := ho22 (D + 10); rwa [show D + 10 + 2 = D + 12 by omega] at this
  have h23 : (ctr23 (S23 2000)).holds (acall table prims 2000 (D + 12)) := by have := ho23 (D + 10); rwa [show D + 10 + 2 = D + 12 by omega] at this
  have h24 : (ctr24 (S24 2000)).holds (acall table prims 2000 (D + 12)) := by have := ho24 (D + 11); rwa [show D + 11 + 1 = D + 12 by omega] at this
  have e1 := acall_succ (tb := table) (pr := prims) (N := 2000) (D := D + 12) (f := 5) (fd := d5) (es := [.v U27 x0, .v U4 x1, .v U4 x2]) rfl rfl rfl
  exact e1.trans (fn_of (fd := d5) (B := Bool) (ent := fun b => [.v .bool b]) (dr := fun es => ((decC (decV .bool) dec0) es).map fun q => (q.1)) (by intro b; kernel_rfl) (fun {R} k => g5 (S6 2000) (S14 2000) (S16 2000) (S18 2000) (S21 2000) (S22 2000) (S23 2000) (S24 2000) x0 x1 x2 (fun (r0 : Bool) => k (r0))) (fun k => gen5 (S6 2000) (S14 2000) (S16 2000) (S18 2000) (S21 2000) (S22 2000) (S23 2000) (S24 2000) h6 h14 h16 h18 h21 h22 h23 h24 x0 x1 x2 k))
theorem ho5 (D : Nat) : (ctr5 (S5 2000)).holds (acall table prims 2000 (D + 13)) := fun a => va5 D a.1 a.2.1 a.2.2.1
theorem va101 (D : Nat) (x0 : Int) : acall table prims 2000 (D + 1) 101 [.v U1 x0] = (S101 2000 x0).bind fun b => some [.v .bool b] := by
  have e1 := acall_succ (tb := table) (pr := prims) (N := 2000) (D := D + 0) (f := 101) (fd := d101) (es := [.v U1 x0]) rfl rfl rfl
  exact e1.trans (fn_of (fd := d101) (B := Bool) (ent := fun b => [.v .bool b]) (dr := fun es => ((decC (decV .bool) dec0) es).map fun q => (q.1)) (by intro b; kernel_rfl) (fun {R} k => g101 x0 (fun (r0 : Bool) => k (r0))) (fun k => gen101 x0 k))
theorem ho101 (D : Nat) : (ctr101 (S101 2000)).holds (acall table prims 2000 (D + 1)) := fun a => va101 D a.1
theorem va102 (D : Nat) (x0 : Int) : acall table prims 2000 (D + 1) 102 [.v U1 x0] = (S102 2000 x0).bind fun b => some [.v .bool b] := by
  have e1 := acall_succ (tb := table) (pr := prims) (N := 2000) (D := D + 0) (f := 102) (fd := d102) (es := [.v U1 x0]) rfl rfl rfl
  exact e1.trans (fn_of (fd := d102) (B := Bool) (ent := fun b => [.v .bool b]) (dr := fun es => ((decC (decV .bool) dec0) es).map fun q => (q.1)) (by intro b; kernel_rfl) (fun {R} k => g102 x0 (fun (r0 : Bool) => k (r0))) (fun k => gen102 x0 k))
theorem ho102 (D : Nat) : (ctr102 (S102 2000)).holds (acall table prims 2000 (D + 1)) := fun a => va102 D a.1
theorem va86 (D : Nat) (x0 : V1) : acall table prims 2000 (D + 2) 86 [.v .str x0] = (S86 2000 x0).bind fun b => some [.v U2 b] := by
  have h101 : (ctr101 (S101 2000)).holds (acall table prims 2000 (D + 1)) := by have := ho101 (D + 0); rwa [show D + 0 + 1 = D + 1 by omega] at this
  have h102 : (ctr102 (S102 2000)).holds (acall table prims 2000 (D + 1)) := by have := ho102 (D + 0); rwa [show D + 0 + 1 = D + 1 by omega] at this
  have e1 := acall_succ (tb := table) (pr := prims) (N := 2000) (D := D + 1) (f := 86) (fd := d86) (es := [.v .str x0]) rfl rfl rfl
  exact e1.trans (fn_of (fd := d86) (B := Int) (ent := fun b => [.v U2 b]) (dr := fun es => ((decC (decV U2) dec0) es).map fun q => (q.1)) (by intro b; kernel_rfl) (fun {R} k => g86 2000 (S101 2000) (S102 2000) x0 (fun (r0 : Int) => k (r0))) (fun k => gen86 (S101 2000) (S102 2000) h101 h102 x0 k))
theorem ho86 (D : Nat) : (ctr86 (S86 2000)).holds (acall table prims 2000 (D + 2)) := fun a => va86 D a.1
theorem va65 (D : Nat) (x0 : V1) : acall table prims 2000 (D + 3) 65 [.v .str x0] = (S65 2000 x0).bind fun b => some [.v .bool b] := by
  have h86 : (ctr86 (S86 2000)).holds (acall table prims 2000 (D + 2)) := by have := ho86 (D + 0); rwa [show D + 0 + 2 = D + 2 by omega] at this
  have e1 := acall_succ (tb := table) (pr := prims) (N := 2000) (D := D + 2) (f := 65) (fd := d65) (es := [.v .str x0]) rfl rfl rfl
  exact e1.trans (fn_of (fd := d65) (B := Bool) (ent := fun b => [.v .bool b]) (dr := fun es => ((decC (decV .bool) dec0) es).map fun q => (q.1)) (by intro b; kernel_rfl) (fun {R} k => g65 (S86 2000) x0 (fun (r0 : Bool) => k (r0))) (fun k => gen65 (S86 2000) h86 x0 k))
theorem ho65 (D : Nat) : (ctr65 (S65 2000)).holds (acall table prims 2000 (D + 3)) := fun a => va65 D a.1
theorem va69 (D : Nat) (x0 : V1) : acall table prims 2000 (D + 1) 69 [.v .str x0] = (S69 2000 x0).bind fun b => some [.v .str b] := by
  have e1 := acall_succ (tb := table) (pr := prims) (N := 2000) (D := D + 0) (f := 69) (fd := d69) (es := [.v .str x0]) rfl rfl rfl
  exact e1.trans (fn_of (fd := d69) (B := V1) (ent := fun b => [.v .str b]) (dr := fun es => ((decC (decV .str) dec0) es).map fun q => (q.1)) (by intro b; kernel_rfl) (fun {R} k => g69 2000 x0 (fun (r0 : V1) => k (r0))) (fun k => gen69 x0 k))
theorem ho69 (D : Nat) : (ctr69 (S69 2000)).holds (acall table prims 2000 (D + 1)) := fun a => va69 D a.1
theorem va103 (D : Nat) (x0 : Int) : acall table prims 2000 (D + 1) 103 [.v U1 x0] = (S103 2000 x0).bind fun b => some [.v .bool b] := by
  have e1 := acall_succ (tb := table) (pr := prims) (N := 2000) (D := D + 0) (f := 103) (fd := d103) (es := [.v U1 x0]) rfl rfl rfl
  exact e1.trans (fn_of (fd := d103) (B := Bool) (ent := fun b => [.v .bool b]) (dr := fun es => ((decC (decV .bool) dec0) es).map fun q => (q.1)) (by intro b; kernel_rfl) (fun {R} k => g103 2000 x0 (fun (r0 : Bool) => k (r0))) (fun k => gen103 x0 k))
theorem ho103 (D : Nat) : (ctr103 (S103 2000)).holds (acall table prims 2000 (D + 1)) := fun a => va103 D a.1
theorem va87 (D : Nat) (x0 : V1) : acall table prims 2000 (D + 2) 87 [.v .str x0] = (S87 2000 x0).bind fun b => some [.v U2 b] := by
  have h69 : (ctr69 (S69 2000)).holds (acall table prims 2000 (D + 1)) := by have := ho69 (D + 0); rwa [show D + 0 + 1 = D + 1 by omega] at this
  have h103 : (ctr103 (S103 2000)).holds (acall table prims 2000 (D + 1)) := by have := ho103 (D + 0); rwa [show D + 0 + 1 = D + 1 by omega] at this
  have e1 := acall_succ (tb := table) (pr := prims) (N := 2000) (D := D + 1) (f := 87) (fd := d87) (es := [.v .str x0]) rfl rfl rfl
  exact e1.trans (fn_of (fd := d87) (B := Int) (ent := fun b => [.v U2 b]) (dr := fun es => ((decC (decV U2) dec0) es).map fun q => (q.1)) (by intro b; kernel_rfl) (fun {R} k => g87 2000 (S69 2000) (S103 2000) x0 (fun (r0 : Int) => k (r0))) (fun k => gen87 (S69 2000) (S103 2000) h69 h103 x0 k))
theorem ho87 (D : Nat) : (ctr87 (S87 2000)).holds (acall table prims 2000 (D + 2)) := fun a => va87 D a.1
theorem va70 (D : Nat) (x0 : V6) (x1 : V1) : acall table prims 2000 (D + 1) 70 [.v U0 x0, .v .str x1] = (S70 2000 x0 x1).bind fun b => some [.v .bool b] := by
  have e1 := acall_succ (tb := table) (pr := prims) (N := 2000) (D := D + 0) (f := 70) (fd := d70) (es := [.v U0 x0, .v .str x1]) rfl rfl rfl
  exact e1.trans (fn_of (fd := d70) (B := Bool) (ent := fun b => [.v .bool b]) (dr := fun es => ((decC (decV .bool) dec0) es).map fun q => (q.1)) (by intro b; kernel_rfl) (fun {R} k => g70 2000 x0 x1 (fun (r0 : Bool) => k (r0))) (fun k => gen70 x0 x1 k))
theorem ho70 (D : Nat) : (ctr70 (S70 2000)).holds (acall table prims 2000 (D + 1)) := fun a => va70 D a.1 a.2.1
theorem va66 (D : Nat) (x0 : V22) : acall table prims 2000 (D + 3) 66 [.v U20 x0] = (S66 2000 x0).bind fun b => some [.v U2 b] := by
  have h70 : (ctr70 (S70 2000)).holds (acall table prims 2000 (D + 2)) := by have := ho70 (D + 1); rwa [show D + 1 + 1 = D + 2 by omega] at this
  have h87 : (ctr87 (S87 2000)).holds (acall table prims 2000 (D + 2)) := by have := ho87 (D + 0); rwa [show D + 0 + 2 = D + 2 by omega] at this
  have e1 := acall_succ (tb := table) (pr := prims) (N := 2000) (D := D + 2) (f := 66) (fd := d66) (es := [.v U20 x0]) rfl rfl rfl
  exact e1.trans (fn_of (fd := d66) (B := Int) (ent := fun b => [.v U2 b]) (dr := fun es => ((decC (decV U2) dec0) es).map fun q => (q.1)) (by intro b; kernel_rfl) (fun {R} k => g66 2000 (S70 2000) (S87 2000) x0 (fun (r0 : Int) => k (r0))) (fun k => gen66 (S70 2000) (S87 2000) h70 h87 x0 k))
theorem ho66 (D : Nat) : (ctr66 (S66 2000)).holds (acall table prims 2000 (D + 3)) := fun a => va66 D a.1
theorem va38 (D : Nat) (x0 : V29) : acall table prims 2000 (D + 4) 38 [.v U27 x0] = (S38 2000 x0).bind fun b => some [.v U2 b] := by
  have h65 : (ctr65 (S65 2000)).holds (acall table prims 2000 (D + 3)) := by have := ho65 (D + 0); rwa [show D + 0 + 3 = D + 3 by omega] at this
  have h66 : (ctr66 (S66 2000)).holds (acall table prims 2000 (D + 3)) := by have := ho66 (D + 0); rwa [show D + 0 + 3 = D + 3 by omega] at this
  have e1 := acall_succ (tb := table) (pr := prims) (N := 2000) (D := D + 3) (f := 38) (fd := d38) (es := [.v U27 x0]) rfl rfl rfl
  exact e1.trans (fn_of (fd := d38) (B := Int) (ent := fun b => [.v U2 b]) (dr := fun es => ((decC (decV U2) dec0) es).map fun q => (q.1)) (by intro b; kernel_rfl) (fun {R} k => g38 2000 (S65 2000) (S66 2000) x0 (fun (r0 : Int) => k (r0))) (fun k => gen38 (S65 2000) (S66 2000) h65 h66 x0 k))
theorem ho38 (D : Nat) : (ctr38 (S38 2000)).holds (acall table prims 2000 (D + 4)) := fun a => va38 D a.1
end Go.Fw.L19
