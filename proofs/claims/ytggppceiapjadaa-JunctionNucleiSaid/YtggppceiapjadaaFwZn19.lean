import Derived.Test.YtggppceiapjadaaFwMn19
import Derived.Test.YtggppceiapjadaaFwNat
import Derived.Test.YtggppceiapjadaaFwXn19
set_option linter.unusedVariables false
set_option linter.unusedSimpArgs false
namespace Go.Fw.L19
open Go Go.Fw
set_option maxRecDepth 100000
theorem ho23 (D : Nat) : (ctr23 (S23 1000)).holds (acall table prims 1000 (D + 1)) := prim_holds rfl (by intro a; kernel_rfl)
theorem ho109 (D : Nat) : (ctr109 (S109 1000)).holds (acall table prims 1000 (D + 1)) := prim_holds rfl (by intro a; kernel_rfl)
theorem ho8 (D : Nat) : (ctr8 (S8 1000)).holds (acall table prims 1000 (D + 12)) := fun a => fd8 D
theorem va34 (D : Nat) (x0 : Int) : acall table prims 1000 (D + 1) 34 [.v Tn190 x0] = (S34 1000 x0).bind fun b => some [.v Tn1915 b] := by
  have e1 := acall_succ (tb := table) (pr := prims) (N := 1000) (D := D + 0) (f := 34) (fd := d34) (es := [.v Tn190 x0]) rfl rfl rfl
  exact e1.trans (fn_of (fd := d34) (B := Dn196) (ent := fun b => [.v Tn1915 b]) (dr := fun es => ((decC (decV Tn1915) dec0) es).map fun q => (q.1)) (by intro b; kernel_rfl) (fun {R} k => g34 x0 (fun (r0 : Dn196) => k (r0))) (fun k => gen34 x0 k))
theorem ho34 (D : Nat) : (ctr34 (S34 1000)).holds (acall table prims 1000 (D + 1)) := fun a => va34 D a.1
theorem va10 (D : Nat) (x0 : Dn190) : acall table prims 1000 (D + 2) 10 [.v Tn194 x0] = (S10 1000 x0).bind fun b => some [.own true 55 Tn1915 .no b] := by
  have h34 : (ctr34 (S34 1000)).holds (acall table prims 1000 (D + 1)) := by have := ho34 (D + 0); rwa [show D + 0 + 1 = D + 1 by omega] at this
  have e1 := acall_succ (tb := table) (pr := prims) (N := 1000) (D := D + 1) (f := 10) (fd := d10) (es := [.v Tn194 x0]) rfl rfl rfl
  exact e1.trans (fn_of (fd := d10) (B := Dn198) (ent := fun b => [.own true 55 Tn1915 .no b]) (dr := fun es => ((decC (decO Tn1915) dec0) es).map fun q => (q.1)) (by intro b; kernel_rfl) (fun {R} k => g10 1000 (S34 1000) x0 (fun (r0 : Dn198) => k (r0))) (fun k => gen10 (S34 1000) h34 x0 k))
theorem ho10 (D : Nat) : (ctr10 (S10 1000)).holds (acall table prims 1000 (D + 2)) := fun a => va10 D a.1
theorem va90 (D : Nat) (x0 : Dn196) : acall table prims 1000 (D + 1) 90 [.v Tn1915 x0] = (S90 1000 x0).bind fun b => some [.v .bool b] := by
  have e1 := acall_succ (tb := table) (pr := prims) (N := 1000) (D := D + 0) (f := 90) (fd := d90) (es := [.v Tn1915 x0]) rfl rfl rfl
  exact e1.trans (fn_of (fd := d90) (B := Bool) (ent := fun b => [.v .bool b]) (dr := fun es => ((decC (decV .bool) dec0) es).map fun q => (q.1)) (by intro b; kernel_rfl) (fun {R} k => g90 x0 (fun (r0 : Bool) => k (r0))) (fun k => gen90 x0 k))
theorem ho90 (D : Nat) : (ctr90 (S90 1000)).holds (acall table prims 1000 (D + 1)) := fun a => va90 D a.1
theorem va93 (D : Nat) (x0 : Int) : acall table prims 1000 (D + 1) 93 [.v Tn193 x0] = (S93 1000 x0).bind fun b => some [.v .bool b] := by
  have e1 := acall_succ (tb := table) (pr := prims) (N := 1000) (D := D + 0) (f := 93) (fd := d93) (es := [.v Tn193 x0]) rfl rfl rfl
  exact e1.trans (fn_of (fd := d93) (B := Bool) (ent := fun b => [.v .bool b]) (dr := fun es => ((decC (decV .bool) dec0) es).map fun q => (q.1)) (by intro b; kernel_rfl) (fun {R} k => g93 x0 (fun (r0 : Bool) => k (r0))) (fun k => gen93 x0 k))
theorem ho93 (D : Nat) : (ctr93 (S93 1000)).holds (acall table prims 1000 (D + 1)) := fun a => va93 D a.1
theorem va92 (D : Nat) (x0 : Int) : acall table prims 1000 (D + 2) 92 [.v Tn193 x0] = (S92 1000 x0).bind fun b => some [.v .bool b] := by
  have h93 : (ctr93 (S93 1000)).holds (acall table prims 1000 (D + 1)) := by have := ho93 (D + 0); rwa [show D + 0 + 1 = D + 1 by omega] at this
  have e1 := acall_succ (tb := table) (pr := prims) (N := 1000) (D := D + 1) (f := 92) (fd := d92) (es := [.v Tn193 x0]) rfl rfl rfl
  exact e1.trans (fn_of (fd := d92) (B := Bool) (ent := fun b => [.v .bool b]) (dr := fun es => ((decC (decV .bool) dec0) es).map fun q => (q.1)) (by intro b; kernel_rfl) (fun {R} k => g92 (S93 1000) x0 (fun (r0 : Bool) => k (r0))) (fun k => gen92 (S93 1000) h93 x0 k))
theorem ho92 (D : Nat) : (ctr92 (S92 1000)).holds (acall table prims 1000 (D + 2)) := fun a => va92 D a.1
theorem va108 (D : Nat) (x0 : Dn191) (x1 : Dn194) (x2 : Bool) : acall table prims 1000 (D + 1) 108 [.v .str x0, .v Tn1910 x1, .v .bool x2] = (S108 1000 x0 x1 x2).bind fun b => some [.v Tn192 b] := by
  have e1 := acall_succ (tb := table) (pr := prims) (N := 1000) (D := D + 0) (f := 108) (fd := d108) (es := [.v .str x0, .v Tn1910 x1, .v .bool x2]) rfl rfl rfl
  exact e1.trans (fn_of (fd := d108) (B := Int) (ent := fun b => [.v Tn192 b]) (dr := fun es => ((decC (decV Tn192) dec0) es).map fun q => (q.1)) (by intro b; kernel_rfl) (fun {R} k => g108 1000 x0 x1 x2 (fun (r0 : Int) => k (r0))) (fun k => gen108 x0 x1 x2 k))
theorem ho108 (D : Nat) : (ctr108 (S108 1000)).holds (acall table prims 1000 (D + 1)) := fun a => va108 D a.1 a.2.1 a.2.2.1
theorem va101 (D : Nat) (x0 : Dn191) (x1 : Dn194) : acall table prims 1000 (D + 2) 101 [.v .str x0, .v Tn1910 x1] = (S101 1000 x0 x1).bind fun b => some [.v Tn192 b] := by
  have h108 : (ctr108 (S108 1000)).holds (acall table prims 1000 (D + 1)) := by have := ho108 (D + 0); rwa [show D + 0 + 1 = D + 1 by omega] at this
  have e1 := acall_succ (tb := table) (pr := prims) (N := 1000) (D := D + 1) (f := 101) (fd := d101) (es := [.v .str x0, .v Tn1910 x1]) rfl rfl rfl
  exact e1.trans (fn_of (fd := d101) (B := Int) (ent := fun b => [.v Tn192 b]) (dr := fun es => ((decC (decV Tn192) dec0) es).map fun q => (q.1)) (by intro b; kernel_rfl) (fun {R} k => g101 (S108 1000) x0 x1 (fun (r0 : Int) => k (r0))) (fun k => gen101 (S108 1000) h108 x0 x1 k))
theorem ho101 (D : Nat) : (ctr101 (S101 1000)).holds (acall table prims 1000 (D + 2)) := fun a => va101 D a.1 a.2.1
theorem va91 (D : Nat) (x0 : Dn191) (x1 : Dn194) : acall table prims 1000 (D + 3) 91 [.v .str x0, .v Tn1910 x1] = (S91 1000 x0 x1).bind fun b => some [.v .bool b] := by
  have h101 : (ctr101 (S101 1000)).holds (acall table prims 1000 (D + 2)) := by have := ho101 (D + 0); rwa [show D + 0 + 2 = D + 2 by omega] at this
  have e1 := acall_succ (tb := table) (pr := prims) (N := 1000) (D := D + 2) (f := 91) (fd := d91) (es := [.v .str x0, .v Tn1910 x1]) rfl rfl rfl
  exact e1.trans (fn_of (fd := d91) (B := Bool) (ent := fun b => [.v .bool b]) (dr := fun es => ((decC (decV .bool) dec0) es).map fun q => (q.1)) (by intro b; kernel_rfl) (fun {R} k => g91 (S101 1000) x0 x1 (fun (r0 : Bool) => k (r0))) (fun k => gen91 (S101 1000) h101 x0 x1 k))
theorem ho91 (D : Nat) : (ctr91 (S91 1000)).holds (acall table prims 1000 (D + 3)) := fun a => va91 D a.1 a.2.1
theorem va75 (D : Nat) (x0 : Dn196) : acall table prims 1000 (D + 4) 75 [.v Tn1915 x0] = (S75 1000 x0).bind fun b => some [.v Tn192 b] := by
  have h90 : (ctr90 (S90 1000)).holds (acall table prims 1000 (D + 3)) := by have := ho90 (D + 2); rwa [show D + 2 + 1 = D + 3 by omega] at this
  have h91 : (ctr91 (S91 1000)).holds (acall table prims 1000 (D + 3)) := by have := ho91 (D + 0); rwa [show D + 0 + 3 = D + 3 by omega] at this
  have h92 : (ctr92 (S92 1000)).holds (acall table prims 1000 (D + 3)) := by have := ho92 (D + 1); rwa [show D + 1 + 2 = D + 3 by omega] at this
  have e1 := acall_succ (tb := table) (pr := prims) (N := 1000) (D := D + 3) (f := 75) (fd := d75) (es := [.v Tn1915 x0]) rfl rfl rfl
  exact e1.trans (fn_of (fd := d75) (B := Int) (ent := fun b => [.v Tn192 b]) (dr := fun es => ((decC (decV Tn192) dec0) es).map fun q => (q.1)) (by intro b; kernel_rfl) (fun {R} k => g75 (S90 1000) (S91 1000) (S92 1000) x0 (fun (r0 : Int) => k (r0))) (fun k => gen75 (S90 1000) (S91 1000) (S92 1000) h90 h91 h92 x0 k))
theorem ho75 (D : Nat) : (ctr75 (S75 1000)).holds (acall table prims 1000 (D + 4)) := fun a => va75 D a.1
theorem va55 (D : Nat) (x0 : Dn198) : acall table prims 1000 (D + 5) 55 [.v Tn1918 x0] = (S55 1000 x0).bind fun b => some [.v Tn192 b] := by
  have h75 : (ctr75 (S75 1000)).holds (acall table prims 1000 (D + 4)) := by have := ho75 (D + 0); rwa [show D + 0 + 4 = D + 4 by omega] at this
  have e1 := acall_succ (tb := table) (pr := prims) (N := 1000) (D := D + 4) (f := 55) (fd := d55) (es := [.v Tn1918 x0]) rfl rfl rfl
  exact e1.trans (fn_of (fd := d55) (B := Int) (ent := fun b => [.v Tn192 b]) (dr := fun es => ((decC (decV Tn192) dec0) es).map fun q => (q.1)) (by intro b; kernel_rfl) (fun {R} k => g55 1000 (S75 1000) x0 (fun (r0 : Int) => k (r0))) (fun k => gen55 (S75 1000) h75 x0 k))
theorem ho55 (D : Nat) : (ctr55 (S55 1000)).holds (acall table prims 1000 (D + 5)) := fun a => va55 D a.1
theorem va36 (D : Nat) (x0 : Dn198) (x1 : Dn198) : acall table prims 1000 (D + 6) 36 [.v Tn1918 x0, .v Tn1918 x1] = (S36 1000 x0 x1).bind fun b => some [.v Tn192 b] := by
  have h55 : (ctr55 (S55 1000)).holds (acall table prims 1000 (D + 5)) := by have := ho55 (D + 0); rwa [show D + 0 + 5 = D + 5 by omega] at this
  have e1 := acall_succ (tb := table) (pr := prims) (N := 1000) (D := D + 5) (f := 36) (fd := d36) (es := [.v Tn1918 x0, .v Tn1918 x1]) rfl rfl rfl
  exact e1.trans (fn_of (fd := d36) (B := Int) (ent := fun b => [.v Tn192 b]) (dr := fun es => ((decC (decV Tn192) dec0) es).map fun q => (q.1)) (by intro b; kernel_rfl) (fun {R} k => g36 (S55 1000) x0 x1 (fun (r0 : Int) => k (r0))) (fun k => gen36 (S55 1000) h55 x0 x1 k))
theorem ho36 (D : Nat) : (ctr36 (S36 1000)).holds (acall table prims 1000 (D + 6)) := fun a => va36 D a.1 a.2.1
theorem va43 (D : Nat) (x0 : Dn196) : acall table prims 1000 (D + 1) 43 [.v Tn1915 x0] = (S43 1000 x0).bind fun b => some [.v .bool b] := by
  have e1 := acall_succ (tb := table) (pr := prims) (N := 1000) (D := D + 0) (f := 43) (fd := d43) (es := [.v Tn1915 x0]) rfl rfl rfl
  exact e1.trans (fn_of (fd := d43) (B := Bool) (ent := fun b => [.v .bool b]) (dr := fun es => ((decC (decV .bool) dec0) es).map fun q => (q.1)) (by intro b; kernel_rfl) (fun {R} k => g43 x0 (fun (r0 : Bool) => k (r0))) (fun k => gen43 x0 k))
theorem ho43 (D : Nat) : (ctr43 (S43 1000)).holds (acall table prims 1000 (D + 1)) := fun a => va43 D a.1
theorem va14 (D : Nat) (x0 : Dn198) : acall table prims 1000 (D + 2) 14 [.v Tn1918 x0] = (S14 1000 x0).bind fun b => some [.v Tn192 b] := by
  have h43 : (ctr43 (S43 1000)).holds (acall table prims 1000 (D + 1)) := by have := ho43 (D + 0); rwa [show D + 0 + 1 = D + 1 by omega] at this
  have e1 := acall_succ (tb := table) (pr := prims) (N := 1000) (D := D + 1) (f := 14) (fd := d14) (es := [.v Tn1918 x0]) rfl rfl rfl
  exact e1.trans (fn_of (fd := d14) (B := Int) (ent := fun b => [.v Tn192 b]) (dr := fun es => ((decC (decV Tn192) dec0) es).map fun q => (q.1)) (by intro b; kernel_rfl) (fun {R} k => g14 (S43 1000) x0 (fun (r0 : Int) => k (r0))) (fun k => gen14 (S43 1000) h43 x0 k))
theorem ho14 (D : Nat) : (ctr14 (S14 1000)).holds (acall table prims 1000 (D + 2)) := fun a => va14 D a.1
theorem va62 (D : Nat) (x0 : Dn196) : acall table prims 1000 (D + 1) 62 [.v Tn1915 x0] = (S62 1000 x0).bind fun b => some [.v .bool b] := by
  have e1 := acall_succ (tb := table) (pr := prims) (N := 1000) (D := D + 0) (f := 62) (fd := d62) (es := [.v Tn1915 x0]) rfl rfl rfl
  exact e1.trans (fn_of (fd := d62) (B := Bool) (ent := fun b => [.v .bool b]) (dr := fun es => ((decC (decV .bool) dec0) es).map fun q => (q.1)) (by intro b; kernel_rfl) (fun {R} k => g62 x0 (fun (r0 : Bool) => k (r0))) (fun k => gen62 x0 k))
theorem ho62 (D : Nat) : (ctr62 (S62 1000)).holds (acall table prims 1000 (D + 1)) := fun a => va62 D a.1
theorem va61 (D : Nat) (x0 : Dn198) (x1 : Dn1910) : acall table prims 1000 (D + 1) 61 [.v Tn1918 x0, .v Tn1922 x1] = (S61 1000 x0 x1).bind fun b => some [.v Tn192 b] := by
  have e1 := acall_succ (tb := table) (pr := prims) (N := 1000) (D := D + 0) (f := 61) (fd := d61) (es := [.v Tn1918 x0, .v Tn1922 x1]) rfl rfl rfl
  exact e1.trans (fn_of (fd := d61) (B := Int) (ent := fun b => [.v Tn192 b]) (dr := fun es => ((decC (decV Tn192) dec0) es).map fun q => (q.1)) (by intro b; kernel_rfl) (fun {R} k => g61 1000 x0 x1 (fun (r0 : Int) => k (r0))) (fun k => gen61 x0 x1 k))
theorem ho61 (D : Nat) : (ctr61 (S61 1000)).holds (acall table prims 1000 (D + 1)) := fun a => va61 D a.1 a.2.1
theorem va42 (D : Nat) (x0 : Dn198) : acall table prims 1000 (D + 2) 42 [.v Tn1918 x0] = (S42 1000 x0).bind fun b => some [.v Tn192 b] := by
  have h61 : (ctr61 (S61 1000)).holds (acall table prims 1000 (D + 1)) := by have := ho61 (D + 0); rwa [show D + 0 + 1 = D + 1 by omega] at this
  have h62 : (ctr62 (S62 1000)).holds (acall table prims 1000 (D + 1)) := by have := ho62 (D + 0); rwa [show D + 0 + 1 = D + 1 by omega] at this
  have e1 := acall_succ (tb := table) (pr := prims) (N := 1000) (D := D + 1) (f := 42) (fd := d42) (es := [.v Tn1918 x0]) rfl rfl rfl
  exact e1.trans (fn_of (fd := d42) (B := Int) (ent := fun b => [.v Tn192 b]) (dr := fun es => ((decC (decV Tn192) dec0) es).map fun q => (q.1)) (by intro b; kernel_rfl) (fun {R} k => g42 (S61 1000) (S62 1000) x0 (fun (r0 : Int) => k (r0))) (fun k => gen42 (S61 1000) (S62 1000) h61 h62 x0 k))
theorem ho42 (D : Nat) : (ctr42 (S42 1000)).holds (acall table prims 1000 (D + 2)) := fun a => va42 D a.1
theorem va13 (D : Nat) (x0 : Dn198) : acall table prims 1000 (D + 3) 13 [.v Tn1918 x0] = (S13 1000 x0).bind fun b => some [.v .bool b] := by
  have h42 : (ctr42 (S42 1000)).holds (acall table prims 1000 (D + 2)) := by have := ho42 (D + 0); rwa [show D + 0 + 2 = D + 2 by omega] at this
  have h43 : (ctr43 (S43 1000)).holds (acall table prims 1000 (D + 2)) := by have := ho43 (D + 1); rwa [show D + 1 + 1 = D + 2 by omega] at this
  have e1 := acall_succ (tb := table) (pr := prims) (N := 1000) (D := D + 2) (f := 13) (fd := d13) (es := [.v Tn1918 x0]) rfl rfl rfl
  exact e1.trans (fn_of (fd := d13) (B := Bool) (ent := fun b => [.v .bool b]) (dr := fun es => ((decC (decV .bool) dec0) es).map fun q => (q.1)) (by intro b; kernel_rfl) (fun {R} k => g13 (S42 1000) (S43 1000) x0 (fun (r0 : Bool) => k (r0))) (fun k => gen13 (S42 1000) (S43 1000) h42 h43 x0 k))
theorem ho13 (D : Nat) : (ctr13 (S13 1000)).holds (acall table prims 1000 (D + 3)) := fun a => va13 D a.1
theorem va37 (D : Nat) (x0 : Dn198) (x1 : Dn198) : acall table prims 1000 (D + 4) 37 [.v Tn1918 x0, .v Tn1918 x1] = (S37 1000 x0 x1).bind fun b => some [.own true 3 Tn192 .no b] := by
  have h13 : (ctr13 (S13 1000)).holds (acall table prims 1000 (D + 3)) := by have := ho13 (D + 0); rwa [show D + 0 + 3 = D + 3 by omega] at this
  have h14 : (ctr14 (S14 1000)).holds (acall table prims 1000 (D + 3)) := by have := ho14 (D + 1); rwa [show D + 1 + 2 = D + 3 by omega] at this
  have e1 := acall_succ (tb := table) (pr := prims) (N := 1000) (D := D + 3) (f := 37) (fd := d37) (es := [.v Tn1918 x0, .v Tn1918 x1]) rfl rfl rfl
  exact e1.trans (fn_of (fd := d37) (B := Dn190) (ent := fun b => [.own true 3 Tn192 .no b]) (dr := fun es => ((decC (decO Tn192) dec0) es).map fun q => (q.1)) (by intro b; kernel_rfl) (fun {R} k => g37 (S13 1000) (S14 1000) x0 x1 (fun (r0 : Dn190) => k (r0))) (fun k => gen37 (S13 1000) (S14 1000) h13 h14 x0 x1 k))
theorem ho37 (D : Nat) : (ctr37 (S37 1000)).holds (acall table prims 1000 (D + 4)) := fun a => va37 D a.1 a.2.1
theorem va80 (D : Nat) (x0 : Dn190) (x1 : Int) : acall table prims 1000 (D + 1) 80 [.v Tn195 x0, .v Tn192 x1] = (S80 1000 x0 x1).bind fun b => some [.v Tn192 b] := by
  have e1 := acall_succ (tb := table) (pr := prims) (N := 1000) (D := D + 0) (f := 80) (fd := d80) (es := [.v Tn195 x0, .v Tn192 x1]) rfl rfl rfl
  exact e1.trans (fn_of (fd := d80) (B := Int) (ent := fun b => [.v Tn192 b]) (dr := fun es => ((decC (decV Tn192) dec0) es).map fun q => (q.1)) (by intro b; kernel_rfl) (fun {R} k => g80 1000 x0 x1 (fun (r0 : Int) => k (r0))) (fun k => gen80 x0 x1 k))
theorem ho80 (D : Nat) : (ctr80 (S80 1000)).holds (acall table prims 1000 (D + 1)) := fun a => va80 D a.1 a.2.1
theorem va63 (D : Nat) (x0 : Dn190) (x1 : Int) : acall table prims 1000 (D + 2) 63 [.v Tn195 x0, .v Tn192 x1] = (S63 1000 x0 x1).bind fun b => some [.v .bool b] := by
  have h80 : (ctr80 (S80 1000)).holds (acall table prims 1000 (D + 1)) := by have := ho80 (D + 0); rwa [show D + 0 + 1 = D + 1 by omega] at this
  have e1 := acall_succ (tb := table) (pr := prims) (N := 1000) (D := D + 1) (f := 63) (fd := d63) (es := [.v Tn195 x0, .v Tn192 x1]) rfl rfl rfl
  exact e1.trans (fn_of (fd := d63) (B := Bool) (ent := fun b => [.v .bool b]) (dr := fun es => ((decC (decV .bool) dec0) es).map fun q => (q.1)) (by intro b; kernel_rfl) (fun {R} k => g63 (S80 1000) x0 x1 (fun (r0 : Bool) => k (r0))) (fun k => gen63 (S80 1000) h80 x0 x1 k))
theorem ho63 (D : Nat) : (ctr63 (S63 1000)).holds (acall table prims 1000 (D + 2)) := fun a => va63 D a.1 a.2.1
theorem va44 (D : Nat) (x0 : Dn198) (x1 : Dn198) (x2 : Int) : acall table prims 1000 (D + 7) 44 [.v Tn1918 x0, .v Tn1918 x1, .v Tn192 x2] = (S44 1000 x0 x1 x2).bind fun b => some [.v Tn1918 b.1, .own true 55 Tn1915 .no b.2.1, .own true 55 Tn1915 .no b.2.2.1, .v Tn192 b.2.2.2] := by
  have h14 : (ctr14 (S14 1000)).holds (acall table prims 1000 (D + 6)) := by have := ho14 (D + 4); rwa [show D + 4 + 2 = D + 6 by omega] at this
  have h23 : (ctr23 (S23 1000)).holds (acall table prims 1000 (D + 6)) := by have := ho23 (D + 5); rwa [show D + 5 + 1 = D + 6 by omega] at this
  have h36 : (ctr36 (S36 1000)).holds (acall table prims 1000 (D + 6)) := by have := ho36 (D + 0); rwa [show D + 0 + 6 = D + 6 by omega] at this
  have h37 : (ctr37 (S37 1000)).holds (acall table prims 1000 (D + 6)) := by have := ho37 (D + 2); rwa [show D + 2 + 4 = D + 6 by omega] at this
  have h42 : (ctr42 (S42 1000)).holds (acall table prims 1000 (D + 6)) := by have := ho42 (D + 4); rwa [show D + 4 + 2 = D + 6 by omega] at this
  have h63 : (ctr63 (S63 1000)).holds (acall table prims 1000 (D + 6)) := by have := ho63 (D + 4); rwa [show D + 4 + 2 = D + 6 by omega] at this
  have e1 := acall_succ (tb := table) (pr := prims) (N := 1000) (D := D + 6) (f := 44) (fd := d44) (es := [.v Tn1918 x0, .v Tn1918 x1, .v Tn192 x2]) rfl rfl rfl
  exact e1.trans (fn_of (fd := d44) (B := Dn198 × Dn198 × Dn198 × Int) (ent := fun b => [.v Tn1918 b.1, .own true 55 Tn1915 .no b.2.1, .own true 55 Tn1915 .no b.2.2.1, .v Tn192 b.2.2.2]) (dr := fun es => ((decC (decV Tn1918) (decC (decO Tn1915) (decC (decO Tn1915) (decC (decV Tn192) dec0)))) es).map fun q => (q.1, q.2.1, q.2.2.1, q.2.2.2.1)) (by intro b; kernel_rfl) (fun {R} k => g44 (S14 1000) (S23 1000) (S36 1000) (S37 1000) (S42 1000) (S63 1000) x0 x1 x2 (fun (r0 : Dn198) (r1 : Dn198) (r2 : Dn198) (r3 : Int) => k (r0, r1, r2, r3))) (fun k => gen44 (S14 1000) (S23 1000) (S36 1000) (S37 1000) (S42 1000) (S63 1000) h14 h23 h36 h37 h42 h63 x0 x1 x2 k))
theorem ho44 (D : Nat) : (ctr44 (S44 1000)).holds (acall table prims 1000 (D + 7)) := fun a => va44 D a.1 a.2.1 a.2.2.1
theorem va16 (D : Nat) (x0 : Dn198) (x1 : Dn198) (x2 : Int) : acall table prims 1000 (D + 8) 16 [.v Tn1918 x0, .v Tn1918 x1, .v Tn192 x2] = (S16 1000 x0 x1 x2).bind fun b => some [.v Tn1918 b.1, .own true 55 Tn1915 .no b.2.1, .v Tn192 b.2.2] := by
  have h44 : (ctr44 (S44 1000)).holds (acall table prims 1000 (D + 7)) := by have := ho44 (D + 0); rwa [show D + 0 + 7 = D + 7 by omega] at this
  have e1 := acall_succ (tb := table) (pr := prims) (N := 1000) (D := D + 7) (f := 16) (fd := d16) (es := [.v Tn1918 x0, .v Tn1918 x1, .v Tn192 x2]) rfl rfl rfl
  exact e1.trans (fn_of (fd := d16) (B := Dn198 × Dn198 × Int) (ent := fun b => [.v Tn1918 b.1, .own true 55 Tn1915 .no b.2.1, .v Tn192 b.2.2]) (dr := fun es => ((decC (decV Tn1918) (decC (decO Tn1915) (decC (decV Tn192) dec0))) es).map fun q => (q.1, q.2.1, q.2.2.1)) (by intro b; kernel_rfl) (fun {R} k => g16 (S44 1000) x0 x1 x2 (fun (r0 : Dn198) (r1 : Dn198) (r2 : Int) => k (r0, r1, r2))) (fun k => gen16 (S44 1000) h44 x0 x1 x2 k))
theorem ho16 (D : Nat) : (ctr16 (S16 1000)).holds (acall table prims 1000 (D + 8)) := fun a => va16 D a.1 a.2.1 a.2.2.1
theorem va45 (D : Nat) (x0 : Dn196) : acall table prims 1000 (D + 1) 45 [.v Tn1915 x0] = (S45 1000 x0).bind fun b => some [.v .bool b] := by
  have e1 := acall_succ (tb := table) (pr := prims) (N := 1000) (D := D + 0) (f := 45) (fd := d45) (es := [.v Tn1915 x0]) rfl rfl rfl
  exact e1.trans (fn_of (fd := d45) (B := Bool) (ent := fun b => [.v .bool b]) (dr := fun es => ((decC (decV .bool) dec0) es).map fun q => (q.1)) (by intro b; kernel_rfl) (fun {R} k => g45 x0 (fun (r0 : Bool) => k (r0))) (fun k => gen45 x0 k))
theorem ho45 (D : Nat) : (ctr45 (S45 1000)).holds (acall table prims 1000 (D + 1)) := fun a => va45 D a.1
theorem va17 (D : Nat) (x0 : Dn198) : acall table prims 1000 (D + 2) 17 [.v Tn1918 x0] = (S17 1000 x0).bind fun b => some [.own true 3 Tn192 .no b] := by
  have h45 : (ctr45 (S45 1000)).holds (acall table prims 1000 (D + 1)) := by have := ho45 (D + 0); rwa [show D + 0 + 1 = D + 1 by omega] at this
  have e1 := acall_succ (tb := table) (pr := prims) (N := 1000) (D := D + 1) (f := 17) (fd := d17) (es := [.v Tn1918 x0]) rfl rfl rfl
  exact e1.trans (fn_of (fd := d17) (B := Dn190) (ent := fun b => [.own true 3 Tn192 .no b]) (dr := fun es => ((decC (decO Tn192) dec0) es).map fun q => (q.1)) (by intro b; kernel_rfl) (fun {R} k => g17 1000 (S45 1000) x0 (fun (r0 : Dn190) => k (r0))) (fun k => gen17 (S45 1000) h45 x0 k))
theorem ho17 (D : Nat) : (ctr17 (S17 1000)).holds (acall table prims 1000 (D + 2)) := fun a => va17 D a.1
theorem va4 (D : Nat) (x0 : Dn190) (x1 : Dn190) (x2 : Int) : acall table prims 1000 (D + 13) 4 [.v Tn194 x0, .v Tn194 x1, .v Tn190 x2] = (S4 1000 x0 x1 x2).bind fun b => some [.v .bool b] := by
  have h8 : (ctr8 (S8 1000)).holds (acall table prims 1000 (D + 12)) := by have := ho8 (D + 0); rwa [show D + 0 + 12 = D + 12 by omega] at this
  have h10 : (ctr10 (S10 1000)).holds (acall table prims 1000 (D + 12)) := by have := ho10 (D + 10); rwa [show D + 10 + 2 = D + 12 by omega] at this
  have h16 : (ctr16 (S16 1000)).holds (acall table prims 1000 (D + 12)) := by have := ho16 (D + 4); rwa [show D + 4 + 8 = D + 12 by omega] at this
  have h17 : (ctr17 (S17 1000)).holds (acall table prims 1000 (D + 12)) := by have := ho17 (D + 10); rwa [show D + 10 + 2 = D + 12 by omega] at this
  have e1 := acall_succ (tb := table) (pr := prims) (N := 1000) (D := D + 12) (f := 4) (fd := d4) (es := [.v Tn194 x0, .v Tn194 x1, .v Tn190 x2]) rfl rfl rfl
  exact e1.trans (fn_of (fd := d4) (B := Bool) (ent := fun b => [.v .bool b]) (dr := fun es => ((decC (decV .bool) dec0) es).map fun q => (q.1)) (by intro b; kernel_rfl) (fun {R} k => g4 (S8 1000) (S10 1000) (S16 1000) (S17 1000) x0 x1 x2 (fun (r0 : Bool) => k (r0))) (fun k => gen4 (S8 1000) (S10 1000) (S16 1000) (S17 1000) h8 h10 h16 h17 x0 x1 x2 k))
theorem ho4 (D : Nat) : (ctr4 (S4 1000)).holds (acall table prims 1000 (D + 13)) := fun a => va4 D a.1 a.2.1 a.2.2.1
end Go.Fw.L19
