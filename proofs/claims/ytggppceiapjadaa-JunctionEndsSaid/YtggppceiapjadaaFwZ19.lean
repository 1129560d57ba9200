import Derived.Test.YtggppceiapjadaaFwM19
import Derived.Test.YtggppceiapjadaaFwX19
set_option linter.unusedVariables false
set_option linter.unusedSimpArgs false
namespace Go.Fw.L19
open Go Go.Fw
set_option maxRecDepth 100000
theorem ho23 (D : Nat) : (ctr23 (S23 1000)).holds (acall table prims 1000 (D + 1)) := prim_holds rfl (by intro a; kernel_rfl)
theorem ho109 (D : Nat) : (ctr109 (S109 1000)).holds (acall table prims 1000 (D + 1)) := prim_holds rfl (by intro a; kernel_rfl)
theorem ho8 (D : Nat) : (ctr8 (S8 1000)).holds (acall table prims 1000 (D + 12)) := fun a => fd8 D
theorem va22 (D : Nat) (x0 : D196) (x1 : Int) : acall table prims 1000 (D + 1) 22 [.v T1914 x0, .v T192 x1] = (S22 1000 x0 x1).bind fun b => some [.v .bool b] := by
  have e1 := acall_succ (tb := table) (pr := prims) (N := 1000) (D := D + 0) (f := 22) (fd := d22) (es := [.v T1914 x0, .v T192 x1]) rfl rfl rfl
  exact e1.trans ((gen22 x0 x1).trans (ng22 1000 x0 x1 (fun (r0 : Bool) => some (r0)) (fun b => some ([.v .bool b] : List E))).symm)
theorem ho22 (D : Nat) : (ctr22 (S22 1000)).holds (acall table prims 1000 (D + 1)) := fun a => va22 D a.1 a.2.1
theorem va43 (D : Nat) (x0 : D195) : acall table prims 1000 (D + 1) 43 [.v T1911 x0] = (S43 1000 x0).bind fun b => some [.v .bool b] := by
  have e1 := acall_succ (tb := table) (pr := prims) (N := 1000) (D := D + 0) (f := 43) (fd := d43) (es := [.v T1911 x0]) rfl rfl rfl
  exact e1.trans ((gen43 x0).trans (ng43 x0 (fun (r0 : Bool) => some (r0)) (fun b => some ([.v .bool b] : List E))).symm)
theorem ho43 (D : Nat) : (ctr43 (S43 1000)).holds (acall table prims 1000 (D + 1)) := fun a => va43 D a.1
theorem va14 (D : Nat) (x0 : D196) : acall table prims 1000 (D + 2) 14 [.v T1914 x0] = (S14 1000 x0).bind fun b => some [.v T192 b] := by
  have h43 : (ctr43 (S43 1000)).holds (acall table prims 1000 (D + 1)) := by have := ho43 (D + 0); rwa [show D + 0 + 1 = D + 1 by omega] at this
  have e1 := acall_succ (tb := table) (pr := prims) (N := 1000) (D := D + 1) (f := 14) (fd := d14) (es := [.v T1914 x0]) rfl rfl rfl
  exact e1.trans ((gen14 (S43 1000) h43 x0).trans (ng14 (S43 1000) x0 (fun (r0 : Int) => some (r0)) (fun b => some ([.v T192 b] : List E))).symm)
theorem ho14 (D : Nat) : (ctr14 (S14 1000)).holds (acall table prims 1000 (D + 2)) := fun a => va14 D a.1
theorem va45 (D : Nat) (x0 : D195) : acall table prims 1000 (D + 1) 45 [.v T1911 x0] = (S45 1000 x0).bind fun b => some [.v .bool b] := by
  have e1 := acall_succ (tb := table) (pr := prims) (N := 1000) (D := D + 0) (f := 45) (fd := d45) (es := [.v T1911 x0]) rfl rfl rfl
  exact e1.trans ((gen45 x0).trans (ng45 x0 (fun (r0 : Bool) => some (r0)) (fun b => some ([.v .bool b] : List E))).symm)
theorem ho45 (D : Nat) : (ctr45 (S45 1000)).holds (acall table prims 1000 (D + 1)) := fun a => va45 D a.1
theorem va24 (D : Nat) (x0 : D196) : acall table prims 1000 (D + 2) 24 [.v T1914 x0] = (S24 1000 x0).bind fun b => some [.v T192 b] := by
  have h45 : (ctr45 (S45 1000)).holds (acall table prims 1000 (D + 1)) := by have := ho45 (D + 0); rwa [show D + 0 + 1 = D + 1 by omega] at this
  have e1 := acall_succ (tb := table) (pr := prims) (N := 1000) (D := D + 1) (f := 24) (fd := d24) (es := [.v T1914 x0]) rfl rfl rfl
  exact e1.trans ((gen24 (S45 1000) h45 x0).trans (ng24 (S45 1000) x0 (fun (r0 : Int) => some (r0)) (fun b => some ([.v T192 b] : List E))).symm)
theorem ho24 (D : Nat) : (ctr24 (S24 1000)).holds (acall table prims 1000 (D + 2)) := fun a => va24 D a.1
theorem va62 (D : Nat) (x0 : D195) : acall table prims 1000 (D + 1) 62 [.v T1911 x0] = (S62 1000 x0).bind fun b => some [.v .bool b] := by
  have e1 := acall_succ (tb := table) (pr := prims) (N := 1000) (D := D + 0) (f := 62) (fd := d62) (es := [.v T1911 x0]) rfl rfl rfl
  exact e1.trans ((gen62 x0).trans (ng62 x0 (fun (r0 : Bool) => some (r0)) (fun b => some ([.v .bool b] : List E))).symm)
theorem ho62 (D : Nat) : (ctr62 (S62 1000)).holds (acall table prims 1000 (D + 1)) := fun a => va62 D a.1
theorem va61 (D : Nat) (x0 : D196) (x1 : D198) : acall table prims 1000 (D + 1) 61 [.v T1914 x0, .v T1918 x1] = (S61 1000 x0 x1).bind fun b => some [.v T192 b] := by
  have e1 := acall_succ (tb := table) (pr := prims) (N := 1000) (D := D + 0) (f := 61) (fd := d61) (es := [.v T1914 x0, .v T1918 x1]) rfl rfl rfl
  exact e1.trans ((gen61 x0 x1).trans (ng61 1000 x0 x1 (fun (r0 : Int) => some (r0)) (fun b => some ([.v T192 b] : List E))).symm)
theorem ho61 (D : Nat) : (ctr61 (S61 1000)).holds (acall table prims 1000 (D + 1)) := fun a => va61 D a.1 a.2.1
theorem va42 (D : Nat) (x0 : D196) : acall table prims 1000 (D + 2) 42 [.v T1914 x0] = (S42 1000 x0).bind fun b => some [.v T192 b] := by
  have h61 : (ctr61 (S61 1000)).holds (acall table prims 1000 (D + 1)) := by have := ho61 (D + 0); rwa [show D + 0 + 1 = D + 1 by omega] at this
  have h62 : (ctr62 (S62 1000)).holds (acall table prims 1000 (D + 1)) := by have := ho62 (D + 0); rwa [show D + 0 + 1 = D + 1 by omega] at this
  have e1 := acall_succ (tb := table) (pr := prims) (N := 1000) (D := D + 1) (f := 42) (fd := d42) (es := [.v T1914 x0]) rfl rfl rfl
  exact e1.trans ((gen42 (S61 1000) (S62 1000) h61 h62 x0).trans (ng42 (S61 1000) (S62 1000) x0 (fun (r0 : Int) => some (r0)) (fun b => some ([.v T192 b] : List E))).symm)
theorem ho42 (D : Nat) : (ctr42 (S42 1000)).holds (acall table prims 1000 (D + 2)) := fun a => va42 D a.1
theorem va13 (D : Nat) (x0 : D196) : acall table prims 1000 (D + 3) 13 [.v T1914 x0] = (S13 1000 x0).bind fun b => some [.v .bool b] := by
  have h42 : (ctr42 (S42 1000)).holds (acall table prims 1000 (D + 2)) := by have := ho42 (D + 0); rwa [show D + 0 + 2 = D + 2 by omega] at this
  have h43 : (ctr43 (S43 1000)).holds (acall table prims 1000 (D + 2)) := by have := ho43 (D + 1); rwa [show D + 1 + 1 = D + 2 by omega] at this
  have e1 := acall_succ (tb := table) (pr := prims) (N := 1000) (D := D + 2) (f := 13) (fd := d13) (es := [.v T1914 x0]) rfl rfl rfl
  exact e1.trans ((gen13 (S42 1000) (S43 1000) h42 h43 x0).trans (ng13 (S42 1000) (S43 1000) x0 (fun (r0 : Bool) => some (r0)) (fun b => some ([.v .bool b] : List E))).symm)
theorem ho13 (D : Nat) : (ctr13 (S13 1000)).holds (acall table prims 1000 (D + 3)) := fun a => va13 D a.1
theorem va47 (D : Nat) (x0 : D196) : acall table prims 1000 (D + 2) 47 [.v T1914 x0] = (S47 1000 x0).bind fun b => some [.v T192 b] := by
  have h45 : (ctr45 (S45 1000)).holds (acall table prims 1000 (D + 1)) := by have := ho45 (D + 0); rwa [show D + 0 + 1 = D + 1 by omega] at this
  have e1 := acall_succ (tb := table) (pr := prims) (N := 1000) (D := D + 1) (f := 47) (fd := d47) (es := [.v T1914 x0]) rfl rfl rfl
  exact e1.trans ((gen47 (S45 1000) h45 x0).trans (ng47 1000 (S45 1000) x0 (fun (r0 : Int) => some (r0)) (fun b => some ([.v T192 b] : List E))).symm)
theorem ho47 (D : Nat) : (ctr47 (S47 1000)).holds (acall table prims 1000 (D + 2)) := fun a => va47 D a.1
theorem va25 (D : Nat) (x0 : D196) : acall table prims 1000 (D + 3) 25 [.v T1914 x0] = (S25 1000 x0).bind fun b => some [.v .bool b] := by
  have h47 : (ctr47 (S47 1000)).holds (acall table prims 1000 (D + 2)) := by have := ho47 (D + 0); rwa [show D + 0 + 2 = D + 2 by omega] at this
  have e1 := acall_succ (tb := table) (pr := prims) (N := 1000) (D := D + 2) (f := 25) (fd := d25) (es := [.v T1914 x0]) rfl rfl rfl
  exact e1.trans ((gen25 (S47 1000) h47 x0).trans (ng25 (S47 1000) x0 (fun (r0 : Bool) => some (r0)) (fun b => some ([.v .bool b] : List E))).symm)
theorem ho25 (D : Nat) : (ctr25 (S25 1000)).holds (acall table prims 1000 (D + 3)) := fun a => va25 D a.1
theorem va26 (D : Nat) (x0 : Int) : acall table prims 1000 (D + 1) 26 [.v T192 x0] = (S26 1000 x0).bind fun b => some [.v .str b] := by
  have e1 := acall_succ (tb := table) (pr := prims) (N := 1000) (D := D + 0) (f := 26) (fd := d26) (es := [.v T192 x0]) rfl rfl rfl
  exact e1.trans ((gen26 x0).trans (ng26 x0 (fun (r0 : D190) => some (r0)) (fun b => some ([.v .str b] : List E))).symm)
theorem ho26 (D : Nat) : (ctr26 (S26 1000)).holds (acall table prims 1000 (D + 1)) := fun a => va26 D a.1
theorem va27 (D : Nat) (x0 : Int) : acall table prims 1000 (D + 1) 27 [.v T192 x0] = (S27 1000 x0).bind fun b => some [.v .str b] := by
  have e1 := acall_succ (tb := table) (pr := prims) (N := 1000) (D := D + 0) (f := 27) (fd := d27) (es := [.v T192 x0]) rfl rfl rfl
  exact e1.trans ((gen27 x0).trans (ng27 x0 (fun (r0 : D190) => some (r0)) (fun b => some ([.v .str b] : List E))).symm)
theorem ho27 (D : Nat) : (ctr27 (S27 1000)).holds (acall table prims 1000 (D + 1)) := fun a => va27 D a.1
theorem va6 (D : Nat) (x0 : D196) (x1 : Int) : acall table prims 1000 (D + 13) 6 [.v T1914 x0, .v T192 x1] = (S6 1000 x0 x1).bind fun b => some [.v .bool b] := by
  have h8 : (ctr8 (S8 1000)).holds (acall table prims 1000 (D + 12)) := by have := ho8 (D + 0); rwa [show D + 0 + 12 = D + 12 by omega] at this
  have h13 : (ctr13 (S13 1000)).holds (acall table prims 1000 (D + 12)) := by have := ho13 (D + 9); rwa [show D + 9 + 3 = D + 12 by omega] at this
  have h14 : (ctr14 (S14 1000)).holds (acall table prims 1000 (D + 12)) := by have := ho14 (D + 10); rwa [show D + 10 + 2 = D + 12 by omega] at this
  have h22 : (ctr22 (S22 1000)).holds (acall table prims 1000 (D + 12)) := by have := ho22 (D + 11); rwa [show D + 11 + 1 = D + 12 by omega] at this
  have h23 : (ctr23 (S23 1000)).holds (acall table prims 1000 (D + 12)) := by have := ho23 (D + 11); rwa [show D + 11 + 1 = D + 12 by omega] at this
  have h24 : (ctr24 (S24 1000)).holds (acall table prims 1000 (D + 12)) := by have := ho24 (D + 10); rwa [show D + 10 + 2 = D + 12 by omega] at this
  have h25 : (ctr25 (S25 1000)).holds (acall table prims 1000 (D + 12)) := by have := ho25 (D + 9); rwa [show D + 9 + 3 = D + 12 by omega] at this
  have h26 : (ctr26 (S26 1000)).holds (acall table prims 1000 (D + 12)) := by have := ho26 (D + 11); rwa [show D + 11 + 1 = D + 12 by omega] at this
  have h27 : (ctr27 (S27 1000)).holds (acall table prims 1000 (D + 12)) := by have := ho27 (D + 11); rwa [show D + 11 + 1 = D + 12 by omega] at this
  have e1 := acall_succ (tb := table) (pr := prims) (N := 1000) (D := D + 12) (f := 6) (fd := d6) (es := [.v T1914 x0, .v T192 x1]) rfl rfl rfl
  exact e1.trans ((gen6 (S8 1000) (S13 1000) (S14 1000) (S22 1000) (S23 1000) (S24 1000) (S25 1000) (S26 1000) (S27 1000) h8 h13 h14 h22 h23 h24 h25 h26 h27 x0 x1).trans (ng6 (S8 1000) (S13 1000) (S14 1000) (S22 1000) (S23 1000) (S24 1000) (S25 1000) (S26 1000) (S27 1000) x0 x1 (fun (r0 : Bool) => some (r0)) (fun b => some ([.v .bool b] : List E))).symm)
theorem ho6 (D : Nat) : (ctr6 (S6 1000)).holds (acall table prims 1000 (D + 13)) := fun a => va6 D a.1 a.2.1
end Go.Fw.L19
