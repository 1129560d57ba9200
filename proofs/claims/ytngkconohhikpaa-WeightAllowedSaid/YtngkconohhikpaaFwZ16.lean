import Derived.Test.YtngkconohhikpaaFwM16
set_option linter.unusedVariables false
set_option linter.unusedSimpArgs false
namespace Go.Fw.L16
open Go Go.Fw
set_option maxRecDepth 100000
def prims : Prims := fun f => match f with
  | 27 => some (ctr27 (S27 0)).prim
  | 28 => some (ctr28 (S28 0)).prim
  | _ => none
theorem ho27 (N D : Nat) : (ctr27 (S27 N)).holds (acall table prims N (D + 1)) := prim_holds rfl (by intro a; kernel_rfl)
theorem ho28 (N D : Nat) : (ctr28 (S28 N)).holds (acall table prims N (D + 1)) := prim_holds rfl (by intro a; kernel_rfl)
theorem va32 (N D : Nat) (x0 : Int) (x1 : Int) : acall table prims N (D + 1) 32 [.v T161 x0, .v T161 x1] = (S32 N x0 x1).bind fun b => some [.v T166 b] := by
  have e1 := acall_succ (tb := table) (pr := prims) (N := N) (D := D + 0) (f := 32) (fd := d32) (es := [.v T161 x0, .v T161 x1]) rfl rfl rfl
  exact e1.trans ((gen32 x0 x1).trans (ng32 x0 x1 (fun (r0 : D165) => some (r0)) (fun b => some ([.v T166 b] : List E))).symm)
theorem ho32 (N D : Nat) : (ctr32 (S32 N)).holds (acall table prims N (D + 1)) := fun a => va32 N D a.1 a.2.1
theorem va31 (N D : Nat) (x0 : Int) (x1 : Int) : acall table prims N (D + 1) 31 [.v T161 x0, .v T161 x1] = (S31 N x0 x1).bind fun b => some [.v T166 b] := by
  have e1 := acall_succ (tb := table) (pr := prims) (N := N) (D := D + 0) (f := 31) (fd := d31) (es := [.v T161 x0, .v T161 x1]) rfl rfl rfl
  exact e1.trans ((gen31 x0 x1).trans (ng31 x0 x1 (fun (r0 : D165) => some (r0)) (fun b => some ([.v T166 b] : List E))).symm)
theorem ho31 (N D : Nat) : (ctr31 (S31 N)).holds (acall table prims N (D + 1)) := fun a => va31 N D a.1 a.2.1
theorem va30 (N D : Nat) (x0 : Int) (x1 : Int) : acall table prims N (D + 2) 30 [.v T161 x0, .v T161 x1] = (S30 N x0 x1).bind fun b => some [.own true 33 T166 .no b] := by
  have h31 : (ctr31 (S31 N)).holds (acall table prims N (D + 1)) := by have := ho31 N (D + 0); rwa [show D + 0 + 1 = D + 1 by omega] at this
  have h32 : (ctr32 (S32 N)).holds (acall table prims N (D + 1)) := by have := ho32 N (D + 0); rwa [show D + 0 + 1 = D + 1 by omega] at this
  have e1 := acall_succ (tb := table) (pr := prims) (N := N) (D := D + 1) (f := 30) (fd := d30) (es := [.v T161 x0, .v T161 x1]) rfl rfl rfl
  exact e1.trans ((gen30 (S31 N) (S32 N) h31 h32 x0 x1).trans (ng30 (S31 N) (S32 N) x0 x1 (fun (r0 : D167) => some (r0)) (fun b => some ([.own true 33 T166 .no b] : List E))).symm)
theorem ho30 (N D : Nat) : (ctr30 (S30 N)).holds (acall table prims N (D + 2)) := fun a => va30 N D a.1 a.2.1
theorem va19 (N D : Nat) (x0 : D167) : acall table prims N (D + 1) 19 [.v T167 x0] = (S19 N x0).bind fun b => some [.v T161 b] := by
  have e1 := acall_succ (tb := table) (pr := prims) (N := N) (D := D + 0) (f := 19) (fd := d19) (es := [.v T167 x0]) rfl rfl rfl
  exact e1.trans ((gen19 x0).trans (ng19 N x0 (fun (r0 : Int) => some (r0)) (fun b => some ([.v T161 b] : List E))).symm)
theorem ho19 (N D : Nat) : (ctr19 (S19 N)).holds (acall table prims N (D + 1)) := fun a => va19 N D a.1
theorem va12 (N D : Nat) (x0 : Int) (x1 : Int) : acall table prims N (D + 3) 12 [.v T161 x0, .v T161 x1] = (S12 N x0 x1).bind fun b => some [.own true 33 T166 .no b.1, .v T161 b.2] := by
  have h19 : (ctr19 (S19 N)).holds (acall table prims N (D + 2)) := by have := ho19 N (D + 1); rwa [show D + 1 + 1 = D + 2 by omega] at this
  have h30 : (ctr30 (S30 N)).holds (acall table prims N (D + 2)) := by have := ho30 N (D + 0); rwa [show D + 0 + 2 = D + 2 by omega] at this
  have h31 : (ctr31 (S31 N)).holds (acall table prims N (D + 2)) := by have := ho31 N (D + 1); rwa [show D + 1 + 1 = D + 2 by omega] at this
  have h32 : (ctr32 (S32 N)).holds (acall table prims N (D + 2)) := by have := ho32 N (D + 1); rwa [show D + 1 + 1 = D + 2 by omega] at this
  have e1 := acall_succ (tb := table) (pr := prims) (N := N) (D := D + 2) (f := 12) (fd := d12) (es := [.v T161 x0, .v T161 x1]) rfl rfl rfl
  exact e1.trans ((gen12 (S19 N) (S30 N) (S31 N) (S32 N) h19 h30 h31 h32 x0 x1).trans (ng12 (S19 N) (S30 N) (S31 N) (S32 N) x0 x1 (fun (r0 : D167) (r1 : Int) => some (r0, r1)) (fun b => some ([.own true 33 T166 .no b.1, .v T161 b.2] : List E))).symm)
theorem ho12 (N D : Nat) : (ctr12 (S12 N)).holds (acall table prims N (D + 3)) := fun a => va12 N D a.1 a.2.1
theorem va15 (N D : Nat) (x0 : Int) (x1 : Bool) : acall table prims N (D + 3) 15 [.v T161 x0, .v .bool x1] = (S15 N x0 x1).bind fun b => some [.own true 33 T166 .no b.1, .v T161 b.2] := by
  have h30 : (ctr30 (S30 N)).holds (acall table prims N (D + 2)) := by have := ho30 N (D + 0); rwa [show D + 0 + 2 = D + 2 by omega] at this
  have h31 : (ctr31 (S31 N)).holds (acall table prims N (D + 2)) := by have := ho31 N (D + 1); rwa [show D + 1 + 1 = D + 2 by omega] at this
  have h32 : (ctr32 (S32 N)).holds (acall table prims N (D + 2)) := by have := ho32 N (D + 1); rwa [show D + 1 + 1 = D + 2 by omega] at this
  have e1 := acall_succ (tb := table) (pr := prims) (N := N) (D := D + 2) (f := 15) (fd := d15) (es := [.v T161 x0, .v .bool x1]) rfl rfl rfl
  exact e1.trans ((gen15 (S30 N) (S31 N) (S32 N) h30 h31 h32 x0 x1).trans (ng15 (S30 N) (S31 N) (S32 N) x0 x1 (fun (r0 : D167) (r1 : Int) => some (r0, r1)) (fun b => some ([.own true 33 T166 .no b.1, .v T161 b.2] : List E))).symm)
theorem ho15 (N D : Nat) : (ctr15 (S15 N)).holds (acall table prims N (D + 3)) := fun a => va15 N D a.1 a.2.1
theorem va14 (N D : Nat) (x0 : D167) (x1 : D167) : acall table prims N (D + 1) 14 [.v T167 x0, .v T167 x1] = (S14 N x0 x1).bind fun b => some [.v .bool b] := by
  have e1 := acall_succ (tb := table) (pr := prims) (N := N) (D := D + 0) (f := 14) (fd := d14) (es := [.v T167 x0, .v T167 x1]) rfl rfl rfl
  exact e1.trans ((gen14 x0 x1).trans (ng14 N x0 x1 (fun (r0 : Bool) => some (r0)) (fun b => some ([.v .bool b] : List E))).symm)
theorem ho14 (N D : Nat) : (ctr14 (S14 N)).holds (acall table prims N (D + 1)) := fun a => va14 N D a.1 a.2.1
theorem va11 (N D : Nat) : acall table prims N (D + 4) 11 [] = (S11 N).bind fun b => some [.v .bool b] := by
  have h12 : (ctr12 (S12 N)).holds (acall table prims N (D + 3)) := by have := ho12 N (D + 0); rwa [show D + 0 + 3 = D + 3 by omega] at this
  have h14 : (ctr14 (S14 N)).holds (acall table prims N (D + 3)) := by have := ho14 N (D + 2); rwa [show D + 2 + 1 = D + 3 by omega] at this
  have h15 : (ctr15 (S15 N)).holds (acall table prims N (D + 3)) := by have := ho15 N (D + 0); rwa [show D + 0 + 3 = D + 3 by omega] at this
  have e1 := acall_succ (tb := table) (pr := prims) (N := N) (D := D + 3) (f := 11) (fd := d11) (es := []) rfl rfl rfl
  exact e1.trans ((gen11 (S12 N) (S14 N) (S15 N) h12 h14 h15).trans (ng11 (S12 N) (S14 N) (S15 N) (fun (r0 : Bool) => some (r0)) (fun b => some ([.v .bool b] : List E))).symm)
theorem ho11 (N D : Nat) : (ctr11 (S11 N)).holds (acall table prims N (D + 4)) := fun a => va11 N D
theorem va5 (N D : Nat) (x0 : Int) (x1 : Int) (x2 : Bool) : acall table prims N (D + 5) 5 [.v T160 x0, .v T160 x1, .v .bool x2] = (S5 N x0 x1 x2).bind fun b => some [.v .bool b] := by
  have h11 : (ctr11 (S11 N)).holds (acall table prims N (D + 4)) := by have := ho11 N (D + 0); rwa [show D + 0 + 4 = D + 4 by omega] at this
  have h12 : (ctr12 (S12 N)).holds (acall table prims N (D + 4)) := by have := ho12 N (D + 1); rwa [show D + 1 + 3 = D + 4 by omega] at this
  have h15 : (ctr15 (S15 N)).holds (acall table prims N (D + 4)) := by have := ho15 N (D + 1); rwa [show D + 1 + 3 = D + 4 by omega] at this
  have e1 := acall_succ (tb := table) (pr := prims) (N := N) (D := D + 4) (f := 5) (fd := d5) (es := [.v T160 x0, .v T160 x1, .v .bool x2]) rfl rfl rfl
  exact e1.trans ((gen5 (S11 N) (S12 N) (S15 N) h11 h12 h15 x0 x1 x2).trans (ng5 N (S11 N) (S12 N) (S15 N) x0 x1 x2 (fun (r0 : Bool) => some (r0)) (fun b => some ([.v .bool b] : List E))).symm)
theorem ho5 (N D : Nat) : (ctr5 (S5 N)).holds (acall table prims N (D + 5)) := fun a => va5 N D a.1 a.2.1 a.2.2.1
theorem va36 (N D : Nat) (x0 : D165) (x1 : Int) : acall table prims N (D + 1) 36 [.v T166 x0, .at T161 x1] = (S36 N x0 x1).bind fun b => some [.v .bool b] := by
  have e1 := acall_succ (tb := table) (pr := prims) (N := N) (D := D + 0) (f := 36) (fd := d36) (es := [.v T166 x0, .at T161 x1]) rfl rfl rfl
  exact e1.trans ((gen36 x0 x1).trans (ng36 x0 x1 (fun (r0 : Bool) => some (r0)) (fun b => some ([.v .bool b] : List E))).symm)
theorem ho36 (N D : Nat) : (ctr36 (S36 N)).holds (acall table prims N (D + 1)) := fun a => va36 N D a.1 a.2.1
theorem va35 (N D : Nat) (x0 : D167) (x1 : D1611) : acall table prims N (D + 1) 35 [.v T167 x0, .v T169 x1] = (S35 N x0 x1).bind fun b => some [.v T161 b] := by
  have e1 := acall_succ (tb := table) (pr := prims) (N := N) (D := D + 0) (f := 35) (fd := d35) (es := [.v T167 x0, .v T169 x1]) rfl rfl rfl
  exact e1.trans ((gen35 x0 x1).trans (ng35 N x0 x1 (fun (r0 : Int) => some (r0)) (fun b => some ([.v T161 b] : List E))).symm)
theorem ho35 (N D : Nat) : (ctr35 (S35 N)).holds (acall table prims N (D + 1)) := fun a => va35 N D a.1 a.2.1
theorem va17 (N D : Nat) (x0 : D167) (x1 : Int) : acall table prims N (D + 2) 17 [.v T167 x0, .v T161 x1] = (S17 N x0 x1).bind fun b => some [.v T161 b.1, .v .bool b.2] := by
  have h35 : (ctr35 (S35 N)).holds (acall table prims N (D + 1)) := by have := ho35 N (D + 0); rwa [show D + 0 + 1 = D + 1 by omega] at this
  have h36 : (ctr36 (S36 N)).holds (acall table prims N (D + 1)) := by have := ho36 N (D + 0); rwa [show D + 0 + 1 = D + 1 by omega] at this
  have e1 := acall_succ (tb := table) (pr := prims) (N := N) (D := D + 1) (f := 17) (fd := d17) (es := [.v T167 x0, .v T161 x1]) rfl rfl rfl
  exact e1.trans ((gen17 (S35 N) (S36 N) h35 h36 x0 x1).trans (ng17 (S35 N) (S36 N) x0 x1 (fun (r0 : Int) (r1 : Bool) => some (r0, r1)) (fun b => some ([.v T161 b.1, .v .bool b.2] : List E))).symm)
theorem ho17 (N D : Nat) : (ctr17 (S17 N)).holds (acall table prims N (D + 2)) := fun a => va17 N D a.1 a.2.1
theorem va18 (N D : Nat) (x0 : D167) (x1 : Int) : acall table prims N (D + 1) 18 [.v T167 x0, .v T161 x1] = (S18 N x0 x1).bind fun b => some [.v T161 b.1, .v .bool b.2] := by
  have e1 := acall_succ (tb := table) (pr := prims) (N := N) (D := D + 0) (f := 18) (fd := d18) (es := [.v T167 x0, .v T161 x1]) rfl rfl rfl
  exact e1.trans ((gen18 x0 x1).trans (ng18 N x0 x1 (fun (r0 : Int) (r1 : Bool) => some (r0, r1)) (fun b => some ([.v T161 b.1, .v .bool b.2] : List E))).symm)
theorem ho18 (N D : Nat) : (ctr18 (S18 N)).holds (acall table prims N (D + 1)) := fun a => va18 N D a.1 a.2.1
theorem va20 (N D : Nat) (x0 : D167) : acall table prims N (D + 1) 20 [.v T167 x0] = (S20 N x0).bind fun b => some [.v T161 b] := by
  have e1 := acall_succ (tb := table) (pr := prims) (N := N) (D := D + 0) (f := 20) (fd := d20) (es := [.v T167 x0]) rfl rfl rfl
  exact e1.trans ((gen20 x0).trans (ng20 N x0 (fun (r0 : Int) => some (r0)) (fun b => some ([.v T161 b] : List E))).symm)
theorem ho20 (N D : Nat) : (ctr20 (S20 N)).holds (acall table prims N (D + 1)) := fun a => va20 N D a.1
theorem va6 (N D : Nat) (x0 : D167) (x1 : Int) : acall table prims N (D + 5) 6 [.v T167 x0, .v T161 x1] = (S6 N x0 x1).bind fun b => some [.v .bool b] := by
  have h11 : (ctr11 (S11 N)).holds (acall table prims N (D + 4)) := by have := ho11 N (D + 0); rwa [show D + 0 + 4 = D + 4 by omega] at this
  have h17 : (ctr17 (S17 N)).holds (acall table prims N (D + 4)) := by have := ho17 N (D + 2); rwa [show D + 2 + 2 = D + 4 by omega] at this
  have h18 : (ctr18 (S18 N)).holds (acall table prims N (D + 4)) := by have := ho18 N (D + 3); rwa [show D + 3 + 1 = D + 4 by omega] at this
  have h19 : (ctr19 (S19 N)).holds (acall table prims N (D + 4)) := by have := ho19 N (D + 3); rwa [show D + 3 + 1 = D + 4 by omega] at this
  have h20 : (ctr20 (S20 N)).holds (acall table prims N (D + 4)) := by have := ho20 N (D + 3); rwa [show D + 3 + 1 = D + 4 by omega] at this
  have e1 := acall_succ (tb := table) (pr := prims) (N := N) (D := D + 4) (f := 6) (fd := d6) (es := [.v T167 x0, .v T161 x1]) rfl rfl rfl
  exact e1.trans ((gen6 (S11 N) (S17 N) (S18 N) (S19 N) (S20 N) h11 h17 h18 h19 h20 x0 x1).trans (ng6 (S11 N) (S17 N) (S18 N) (S19 N) (S20 N) x0 x1 (fun (r0 : Bool) => some (r0)) (fun b => some ([.v .bool b] : List E))).symm)
theorem ho6 (N D : Nat) : (ctr6 (S6 N)).holds (acall table prims N (D + 5)) := fun a => va6 N D a.1 a.2.1
theorem va42 (N D : Nat) (x0 : D160) (x1 : Int) : acall table prims N (D + 1) 42 [.v T162 x0, .v T161 x1] = (S42 N x0 x1).bind fun b => some [.v T161 b] := by
  have e1 := acall_succ (tb := table) (pr := prims) (N := N) (D := D + 0) (f := 42) (fd := d42) (es := [.v T162 x0, .v T161 x1]) rfl rfl rfl
  exact e1.trans ((gen42 x0 x1).trans (ng42 N x0 x1 (fun (r0 : Int) => some (r0)) (fun b => some ([.v T161 b] : List E))).symm)
theorem ho42 (N D : Nat) : (ctr42 (S42 N)).holds (acall table prims N (D + 1)) := fun a => va42 N D a.1 a.2.1
theorem va40 (N D : Nat) (x0 : D160) (x1 : Int) : acall table prims N (D + 2) 40 [.v T162 x0, .v T161 x1] = (S40 N x0 x1).bind fun b => some [.v .bool b] := by
  have h42 : (ctr42 (S42 N)).holds (acall table prims N (D + 1)) := by have := ho42 N (D + 0); rwa [show D + 0 + 1 = D + 1 by omega] at this
  have e1 := acall_succ (tb := table) (pr := prims) (N := N) (D := D + 1) (f := 40) (fd := d40) (es := [.v T162 x0, .v T161 x1]) rfl rfl rfl
  exact e1.trans ((gen40 (S42 N) h42 x0 x1).trans (ng40 (S42 N) x0 x1 (fun (r0 : Bool) => some (r0)) (fun b => some ([.v .bool b] : List E))).symm)
theorem ho40 (N D : Nat) : (ctr40 (S40 N)).holds (acall table prims N (D + 2)) := fun a => va40 N D a.1 a.2.1
theorem va25 (N D : Nat) (x0 : D167) (x1 : D160) : acall table prims N (D + 3) 25 [.v T167 x0, .v T162 x1] = (S25 N x0 x1).bind fun b => some [.own true 33 T166 .no b] := by
  have h40 : (ctr40 (S40 N)).holds (acall table prims N (D + 2)) := by have := ho40 N (D + 0); rwa [show D + 0 + 2 = D + 2 by omega] at this
  have e1 := acall_succ (tb := table) (pr := prims) (N := N) (D := D + 2) (f := 25) (fd := d25) (es := [.v T167 x0, .v T162 x1]) rfl rfl rfl
  exact e1.trans ((gen25 (S40 N) h40 x0 x1).trans (ng25 N (S40 N) x0 x1 (fun (r0 : D167) => some (r0)) (fun b => some ([.own true 33 T166 .no b] : List E))).symm)
theorem ho25 (N D : Nat) : (ctr25 (S25 N)).holds (acall table prims N (D + 3)) := fun a => va25 N D a.1 a.2.1
theorem va26 (N D : Nat) : acall table prims N (D + 1) 26 [] = (S26 N).bind fun b => some [.own true 3 T161 .no b] := by
  have e1 := acall_succ (tb := table) (pr := prims) (N := N) (D := D + 0) (f := 26) (fd := d26) (es := []) rfl rfl rfl
  exact e1.trans ((gen26).trans (ng26 N (fun (r0 : D160) => some (r0)) (fun b => some ([.own true 3 T161 .no b] : List E))).symm)
theorem ho26 (N D : Nat) : (ctr26 (S26 N)).holds (acall table prims N (D + 1)) := fun a => va26 N D
theorem va8 (N D : Nat) (x0 : Int) (x1 : Int) (x2 : Bool) : acall table prims N (D + 5) 8 [.v T160 x0, .v T160 x1, .v .bool x2] = (S8 N x0 x1 x2).bind fun b => some [.v .bool b] := by
  have h11 : (ctr11 (S11 N)).holds (acall table prims N (D + 4)) := by have := ho11 N (D + 0); rwa [show D + 0 + 4 = D + 4 by omega] at this
  have h12 : (ctr12 (S12 N)).holds (acall table prims N (D + 4)) := by have := ho12 N (D + 1); rwa [show D + 1 + 3 = D + 4 by omega] at this
  have h15 : (ctr15 (S15 N)).holds (acall table prims N (D + 4)) := by have := ho15 N (D + 1); rwa [show D + 1 + 3 = D + 4 by omega] at this
  have h19 : (ctr19 (S19 N)).holds (acall table prims N (D + 4)) := by have := ho19 N (D + 3); rwa [show D + 3 + 1 = D + 4 by omega] at this
  have h25 : (ctr25 (S25 N)).holds (acall table prims N (D + 4)) := by have := ho25 N (D + 1); rwa [show D + 1 + 3 = D + 4 by omega] at this
  have h26 : (ctr26 (S26 N)).holds (acall table prims N (D + 4)) := by have := ho26 N (D + 3); rwa [show D + 3 + 1 = D + 4 by omega] at this
  have e1 := acall_succ (tb := table) (pr := prims) (N := N) (D := D + 4) (f := 8) (fd := d8) (es := [.v T160 x0, .v T160 x1, .v .bool x2]) rfl rfl rfl
  exact e1.trans ((gen8 (S11 N) (S12 N) (S15 N) (S19 N) (S25 N) (S26 N) h11 h12 h15 h19 h25 h26 x0 x1 x2).trans (ng8 (S11 N) (S12 N) (S15 N) (S19 N) (S25 N) (S26 N) x0 x1 x2 (fun (r0 : Bool) => some (r0)) (fun b => some ([.v .bool b] : List E))).symm)
theorem ho8 (N D : Nat) : (ctr8 (S8 N)).holds (acall table prims N (D + 5)) := fun a => va8 N D a.1 a.2.1 a.2.2.1
theorem va9 (N D : Nat) (x0 : Int) (x1 : Bool) (x2 : D160) : acall table prims N (D + 5) 9 [.v T160 x0, .v .bool x1, .v T162 x2] = (S9 N x0 x1 x2).bind fun b => some [.v .bool b] := by
  have h11 : (ctr11 (S11 N)).holds (acall table prims N (D + 4)) := by have := ho11 N (D + 0); rwa [show D + 0 + 4 = D + 4 by omega] at this
  have h12 : (ctr12 (S12 N)).holds (acall table prims N (D + 4)) := by have := ho12 N (D + 1); rwa [show D + 1 + 3 = D + 4 by omega] at this
  have h15 : (ctr15 (S15 N)).holds (acall table prims N (D + 4)) := by have := ho15 N (D + 1); rwa [show D + 1 + 3 = D + 4 by omega] at this
  have h19 : (ctr19 (S19 N)).holds (acall table prims N (D + 4)) := by have := ho19 N (D + 3); rwa [show D + 3 + 1 = D + 4 by omega] at this
  have h25 : (ctr25 (S25 N)).holds (acall table prims N (D + 4)) := by have := ho25 N (D + 1); rwa [show D + 1 + 3 = D + 4 by omega] at this
  have e1 := acall_succ (tb := table) (pr := prims) (N := N) (D := D + 4) (f := 9) (fd := d9) (es := [.v T160 x0, .v .bool x1, .v T162 x2]) rfl rfl rfl
  exact e1.trans ((gen9 (S11 N) (S12 N) (S15 N) (S19 N) (S25 N) h11 h12 h15 h19 h25 x0 x1 x2).trans (ng9 N (S11 N) (S12 N) (S15 N) (S19 N) (S25 N) x0 x1 x2 (fun (r0 : Bool) => some (r0)) (fun b => some ([.v .bool b] : List E))).symm)
theorem ho9 (N D : Nat) : (ctr9 (S9 N)).holds (acall table prims N (D + 5)) := fun a => va9 N D a.1 a.2.1 a.2.2.1
theorem va41 (N D : Nat) (x0 : D160) (x1 : Int) : acall table prims N (D + 1) 41 [.v T162 x0, .v T161 x1] = (S41 N x0 x1).bind fun b => some [.v .bool b] := by
  have e1 := acall_succ (tb := table) (pr := prims) (N := N) (D := D + 0) (f := 41) (fd := d41) (es := [.v T162 x0, .v T161 x1]) rfl rfl rfl
  exact e1.trans ((gen41 x0 x1).trans (ng41 N x0 x1 (fun (r0 : Bool) => some (r0)) (fun b => some ([.v .bool b] : List E))).symm)
theorem ho41 (N D : Nat) : (ctr41 (S41 N)).holds (acall table prims N (D + 1)) := fun a => va41 N D a.1 a.2.1
theorem va29 (N D : Nat) (x0 : D167) (x1 : D160) : acall table prims N (D + 2) 29 [.v T167 x0, .v T162 x1] = (S29 N x0 x1).bind fun b => some [.own true 33 T166 .no b] := by
  have h41 : (ctr41 (S41 N)).holds (acall table prims N (D + 1)) := by have := ho41 N (D + 0); rwa [show D + 0 + 1 = D + 1 by omega] at this
  have e1 := acall_succ (tb := table) (pr := prims) (N := N) (D := D + 1) (f := 29) (fd := d29) (es := [.v T167 x0, .v T162 x1]) rfl rfl rfl
  exact e1.trans ((gen29 (S41 N) h41 x0 x1).trans (ng29 N (S41 N) x0 x1 (fun (r0 : D167) => some (r0)) (fun b => some ([.own true 33 T166 .no b] : List E))).symm)
theorem ho29 (N D : Nat) : (ctr29 (S29 N)).holds (acall table prims N (D + 2)) := fun a => va29 N D a.1 a.2.1
theorem va10 (N D : Nat) (x0 : D167) (x1 : D160) (x2 : Int) : acall table prims N (D + 5) 10 [.v T167 x0, .v T162 x1, .v T161 x2] = (S10 N x0 x1 x2).bind fun b => some [.v .bool b] := by
  have h11 : (ctr11 (S11 N)).holds (acall table prims N (D + 4)) := by have := ho11 N (D + 0); rwa [show D + 0 + 4 = D + 4 by omega] at this
  have h14 : (ctr14 (S14 N)).holds (acall table prims N (D + 4)) := by have := ho14 N (D + 3); rwa [show D + 3 + 1 = D + 4 by omega] at this
  have h25 : (ctr25 (S25 N)).holds (acall table prims N (D + 4)) := by have := ho25 N (D + 1); rwa [show D + 1 + 3 = D + 4 by omega] at this
  have h27 : (ctr27 (S27 N)).holds (acall table prims N (D + 4)) := by have := ho27 N (D + 3); rwa [show D + 3 + 1 = D + 4 by omega] at this
  have h28 : (ctr28 (S28 N)).holds (acall table prims N (D + 4)) := by have := ho28 N (D + 3); rwa [show D + 3 + 1 = D + 4 by omega] at this
  have h29 : (ctr29 (S29 N)).holds (acall table prims N (D + 4)) := by have := ho29 N (D + 2); rwa [show D + 2 + 2 = D + 4 by omega] at this
  have e1 := acall_succ (tb := table) (pr := prims) (N := N) (D := D + 4) (f := 10) (fd := d10) (es := [.v T167 x0, .v T162 x1, .v T161 x2]) rfl rfl rfl
  exact e1.trans ((gen10 (S11 N) (S14 N) (S25 N) (S27 N) (S28 N) (S29 N) h11 h14 h25 h27 h28 h29 x0 x1 x2).trans (ng10 (S11 N) (S14 N) (S25 N) (S27 N) (S28 N) (S29 N) x0 x1 x2 (fun (r0 : Bool) => some (r0)) (fun b => some ([.v .bool b] : List E))).symm)
theorem ho10 (N D : Nat) : (ctr10 (S10 N)).holds (acall table prims N (D + 5)) := fun a => va10 N D a.1 a.2.1 a.2.2.1
end Go.Fw.L16
