/- LicenceSpaced: the row, from the law's pure theorem main3; no conditions. -/
import Derived.Test.YtbdlccajpcomjaaRows
import Derived.Test.YtbdlccajpcomjaaFwWs17
import Derived.Test.YtbdlccajpcomjaaFwHs17spc
import Derived.Test.YtbdlccajpcomjaaFwB6
import Derived.WalkKit
import Derived.ProofKit
import Derived.OpenShut
import Derived.ShutString
import Derived.ChangeOld
import Derived.Below
import Derived.SizedLaws
set_option linter.unusedVariables false
set_option linter.unusedSimpArgs false
namespace Go.Proofs.Ytbdlccajpcomjaa.licenceSpaced
open Go.ChangeShapes Go.WideShapes Go.ChangeAt Go.RowKit
set_option linter.unusedVariables false
open Go.Fw Go.Fw.L19 in
theorem walk (v0 v1:Value) (W:World) (x0:den (.pair .str (.pair (.sl (.pair (.int .i64) (.pair (.int .i64) (.pair (.sl .str) .unit)))) .unit))) (x1:den (.sl (.int .u8))) (r0:ARep Try.prog W (fun _ _=>True) (.v (.pair .str (.pair (.sl (.pair (.int .i64) (.pair (.int .i64) (.pair (.sl .str) .unit)))) .unit)) x0) v0) (r1:ARep Try.prog W (fun _ _=>True) (.v (.sl (.int .u8)) x1) v1) (i0:InR (.pair .str (.pair (.sl (.pair (.int .i64) (.pair (.int .i64) (.pair (.sl .str) .unit)))) .unit)) x0) (i1:InR (.sl (.int .u8)) x1) (z0:InZ reachBytes (.pair .str (.pair (.sl (.pair (.int .i64) (.pair (.int .i64) (.pair (.sl .str) .unit)))) .unit)) x0) (z1:InZ reachBytes (.sl (.int .u8)) x1):Calls Try.prog 3 #[v0,v1] W (fun e w'=>e=.returned (.bool true)∧Below W.heap.size W w'):=by
 have hg:Go.Fw.Good Try.prog (acall table prims 30000 (0+13)):=acall_good 30000 (fun f fd _ h=>tab_ok f fd h) prims_good _
 refine call_true (es:=[.v (.pair .str (.pair (.sl (.pair (.int .i64) (.pair (.int .i64) (.pair (.sl .str) .unit)))) .unit)) x0,.v (.sl (.int .u8)) x1]) hg ?_ (.cons r0 (.cons r1 .nil))
 rw [va3 0,main3 x0 x1 i0 i1 z0 z1]; rfl
theorem own:ownKnob Try.prog.godebug=none:=by kernel_rfl
set_option maxRecDepth 100000 in
theorem lifted (os:Os) (started:os.Started) (H:Type) (enc:TypeId×Value→H):
  ReturnsInHanded {} Try.checked os 3 .any (Rows.licenceSpacedSpec.pre6 enc Try.prog Try.f3 Rows.licenceSpacedRow.domain false) (Rows.licenceSpacedSpec.post enc Try.prog Try.f3 false true false false):=by
 refine returnsInHanded_of_change_sized (C:=Try.checked) own started (by kernel_rfl) Try.func3
  (ChangeSpec.witness6 (enc:=enc) (C:=Try.checked) false ⟨#[],#[.agg #[.string ⟨#[]⟩,.slice none 0 0],.slice none 0 0],[]⟩ 3 (by kernel_rfl) (by kernel_rfl) (by kernel_rfl) (by kernel_rfl)) ?_
 intro W base args ds gs before hval0 hW hcnd hsz0 _
 have hval:∀ (j:Nat) t v,Try.f3.params[j]?=some t→args[j]?=some v→Value.okWide Try.prog W .any base t v:=hval0
 have hW':=hW
 obtain ⟨p,q,hA0,hV,rfl,hfz,hnd⟩:=hW
 have hAll:DataW.TrodAll enc Try.prog W 0 (fun _=>true) true Try.f3.params.toList args.toList ds p:=hA0
 have hA:=hAll
 rw [Try.params3] at hA hval
 obtain ⟨v0,vs0,d0,ds0,p0,q0,hargs,rfl,rfl,h0,r0⟩:=trodAll_cons hA
 obtain ⟨v1,vs1,d1,ds1,p1,q1,rfl,rfl,rfl,h1,r1⟩:=trodAll_cons r0
 obtain ⟨rfl,rfl,rfl⟩:=trodAll_nil r1
 obtain rfl:args=#[v0,v1]:=by cases args; simp_all
 obtain ⟨rfl,rfl⟩:=trodVars_none hV
 obtain ⟨x0,e0,i0,z0⟩:=Go.Fw.open_argZ (P:=Try.prog) (T:=(.pair .str (.pair (.sl (.pair (.int .i64) (.pair (.int .i64) (.pair (.sl .str) .unit)))) .unit))) (by kernel_rfl) rfl (hval 0 24 v0 rfl rfl) h0 (Go.Fw.weight_at (j:=0) hsz0 (by rw [Try.params3]; rfl) rfl)
 obtain ⟨x1,e1,i1,z1⟩:=Go.Fw.open_argZ (P:=Try.prog) (T:=(.sl (.int .u8))) (by kernel_rfl) rfl (hval 1 25 v1 rfl rfl) h1 (Go.Fw.weight_at (j:=1) hsz0 (by rw [Try.params3]; rfl) rfl)
 refine (walk v0 v1 W x0 x1 e0 e1 i0 i1 z0 z1).mono fun e W' ⟨he,bel⟩=>?_
 subst he
 exact ⟨_,rfl,_,_,_,[],_,[],hW',trodAll_mk1 (shut_bool Try.underlying4 _),Go.Fw.args_stay (by kernel_rfl) bel _ _ _ _ (by kernel_rfl) hAll,rfl,bel.frame _,fun h=>by cases h⟩
theorem over:Rows.licenceSpacedRow.holds Try.pinned (OpenSpec.ofChange Rows.licenceSpacedSpec):=
 OpenClaim.holds_of_wide 3 Try.f3 rfl rfl rfl rfl rfl rfl rfl ⟨rfl,rfl,rfl,rfl,rfl⟩ rfl rfl rfl rfl rfl (by kernel_rfl) Try.func3 (by kernel_rfl)
  (of_decide_eq_true (by kernel_rfl)) (by unfold Func.isWrapper; first | (rw [if_pos (by decide+kernel)]; kernel_rfl) | (rw [if_neg (by decide+kernel)]; exact ⟨rfl,rfl⟩))
  (fun os started H enc _=>lifted os started H enc)
theorem proved:Rows.LicenceSpacedSaid:=over
#print axioms proved
end Go.Proofs.Ytbdlccajpcomjaa.licenceSpaced
namespace Go.Proofs.Ytbdlccajpcomjaa
theorem licenceSpaced_holds:Rows.LicenceSpacedSaid:=licenceSpaced.proved
end Go.Proofs.Ytbdlccajpcomjaa
