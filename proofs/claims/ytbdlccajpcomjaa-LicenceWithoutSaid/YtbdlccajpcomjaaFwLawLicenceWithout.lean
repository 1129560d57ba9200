/- LicenceWithout: the row, from the law's pure theorem main6; no conditions. -/
import Derived.Test.YtbdlccajpcomjaaRows
import Derived.Test.YtbdlccajpcomjaaFwWo17
import Derived.Test.YtbdlccajpcomjaaFwHo17wo
import Derived.Test.YtbdlccajpcomjaaFwB6
import Derived.WalkKit
import Derived.ProofKit
import Derived.OpenShut
import Derived.ShutString
import Derived.ChangeOld
import Derived.Below
import Derived.SizedLaws
set_option linter.unusedVariables false
set_option linter.unusedSimpArgs false
namespace Go.Proofs.Ytbdlccajpcomjaa.licenceWithout
open Go.ChangeShapes Go.WideShapes Go.ChangeAt Go.RowKit
open Go.Fw Go.Fw.L19 in
theorem walk (v0 v1 v2:Value) (W:World) (x0:den (.pair .str (.pair (.sl (.pair (.int .i64) (.pair (.int .i64) (.pair (.sl .str) .unit)))) .unit))) (x1:den (.int .i64)) (x2:den .str) (r0:ARep Try.prog W (fun _ _=>True) (.v (.pair .str (.pair (.sl (.pair (.int .i64) (.pair (.int .i64) (.pair (.sl .str) .unit)))) .unit)) x0) v0) (r1:ARep Try.prog W (fun _ _=>True) (.v (.int .i64) x1) v1) (r2:ARep Try.prog W (fun _ _=>True) (.v .str x2) v2) (i0:InR (.pair .str (.pair (.sl (.pair (.int .i64) (.pair (.int .i64) (.pair (.sl .str) .unit)))) .unit)) x0) (i1:InR (.int .i64) x1) (i2:InR .str x2) (z0:InZ reachBytes (.pair .str (.pair (.sl (.pair (.int .i64) (.pair (.int .i64) (.pair (.sl .str) .unit)))) .unit)) x0) (z1:InZ reachBytes (.int .i64) x1) (z2:InZ reachBytes .str x2):Calls Try.prog 6 #[v0,v1,v2] W (fun e w'=>e=.returned (.bool true)∧Below W.heap.size W w'):=by
 have hg:Go.Fw.Good Try.prog Go.Fw.Tabs.nil (acall table prims 2000 (0+13)):=acall_good 2000 (fun f fd _ h=>tab_ok f fd h) prims_good _
 refine call_true (es:=[.v (.pair .str (.pair (.sl (.pair (.int .i64) (.pair (.int .i64) (.pair (.sl .str) .unit)))) .unit)) x0,.v (.int .i64) x1,.v .str x2]) hg ?_ (.cons r0 (.cons r1 (.cons r2 .nil)))
 rw [va6 0,main6 x0 x1 x2 z0 z1 z2]; rfl
theorem own:ownKnob Try.prog.godebug=none:=by kernel_rfl
set_option maxRecDepth 100000 in
theorem lifted (os:Os) (started:os.Started) (H:Type) (enc:TypeId×Value→H):
  ReturnsInHanded {} Try.checked os 6 .any (Rows.licenceWithoutSpec.pre6 enc Try.prog Try.f6 Rows.licenceWithoutRow.domain false) (Rows.licenceWithoutSpec.post enc Try.prog Try.f6 false true false false):=by
 refine returnsInHanded_of_change_sized (C:=Try.checked) own started (by kernel_rfl) Try.func6
  (ChangeSpec.witness6 (enc:=enc) (C:=Try.checked) false ⟨#[],#[.agg #[.string ⟨#[]⟩,.slice none 0 0],.int .i64 0,.string ⟨#[]⟩],[]⟩ 6 (by kernel_rfl) (by kernel_rfl) (by kernel_rfl) (by kernel_rfl)) ?_
 intro W base args ds gs before hval0 hW hcnd hsz0 _
 have hval:∀ (j:Nat) t v,Try.f6.params[j]?=some t→args[j]?=some v→Value.okWide Try.prog W .any base t v:=hval0
 have hW':=hW
 obtain ⟨p,q,hA0,hV,rfl,hfz,hnd⟩:=hW
 have hAll:DataW.TrodAll enc Try.prog W 0 (fun _=>true) true Try.f6.params.toList args.toList ds p:=hA0
 have hA:=hAll
 rw [Try.params6] at hA hval
 obtain ⟨v0,vs0,d0,ds0,p0,q0,hargs,rfl,rfl,h0,r0⟩:=trodAll_cons hA
 obtain ⟨v1,vs1,d1,ds1,p1,q1,rfl,rfl,rfl,h1,r1⟩:=trodAll_cons r0
 obtain ⟨v2,vs2,d2,ds2,p2,q2,rfl,rfl,rfl,h2,r2⟩:=trodAll_cons r1
 obtain ⟨rfl,rfl,rfl⟩:=trodAll_nil r2
 obtain rfl:args=#[v0,v1,v2]:=by cases args; simp_all
 obtain ⟨rfl,rfl⟩:=trodVars_none hV
 obtain ⟨x0,e0,i0,z0⟩:=Go.Fw.open_argZ (P:=Try.prog) (T:=(.pair .str (.pair (.sl (.pair (.int .i64) (.pair (.int .i64) (.pair (.sl .str) .unit)))) .unit))) (by kernel_rfl) rfl (hval 0 24 v0 rfl rfl) h0 (Go.Fw.weight_at (j:=0) hsz0 (by rw [Try.params6]; rfl) rfl)
 obtain ⟨x1,e1,i1,z1⟩:=Go.Fw.open_argZ (P:=Try.prog) (T:=(.int .i64)) (by kernel_rfl) rfl (hval 1 3 v1 rfl rfl) h1 (Go.Fw.weight_at (j:=1) hsz0 (by rw [Try.params6]; rfl) rfl)
 obtain ⟨x2,e2,i2,z2⟩:=Go.Fw.open_argZ (P:=Try.prog) (T:=.str) (by kernel_rfl) rfl (hval 2 9 v2 rfl rfl) h2 (Go.Fw.weight_at (j:=2) hsz0 (by rw [Try.params6]; rfl) rfl)
 refine (walk v0 v1 v2 W x0 x1 x2 e0 e1 e2 i0 i1 i2 z0 z1 z2).mono fun e W' ⟨he,bel⟩=>?_
 subst he
 exact ⟨_,rfl,_,_,_,[],_,[],hW',trodAll_mk1 (shut_bool Try.underlying4 _),Go.Fw.args_stay (by kernel_rfl) bel _ _ _ _ (by kernel_rfl) hAll,rfl,bel.frame _,fun h=>by cases h⟩
theorem over:Rows.licenceWithoutRow.holds Try.pinned (OpenSpec.ofChange Rows.licenceWithoutSpec):=
 OpenClaim.holds_of_wide 6 Try.f6 rfl rfl rfl rfl rfl rfl rfl ⟨rfl,rfl,rfl,rfl,rfl⟩ rfl rfl rfl rfl rfl (by kernel_rfl) Try.func6 (by kernel_rfl)
  (of_decide_eq_true (by kernel_rfl)) (by unfold Func.isWrapper; first | (rw [if_pos (by decide+kernel)]; kernel_rfl) | (rw [if_neg (by decide+kernel)]; exact ⟨rfl,rfl⟩))
  (fun os started H enc _=>lifted os started H enc)
theorem proved:Rows.LicenceWithoutSaid:=over
#print axioms proved
end Go.Proofs.Ytbdlccajpcomjaa.licenceWithout
namespace Go.Proofs.Ytbdlccajpcomjaa
theorem licenceWithout_holds:Rows.LicenceWithoutSaid:=licenceWithout.proved
end Go.Proofs.Ytbdlccajpcomjaa
