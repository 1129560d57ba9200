/- DivisionMore: the row, from the law's pure theorem main9; no conditions. -/
import Derived.Test.YtooiookccchmeaaGreatRows
import Derived.Test.YtooiookccchmeaaGreatFwWy13
import Derived.Test.YtooiookccchmeaaGreatFwHy13all
import Derived.Test.YtooiookccchmeaaGreatFwB7
import Derived.WalkKit
import Derived.ProofKit
import Derived.OpenShut
import Derived.ShutString
import Derived.ChangeOld
import Derived.Below
import Derived.SizedLaws
set_option linter.unusedVariables false
set_option linter.unusedSimpArgs false
namespace Go.Proofs.YtooiookccchmeaaGreat.divisionMore
open Go.ChangeShapes Go.WideShapes Go.ChangeAt Go.RowKit
open Go.Fw Go.Fw.L19 in
theorem walk (v0 v1 v2:Value) (W:World) (x0:den (.pair (.int .u8) (.pair (.sl (.int .u8)) (.pair (.sl (.int .u8)) .unit)))) (x1:den .str) (x2:den (.sl (.pair .str (.pair (.sl (.pair (.int .i64) (.pair (.int .i64) (.pair .str .unit)))) (.pair (.int .i64) (.pair (.int .i64) .unit)))))) (r0:iE Tryz.prog W (fun _ _=>True) (.v (.pair (.int .u8) (.pair (.sl (.int .u8)) (.pair (.sl (.int .u8)) .unit))) x0) v0) (r1:iE Tryz.prog W (fun _ _=>True) (.v .str x1) v1) (r2:iE Tryz.prog W (fun _ _=>True) (.v (.sl (.pair .str (.pair (.sl (.pair (.int .i64) (.pair (.int .i64) (.pair .str .unit)))) (.pair (.int .i64) (.pair (.int .i64) .unit))))) x2) v2) (i0:eM (.pair (.int .u8) (.pair (.sl (.int .u8)) (.pair (.sl (.int .u8)) .unit))) x0) (i1:eM .str x1) (i2:eM (.sl (.pair .str (.pair (.sl (.pair (.int .i64) (.pair (.int .i64) (.pair .str .unit)))) (.pair (.int .i64) (.pair (.int .i64) .unit))))) x2) (z0:gW reachBytes (.pair (.int .u8) (.pair (.sl (.int .u8)) (.pair (.sl (.int .u8)) .unit))) x0) (z1:gW reachBytes .str x1) (z2:gW reachBytes (.sl (.pair .str (.pair (.sl (.pair (.int .i64) (.pair (.int .i64) (.pair .str .unit)))) (.pair (.int .i64) (.pair (.int .i64) .unit))))) x2):Calls Tryz.prog 9 #[v0,v1,v2] W (fun e w'=>e=.returned (.bool true)∧Go.RowKit.Below W.heap.size W w'):=by
 have hg:Go.Fw.Good Tryz.prog Go.Fw.fM.nil (bD table k9 2000 (0+13)):=uy 2000 (fun f fd _ h=>Ls f fd h) ahK _
 refine XK (es:=[.v (.pair (.int .u8) (.pair (.sl (.int .u8)) (.pair (.sl (.int .u8)) .unit))) x0,.v .str x1,.v (.sl (.pair .str (.pair (.sl (.pair (.int .i64) (.pair (.int .i64) (.pair .str .unit)))) (.pair (.int .i64) (.pair (.int .i64) .unit))))) x2]) hg ?_ (.cons r0 (.cons r1 (.cons r2 .nil)))
 rw [va9 0,af1 x0 x1 x2 i0 i1 i2]; rfl
theorem own:ownKnob Tryz.prog.godebug=none:=by kernel_rfl
set_option maxRecDepth 100000 in
theorem lifted (os:Os) (started:os.Started) (H:Type) (enc:TypeId×Value→H):
  ReturnsInHanded {} Tryz.checked os 9 .any (Rows.divisionMoreSpec.pre6 enc Tryz.prog Tryz.f9 Rows.divisionMoreRow.domain false) (Rows.divisionMoreSpec.post enc Tryz.prog Tryz.f9 false true false false):=by
 refine returnsInHanded_of_change_sized (C:=Tryz.checked) own started (by kernel_rfl) Tryz.func9
  (ChangeSpec.witness6 (enc:=enc) (C:=Tryz.checked) false ⟨#[],#[.agg #[.int .u8 0,.slice none 0 0,.slice none 0 0],.string ⟨#[]⟩,.slice none 0 0],[]⟩ 9 (by kernel_rfl) (by kernel_rfl) (by kernel_rfl) (by kernel_rfl)) ?_
 intro W base args ds gs before hval0 hW hcnd hsz0 _
 have hval:∀ (j:Nat) t v,Tryz.f9.params[j]?=some t→args[j]?=some v→Value.okWide Tryz.prog W .any base t v:=hval0
 have hW':=hW
 obtain ⟨p,q,hA0,hV,rfl,hfz,hnd⟩:=hW
 have hAll:DataW.TrodAll enc Tryz.prog W 0 (fun _=>true) true Tryz.f9.params.toList args.toList ds p:=hA0
 have hA:=hAll
 rw [Tryz.params9] at hA hval
 obtain ⟨v0,vs0,d0,ds0,p0,q0,hargs,rfl,rfl,h0,r0⟩:=trodAll_cons hA
 obtain ⟨v1,vs1,d1,ds1,p1,q1,rfl,rfl,rfl,h1,r1⟩:=trodAll_cons r0
 obtain ⟨v2,vs2,d2,ds2,p2,q2,rfl,rfl,rfl,h2,r2⟩:=trodAll_cons r1
 obtain ⟨rfl,rfl,rfl⟩:=trodAll_nil r2
 obtain rfl:args=#[v0,v1,v2]:=by cases args; simp_all
 obtain ⟨rfl,rfl⟩:=trodVars_none hV
 obtain ⟨x0,e0,i0,z0⟩:=Go.Fw.La (P:=Tryz.prog) (T:=(.pair (.int .u8) (.pair (.sl (.int .u8)) (.pair (.sl (.int .u8)) .unit)))) (by kernel_rfl) rfl (hval 0 57 v0 rfl rfl) h0 (Go.Fw.Ly (j:=0) hsz0 (by rw [Tryz.params9]; rfl) rfl)
 obtain ⟨x1,e1,i1,z1⟩:=Go.Fw.La (P:=Tryz.prog) (T:=.str) (by kernel_rfl) rfl (hval 1 9 v1 rfl rfl) h1 (Go.Fw.Ly (j:=1) hsz0 (by rw [Tryz.params9]; rfl) rfl)
 obtain ⟨x2,e2,i2,z2⟩:=Go.Fw.La (P:=Tryz.prog) (T:=(.sl (.pair .str (.pair (.sl (.pair (.int .i64) (.pair (.int .i64) (.pair .str .unit)))) (.pair (.int .i64) (.pair (.int .i64) .unit)))))) (by kernel_rfl) rfl (hval 2 22 v2 rfl rfl) h2 (Go.Fw.Ly (j:=2) hsz0 (by rw [Tryz.params9]; rfl) rfl)
 refine (walk v0 v1 v2 W x0 x1 x2 e0 e1 e2 i0 i1 i2 z0 z1 z2).mono fun e W' ⟨he,bel⟩=>?_
 subst he
 exact ⟨_,rfl,_,_,_,[],_,[],hW',trodAll_mk1 (shut_bool Tryz.underlying4 _),Go.Fw.Mg (by kernel_rfl) bel _ _ _ _ (by kernel_rfl) hAll,rfl,bel.frame _,fun h=>by cases h⟩
theorem ahH:Rows.divisionMoreRow.holds Tryz.pinned (OpenSpec.ofChange Rows.divisionMoreSpec):=
 OpenClaim.holds_of_wide 9 Tryz.f9 rfl rfl rfl rfl rfl rfl rfl ⟨rfl,rfl,rfl,rfl,rfl⟩ rfl rfl rfl rfl rfl (by kernel_rfl) Tryz.func9 (by kernel_rfl)
  (of_decide_eq_true (by kernel_rfl)) (by unfold Func.isWrapper; first | (rw [if_pos (by decide+kernel)]; kernel_rfl) | (rw [if_neg (by decide+kernel)]; exact ⟨rfl,rfl⟩))
  (fun os started H enc _=>lifted os started H enc)
theorem proved:Rows.DivisionMoreSaid:=ahH
#print axioms proved
end Go.Proofs.YtooiookccchmeaaGreat.divisionMore
namespace Go.Proofs.YtooiookccchmeaaGreat
theorem divisionMore_holds:Rows.DivisionMoreSaid:=divisionMore.proved
end Go.Proofs.YtooiookccchmeaaGreat
