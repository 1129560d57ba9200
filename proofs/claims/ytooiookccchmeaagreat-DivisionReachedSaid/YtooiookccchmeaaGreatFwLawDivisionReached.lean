/- DivisionReached: the row, from the law's pure theorem main5; no conditions. -/
import Derived.Test.YtooiookccchmeaaGreatRows
import Derived.Test.YtooiookccchmeaaGreatFwWr13
import Derived.Test.YtooiookccchmeaaGreatFwHr13all
import Derived.Test.YtooiookccchmeaaGreatFwB7
import Derived.WalkKit
import Derived.ProofKit
import Derived.OpenShut
import Derived.ShutString
import Derived.ChangeOld
import Derived.Below
import Derived.SizedLaws
set_option linter.unusedVariables false
set_option linter.unusedSimpArgs false
namespace Go.Proofs.YtooiookccchmeaaGreat.divisionReached
open Go.ChangeShapes Go.WideShapes Go.ChangeAt Go.RowKit
open Go.Fw Go.Fw.L19 in
theorem walk (v0 v1:Value) (W:World) (x0:den (.pair .str (.pair (.sl (.pair .str (.pair (.sl (.pair (.int .i64) (.pair (.int .i64) (.pair .str .unit)))) (.pair (.int .i64) (.pair (.int .i64) .unit))))) .unit))) (x1:den .str) (r0:ja Tryz.prog W (fun _ _=>True) (.v (.pair .str (.pair (.sl (.pair .str (.pair (.sl (.pair (.int .i64) (.pair (.int .i64) (.pair .str .unit)))) (.pair (.int .i64) (.pair (.int .i64) .unit))))) .unit)) x0) v0) (r1:ja Tryz.prog W (fun _ _=>True) (.v .str x1) v1) (i0:fp (.pair .str (.pair (.sl (.pair .str (.pair (.sl (.pair (.int .i64) (.pair (.int .i64) (.pair .str .unit)))) (.pair (.int .i64) (.pair (.int .i64) .unit))))) .unit)) x0) (i1:fp .str x1) (z0:iE reachBytes (.pair .str (.pair (.sl (.pair .str (.pair (.sl (.pair (.int .i64) (.pair (.int .i64) (.pair .str .unit)))) (.pair (.int .i64) (.pair (.int .i64) .unit))))) .unit)) x0) (z1:iE reachBytes .str x1):Calls Tryz.prog 5 #[v0,v1] W (fun e w'=>e=.returned (.bool true)∧Go.RowKit.Below W.heap.size W w'):=by
 have hg:Go.Fw.Good Tryz.prog Go.Fw.fD.nil (bD table kJ 2000 (0+13)):=ui 2000 (fun f fd _ h=>Lu f fd h) ahi _
 refine Xo (es:=[.v (.pair .str (.pair (.sl (.pair .str (.pair (.sl (.pair (.int .i64) (.pair (.int .i64) (.pair .str .unit)))) (.pair (.int .i64) (.pair (.int .i64) .unit))))) .unit)) x0,.v .str x1]) hg ?_ (.cons r0 (.cons r1 .nil))
 rw [va5 0,afv x0 x1]; rfl
theorem own:ownKnob Tryz.prog.godebug=none:=by kernel_rfl
set_option maxRecDepth 100000 in
theorem lifted (os:Os) (started:os.Started) (H:Type) (enc:TypeId×Value→H):
  ReturnsInHanded {} Tryz.checked os 5 .any (Rows.divisionReachedSpec.pre6 enc Tryz.prog Tryz.f5 Rows.divisionReachedRow.domain false) (Rows.divisionReachedSpec.post enc Tryz.prog Tryz.f5 false true false false):=by
 refine returnsInHanded_of_change_sized (C:=Tryz.checked) own started (by kernel_rfl) Tryz.func5
  (ChangeSpec.witness6 (enc:=enc) (C:=Tryz.checked) false ⟨#[],#[.agg #[.string ⟨#[]⟩,.slice none 0 0],.string ⟨#[]⟩],[]⟩ 5 (by kernel_rfl) (by kernel_rfl) (by kernel_rfl) (by kernel_rfl)) ?_
 intro W base args ds gs before hval0 hW hcnd hsz0 _
 have hval:∀ (j:Nat) t v,Tryz.f5.params[j]?=some t→args[j]?=some v→Value.okWide Tryz.prog W .any base t v:=hval0
 have hW':=hW
 obtain ⟨p,q,hA0,hV,rfl,hfz,hnd⟩:=hW
 have hAll:DataW.TrodAll enc Tryz.prog W 0 (fun _=>true) true Tryz.f5.params.toList args.toList ds p:=hA0
 have hA:=hAll
 rw [Tryz.params5] at hA hval
 obtain ⟨v0,vs0,d0,ds0,p0,q0,hargs,rfl,rfl,h0,r0⟩:=trodAll_cons hA
 obtain ⟨v1,vs1,d1,ds1,p1,q1,rfl,rfl,rfl,h1,r1⟩:=trodAll_cons r0
 obtain ⟨rfl,rfl,rfl⟩:=trodAll_nil r1
 obtain rfl:args=#[v0,v1]:=by cases args; simp_all
 obtain ⟨rfl,rfl⟩:=trodVars_none hV
 obtain ⟨x0,e0,i0,z0⟩:=Go.Fw.Vw (P:=Tryz.prog) (T:=(.pair .str (.pair (.sl (.pair .str (.pair (.sl (.pair (.int .i64) (.pair (.int .i64) (.pair .str .unit)))) (.pair (.int .i64) (.pair (.int .i64) .unit))))) .unit))) (by kernel_rfl) rfl (hval 0 24 v0 rfl rfl) h0 (Go.Fw.WH (j:=0) hsz0 (by rw [Tryz.params5]; rfl) rfl)
 obtain ⟨x1,e1,i1,z1⟩:=Go.Fw.Vw (P:=Tryz.prog) (T:=.str) (by kernel_rfl) rfl (hval 1 9 v1 rfl rfl) h1 (Go.Fw.WH (j:=1) hsz0 (by rw [Tryz.params5]; rfl) rfl)
 refine (walk v0 v1 W x0 x1 e0 e1 i0 i1 z0 z1).mono fun e W' ⟨he,bel⟩=>?_
 subst he
 exact ⟨_,rfl,_,_,_,[],_,[],hW',trodAll_mk1 (shut_bool Tryz.underlying4 _),Go.Fw.Md (by kernel_rfl) bel _ _ _ _ (by kernel_rfl) hAll,rfl,bel.frame _,fun h=>by cases h⟩
theorem ahe:Rows.divisionReachedRow.holds Tryz.pinned (OpenSpec.ofChange Rows.divisionReachedSpec):=
 OpenClaim.holds_of_wide 5 Tryz.f5 rfl rfl rfl rfl rfl rfl rfl ⟨rfl,rfl,rfl,rfl,rfl⟩ rfl rfl rfl rfl rfl (by kernel_rfl) Tryz.func5 (by kernel_rfl)
  (of_decide_eq_true (by kernel_rfl)) (by unfold Func.isWrapper; first | (rw [if_pos (by decide+kernel)]; kernel_rfl) | (rw [if_neg (by decide+kernel)]; exact ⟨rfl,rfl⟩))
  (fun os started H enc _=>lifted os started H enc)
theorem proved:Rows.DivisionReachedSaid:=ahe
#print axioms proved
end Go.Proofs.YtooiookccchmeaaGreat.divisionReached
namespace Go.Proofs.YtooiookccchmeaaGreat
theorem divisionReached_holds:Rows.DivisionReachedSaid:=divisionReached.proved
end Go.Proofs.YtooiookccchmeaaGreat
