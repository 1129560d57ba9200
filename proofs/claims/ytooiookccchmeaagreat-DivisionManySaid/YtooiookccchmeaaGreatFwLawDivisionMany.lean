/- DivisionMany: the row, from the law's pure theorem main6; no conditions. -/
import Derived.Test.YtooiookccchmeaaGreatRows
import Derived.Test.YtooiookccchmeaaGreatFwWm13
import Derived.Test.YtooiookccchmeaaGreatFwHm13all
import Derived.Test.YtooiookccchmeaaGreatFwB7
import Derived.WalkKit
import Derived.ProofKit
import Derived.OpenShut
import Derived.ShutString
import Derived.ChangeOld
import Derived.Below
import Derived.SizedLaws
set_option linter.unusedVariables false
set_option linter.unusedSimpArgs false
namespace Go.Proofs.YtooiookccchmeaaGreat.divisionMany
open Go.ChangeShapes Go.WideShapes Go.ChangeAt Go.RowKit
open Go.Fw Go.Fw.L19 in
theorem walk (v0 v1:Value) (W:World) (x0:den (.int .u8)) (x1:den (.int .u8)) (r0:iK Tryz.prog W (fun _ _=>True) (.v (.int .u8) x0) v0) (r1:iK Tryz.prog W (fun _ _=>True) (.v (.int .u8) x1) v1) (i0:eP (.int .u8) x0) (i1:eP (.int .u8) x1) (z0:ig reachBytes (.int .u8) x0) (z1:ig reachBytes (.int .u8) x1):Calls Tryz.prog 6 #[v0,v1] W (fun e w'=>e=.returned (.bool true)∧Go.RowKit.Below W.heap.size W w'):=by
 have hg:Go.Fw.Good Tryz.prog Go.Fw.fm.nil (bz table kj 2000 (0+13)):=sP 2000 (fun f fd _ h=>I0 f fd h) adv _
 refine T9 (es:=[.v (.int .u8) x0,.v (.int .u8) x1]) hg ?_ (.cons r0 (.cons r1 .nil))
 rw [va6 0,abM x0 x1 i0 i1]; rfl
theorem own:ownKnob Tryz.prog.godebug=none:=by kernel_rfl
set_option maxRecDepth 100000 in
theorem lifted (os:Os) (started:os.Started) (H:Type) (enc:TypeId×Value→H):
  ReturnsInHanded {} Tryz.checked os 6 .any (Rows.divisionManySpec.pre6 enc Tryz.prog Tryz.f6 Rows.divisionManyRow.domain false) (Rows.divisionManySpec.post enc Tryz.prog Tryz.f6 false true false false):=by
 refine returnsInHanded_of_change_sized (C:=Tryz.checked) own started (by kernel_rfl) Tryz.func6
  (ChangeSpec.witness6 (enc:=enc) (C:=Tryz.checked) false ⟨#[],#[.int .u8 0,.int .u8 0],[]⟩ 6 (by kernel_rfl) (by kernel_rfl) (by kernel_rfl) (by kernel_rfl)) ?_
 intro W base args ds gs before hval0 hW hcnd hsz0 _
 have hval:∀ (j:Nat) t v,Tryz.f6.params[j]?=some t→args[j]?=some v→Value.okWide Tryz.prog W .any base t v:=hval0
 have hW':=hW
 obtain ⟨p,q,hA0,hV,rfl,hfz,hnd⟩:=hW
 have hAll:DataW.TrodAll enc Tryz.prog W 0 (fun _=>true) true Tryz.f6.params.toList args.toList ds p:=hA0
 have hA:=hAll
 rw [Tryz.params6] at hA hval
 obtain ⟨v0,vs0,d0,ds0,p0,q0,hargs,rfl,rfl,h0,r0⟩:=trodAll_cons hA
 obtain ⟨v1,vs1,d1,ds1,p1,q1,rfl,rfl,rfl,h1,r1⟩:=trodAll_cons r0
 obtain ⟨rfl,rfl,rfl⟩:=trodAll_nil r1
 obtain rfl:args=#[v0,v1]:=by cases args; simp_all
 obtain ⟨rfl,rfl⟩:=trodVars_none hV
 obtain ⟨x0,e0,i0,z0⟩:=Go.Fw.Sj (P:=Tryz.prog) (T:=(.int .u8)) (by kernel_rfl) rfl (hval 0 5 v0 rfl rfl) h0 (Go.Fw.Tl (j:=0) hsz0 (by rw [Tryz.params6]; rfl) rfl)
 obtain ⟨x1,e1,i1,z1⟩:=Go.Fw.Sj (P:=Tryz.prog) (T:=(.int .u8)) (by kernel_rfl) rfl (hval 1 5 v1 rfl rfl) h1 (Go.Fw.Tl (j:=1) hsz0 (by rw [Tryz.params6]; rfl) rfl)
 refine (walk v0 v1 W x0 x1 e0 e1 i0 i1 z0 z1).mono fun e W' ⟨he,bel⟩=>?_
 subst he
 exact ⟨_,rfl,_,_,_,[],_,[],hW',trodAll_mk1 (shut_bool Tryz.underlying4 _),Go.Fw.JJ (by kernel_rfl) bel _ _ _ _ (by kernel_rfl) hAll,rfl,bel.frame _,fun h=>by cases h⟩
theorem adr:Rows.divisionManyRow.holds Tryz.pinned (OpenSpec.ofChange Rows.divisionManySpec):=
 OpenClaim.holds_of_wide 6 Tryz.f6 rfl rfl rfl rfl rfl rfl rfl ⟨rfl,rfl,rfl,rfl,rfl⟩ rfl rfl rfl rfl rfl (by kernel_rfl) Tryz.func6 (by kernel_rfl)
  (of_decide_eq_true (by kernel_rfl)) (by unfold Func.isWrapper; first | (rw [if_pos (by decide+kernel)]; kernel_rfl) | (rw [if_neg (by decide+kernel)]; exact ⟨rfl,rfl⟩))
  (fun os started H enc _=>lifted os started H enc)
theorem proved:Rows.DivisionManySaid:=adr
#print axioms proved
end Go.Proofs.YtooiookccchmeaaGreat.divisionMany
namespace Go.Proofs.YtooiookccchmeaaGreat
theorem divisionMany_holds:Rows.DivisionManySaid:=divisionMany.proved
end Go.Proofs.YtooiookccchmeaaGreat
