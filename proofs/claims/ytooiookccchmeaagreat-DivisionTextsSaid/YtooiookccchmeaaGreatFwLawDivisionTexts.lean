/- DivisionTexts: the row, from the law's pure theorem main10; no conditions. -/
import Derived.Test.YtooiookccchmeaaGreatRows
import Derived.Test.YtooiookccchmeaaGreatFwWx13
import Derived.Test.YtooiookccchmeaaGreatFwHx13all
import Derived.Test.YtooiookccchmeaaGreatFwB7
import Derived.WalkKit
import Derived.ProofKit
import Derived.OpenShut
import Derived.ShutString
import Derived.ChangeOld
import Derived.Below
import Derived.SizedLaws
set_option linter.unusedVariables false
set_option linter.unusedSimpArgs false
namespace Go.Proofs.YtooiookccchmeaaGreat.divisionTexts
open Go.ChangeShapes Go.WideShapes Go.ChangeAt Go.RowKit
open Go.Fw Go.Fw.L19 in
theorem walk (v0 v1:Value) (W:World) (x0:den (.pair (.int .u8) (.pair (.sl (.int .u8)) (.pair (.sl (.int .u8)) .unit)))) (x1:den .str) (r0:jb Tryz.prog W (fun _ _=>True) (.v (.pair (.int .u8) (.pair (.sl (.int .u8)) (.pair (.sl (.int .u8)) .unit))) x0) v0) (r1:jb Tryz.prog W (fun _ _=>True) (.v .str x1) v1) (i0:ff (.pair (.int .u8) (.pair (.sl (.int .u8)) (.pair (.sl (.int .u8)) .unit))) x0) (i1:ff .str x1) (z0:iG reachBytes (.pair (.int .u8) (.pair (.sl (.int .u8)) (.pair (.sl (.int .u8)) .unit))) x0) (z1:iG reachBytes .str x1):Calls Tryz.prog 10 #[v0,v1] W (fun e w'=>e=.returned (.bool true)∧Go.RowKit.Below W.heap.size W w'):=by
 have hg:Go.Fw.Good Tryz.prog Go.Fw.fN.nil (bz table kW 2000 (0+13)):=tY 2000 (fun f fd _ h=>K8 f fd h) ag4 _
 refine Xi (es:=[.v (.pair (.int .u8) (.pair (.sl (.int .u8)) (.pair (.sl (.int .u8)) .unit))) x0,.v .str x1]) hg ?_ (.cons r0 (.cons r1 .nil))
 rw [ary 0,afl x0 x1 i0 i1]; rfl
theorem own:ownKnob Tryz.prog.godebug=none:=by kernel_rfl
set_option maxRecDepth 100000 in
theorem lifted (os:Os) (started:os.Started) (H:Type) (enc:TypeId×Value→H):
  ReturnsInHanded {} Tryz.checked os 10 .any (Rows.divisionTextsSpec.pre6 enc Tryz.prog Tryz.f10 Rows.divisionTextsRow.domain false) (Rows.divisionTextsSpec.post enc Tryz.prog Tryz.f10 false true false false):=by
 refine returnsInHanded_of_change_sized (C:=Tryz.checked) own started (by kernel_rfl) Tryz.func10
  (ChangeSpec.witness6 (enc:=enc) (C:=Tryz.checked) false ⟨#[],#[.agg #[.int .u8 0,.slice none 0 0,.slice none 0 0],.string ⟨#[]⟩],[]⟩ 10 (by kernel_rfl) (by kernel_rfl) (by kernel_rfl) (by kernel_rfl)) ?_
 intro W base args ds gs before hval0 hW hcnd hsz0 _
 have hval:∀ (j:Nat) t v,Tryz.f10.params[j]?=some t→args[j]?=some v→Value.okWide Tryz.prog W .any base t v:=hval0
 have hW':=hW
 obtain ⟨p,q,hA0,hV,rfl,hfz,hnd⟩:=hW
 have hAll:DataW.TrodAll enc Tryz.prog W 0 (fun _=>true) true Tryz.f10.params.toList args.toList ds p:=hA0
 have hA:=hAll
 rw [Tryz.params10] at hA hval
 obtain ⟨v0,vs0,d0,ds0,p0,q0,hargs,rfl,rfl,h0,r0⟩:=trodAll_cons hA
 obtain ⟨v1,vs1,d1,ds1,p1,q1,rfl,rfl,rfl,h1,r1⟩:=trodAll_cons r0
 obtain ⟨rfl,rfl,rfl⟩:=trodAll_nil r1
 obtain rfl:args=#[v0,v1]:=by cases args; simp_all
 obtain ⟨rfl,rfl⟩:=trodVars_none hV
 obtain ⟨x0,e0,i0,z0⟩:=Go.Fw.Vq (P:=Tryz.prog) (T:=(.pair (.int .u8) (.pair (.sl (.int .u8)) (.pair (.sl (.int .u8)) .unit)))) (by kernel_rfl) rfl (hval 0 57 v0 rfl rfl) h0 (Go.Fw.Wy (j:=0) hsz0 (by rw [Tryz.params10]; rfl) rfl)
 obtain ⟨x1,e1,i1,z1⟩:=Go.Fw.Vq (P:=Tryz.prog) (T:=.str) (by kernel_rfl) rfl (hval 1 9 v1 rfl rfl) h1 (Go.Fw.Wy (j:=1) hsz0 (by rw [Tryz.params10]; rfl) rfl)
 refine (walk v0 v1 W x0 x1 e0 e1 i0 i1 z0 z1).mono fun e W' ⟨he,bel⟩=>?_
 subst he
 exact ⟨_,rfl,_,_,_,[],_,[],hW',trodAll_mk1 (shut_bool Tryz.underlying4 _),Go.Fw.LR (by kernel_rfl) bel _ _ _ _ (by kernel_rfl) hAll,rfl,bel.frame _,fun h=>by cases h⟩
theorem ag1:Rows.divisionTextsRow.holds Tryz.pinned (OpenSpec.ofChange Rows.divisionTextsSpec):=
 OpenClaim.holds_of_wide 10 Tryz.f10 rfl rfl rfl rfl rfl rfl rfl ⟨rfl,rfl,rfl,rfl,rfl⟩ rfl rfl rfl rfl rfl (by kernel_rfl) Tryz.func10 (by kernel_rfl)
  (of_decide_eq_true (by kernel_rfl)) (by unfold Func.isWrapper; first | (rw [if_pos (by decide+kernel)]; kernel_rfl) | (rw [if_neg (by decide+kernel)]; exact ⟨rfl,rfl⟩))
  (fun os started H enc _=>lifted os started H enc)
theorem proved:Rows.DivisionTextsSaid:=ag1
#print axioms proved
end Go.Proofs.YtooiookccchmeaaGreat.divisionTexts
namespace Go.Proofs.YtooiookccchmeaaGreat
theorem divisionTexts_holds:Rows.DivisionTextsSaid:=divisionTexts.proved
end Go.Proofs.YtooiookccchmeaaGreat
