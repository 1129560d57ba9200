/- LicenceParse: the row, from the law's pure theorem main3; no conditions. -/
import Derived.Test.YtbdlccajpcomjaaDoorRows
import Derived.Test.YtbdlccajpcomjaaDoorFwWk17
import Derived.Test.YtbdlccajpcomjaaDoorFwHk17all
import Derived.Test.YtbdlccajpcomjaaDoorFwB6
import Derived.WalkKit
import Derived.ProofKit
import Derived.OpenShut
import Derived.ShutString
import Derived.ChangeOld
import Derived.Below
import Derived.SizedLaws
import Derived.Test.YtbdlccajpcomjaaDoorCards
import Derived.Test.YtbdlccajpcomjaaDoorTie
import Derived.SevenTiedAt
import Derived.Lib.LaidTab
import Derived.LaidLaws
import Derived.Stop.LaidErr
import Derived.Handed
set_option linter.unusedVariables false
set_option linter.unusedSimpArgs false
namespace Go.Proofs.YtbdlccajpcomjaaDoor.licenceParse
open Go.ChangeShapes Go.WideShapes Go.ChangeAt Go.RowKit
open Go.Fw Go.Fw.L19 in
theorem walk (v0 : Value) (W : World) (x0 : den .str) (r0 : ARep Tryd.prog W (fun _ _ => True) (.v .str x0) v0) (i0 : InR .str x0) (z0 : InZ reachBytes .str x0) (hT : Go.Lib.TabIs Tryd.prog W "internal/strconv.uint64pow10" .u64 Go.Lib.pow10Tab) : Calls Tryd.prog 3 #[v0] W (fun e w' => e = .returned (.bool true) ∧ Below W.heap.size W w') := by
 obtain ⟨tb,hok,ht⟩:=tabs_of (P:=Tryd.prog) (g:=0) (by kernel_rfl) hT
 have hg:Go.Fw.Good Tryd.prog tb (acall table prims 30000 (0+13)):=acall_good 30000 (fun f fd _ h=>tab_ok f fd h) (prims_good ht) _
 refine call_trueT (es:=[.v .str x0]) hg hok ?_ (.cons r0 .nil)
 rw [va3 0,main3 x0 i0 z0]; rfl
def litV:DataW Unit→Value
 | .lit (.int k n)=>.int k n
 | _=>.nilIface
def litVs:DataW Unit→Array Value
 | .agg ds=>(ds.map litV).toArray
 | _=>#[]
noncomputable def laidWorld (os:Os):World:=
 {World.holding Tryd.prog os ⟨#[],#[],[]⟩ with heap:=((((World.holding Tryd.prog os ⟨#[],#[],[]⟩).heap.modify 2 fun
   | .cells _ t frozen=>.cells (litVs Rows.laid_math_bits_deBruijn32tab) t frozen
   | o=>o).modify 3 fun
   | .cells _ t frozen=>.cells (litVs Rows.laid_math_bits_deBruijn64tab) t frozen
   | o=>o).modify 0 fun
   | .cells _ t frozen=>.cells (litVs Rows.laid_internal_strconv_uint64pow10) t frozen
   | o=>o)}
theorem laid_met (os:Os) (args:Array Value):laidMet Tryd.prog Rows.licenceParseRow.laid ((laidWorld os).forCall (fun _ _=>0) ⟨#[],args,[]⟩).memory:=
 laidMet_of_run' 8 (by kernel_rfl) (by kernel_rfl)
theorem tab {W : World} (h : laidMet Tryd.prog Rows.licenceParseRow.laid W) : Go.Lib.TabIs Tryd.prog W "internal/strconv.uint64pow10" .u64 Go.Lib.pow10Tab :=
 Go.Lib.tabIs_of_head (g := 0) (t := 104) (e := 95) (n := 20) (rest := []) (by kernel_rfl) (by kernel_rfl) (by kernel_rfl) (by kernel_rfl) (by kernel_rfl) (by kernel_rfl) (show laidMet Tryd.prog [("internal/strconv.uint64pow10", Go.Lib.tabData .u64 Go.Lib.pow10Tab)] W from h.tail.tail)
theorem own:ownKnob Tryd.prog.godebug=none:=by kernel_rfl
set_option maxRecDepth 100000 in
theorem lifted (os:Os) (started:os.Started) (H:Type) (enc:TypeId×Value→H):
  ReturnsInHanded {} Tryd.checked os 3 .any (fun w args=>(Rows.licenceParseSpec.pre enc Tryd.prog Tryd.f3 Rows.licenceParseRow.domain false w args∧laidMet Tryd.prog Rows.licenceParseRow.laid w)∧sizedMet enc Tryd.prog Tryd.f3 (OpenSpec.ofChange Rows.licenceParseSpec) false w args) (Rows.licenceParseSpec.post enc Tryd.prog Tryd.f3 false true false false):=by
 refine returnsInHanded_of_change_and (C:=Tryd.checked) (X:=fun w _=>laidMet Tryd.prog Rows.licenceParseRow.laid w) (fun _ _ _ hh h=>h.of_heap hh) own started (by kernel_rfl) Tryd.func3
  (ChangeSpec.witness_at (enc:=enc) (C:=Tryd.checked) (os:=os) (X:=fun w _=>laidMet Tryd.prog Rows.licenceParseRow.laid w) false (laidWorld os) #[.string ⟨#[]⟩] 8 rfl (by kernel_rfl) (by kernel_rfl) (by kernel_rfl) (by kernel_rfl) (by kernel_rfl) (laid_met os _)) ?_
 intro W base args ds gs before hval0 hW hcnd hsz0 hL _
 have hval:∀ (j:Nat) t v,Tryd.f3.params[j]?=some t→args[j]?=some v→Value.okWide Tryd.prog W .any base t v:=hval0
 have hW':=hW
 obtain ⟨p,q,hA0,hV,rfl,hfz,hnd⟩:=hW
 have hAll:DataW.TrodAll enc Tryd.prog W 0 (fun _=>true) true Tryd.f3.params.toList args.toList ds p:=hA0
 have hA:=hAll
 rw [Tryd.params3] at hA hval
 obtain ⟨v0,vs0,d0,ds0,p0,q0,hargs,rfl,rfl,h0,r0⟩:=trodAll_cons hA
 obtain ⟨rfl,rfl,rfl⟩:=trodAll_nil r0
 obtain rfl:args=#[v0]:=by cases args; simp_all
 obtain ⟨rfl,rfl⟩:=trodVars_none hV
 obtain ⟨x0,e0,i0,z0⟩:=Go.Fw.open_argZ (P:=Tryd.prog) (T:=.str) (by kernel_rfl) rfl (hval 0 9 v0 rfl rfl) h0 (Go.Fw.weight_at (j:=0) hsz0 (by rw [Tryd.params3]; rfl) rfl)
 refine (walk v0 W x0 e0 i0 z0 (tab hL)).mono fun e W' ⟨he,bel⟩=>?_
 subst he
 exact ⟨_,rfl,_,_,_,[],_,[],hW',trodAll_mk1 (shut_bool Tryd.underlying4 _),Go.Fw.args_stay (by kernel_rfl) bel _ _ _ _ (by kernel_rfl) hAll,rfl,bel.frame _,fun h=>by cases h⟩
theorem over:Rows.licenceParseRow.holds Tryd.pinned (OpenSpec.ofChange Rows.licenceParseSpec):=
 OpenClaim.holds_of_wide 3 Tryd.f3 rfl rfl rfl rfl rfl rfl rfl ⟨rfl,rfl,rfl,rfl,rfl⟩ rfl rfl rfl rfl rfl (by kernel_rfl) Tryd.func3 (by kernel_rfl)
  (of_decide_eq_true (by kernel_rfl)) (by unfold Func.isWrapper; first | (rw [if_pos (by decide+kernel)]; kernel_rfl) | (rw [if_neg (by decide+kernel)]; exact ⟨rfl,rfl⟩))
  (fun os started H enc _=>lifted os started H enc)
theorem proved:Rows.LicenceParseSaid:=over
#print axioms proved
end Go.Proofs.YtbdlccajpcomjaaDoor.licenceParse
namespace Go.Proofs.YtbdlccajpcomjaaDoor
theorem licenceParse_holds:Rows.LicenceParseSaid:=licenceParse.proved
end Go.Proofs.YtbdlccajpcomjaaDoor
namespace Go.Proofs.YtbdlccajpcomjaaDoor
theorem licenceParse_card:Rows.LicenceParseCardSaid:=
 Claim7.holds_tied_plain_at .later [] [.data, .data, .data] true (true, "59d4d5859f5182b766d83bdb3104cc30bae833b6f79d17027d82d9e8eb29ad2d") false
  licenceParse_holds (fun _ h=>by cases h) (by kernel_rfl) (fun _ h=>by cases h) licenceParse_row_tie rfl ⟨rfl,rfl⟩ (by kernel_rfl) rfl
  (fun f fn hf hfn=>by
   obtain rfl : f = 3 := Option.some.inj ((show Tryd.prog.funcNamed "anceps/ancepslaw17.LicenceParse" = some 3 by kernel_rfl).symm.trans hf) |>.symm
   obtain rfl:fn=Tryd.f3:=(Option.some.inj (Tryd.func3.symm.trans hfn)).symm
   exact ⟨by kernel_rfl,fun j t ht=>by
    rw [Tryd.params3] at ht
    have h3:t=9:=by
     rcases j with _ | j
     ·simpa using ht.symm
     ·simp at ht
    subst h3
    exact (show Tryd.prog.wantsStandIn 9=false by kernel_rfl)⟩)
  (by kernel_rfl)
end Go.Proofs.YtbdlccajpcomjaaDoor
