/- LicenceValid: the row, from the law's pure theorem main4; no conditions. -/
import Derived.Test.YtbdlccajpcomjaaDoorRows
import Derived.Test.YtbdlccajpcomjaaDoorFwWb17
import Derived.Test.YtbdlccajpcomjaaDoorFwHb17all
import Derived.Test.YtbdlccajpcomjaaDoorFwB6
import Derived.WalkKit
import Derived.ProofKit
import Derived.OpenShut
import Derived.ShutString
import Derived.ChangeOld
import Derived.Below
import Derived.SizedLaws
import Derived.Test.YtbdlccajpcomjaaDoorCards
import Derived.Test.YtbdlccajpcomjaaDoorTie
import Derived.SevenTiedAt
import Derived.Lib.LaidTab
import Derived.LaidLaws
import Derived.Stop.LaidErr
import Derived.Handed
set_option linter.unusedVariables false
set_option linter.unusedSimpArgs false
open Option.some renaming inj → SL
namespace Go.Proofs.YtbdlccajpcomjaaDoor.licenceValid
open Go.ChangeShapes Go.WideShapes Go.ChangeAt Go.RowKit
open Go.Fw Go.Fw.L19 in
theorem walk (v0 : Value) (W : World) (x0 : den (.pair .str (.pair (.sl (.pair (.int .i64) (.pair (.int .i64) (.pair (.sl .str) .unit)))) .unit))) (r0 : jB Tryd.prog W (fun _ _ => True) (.v (.pair .str (.pair (.sl (.pair (.int .i64) (.pair (.int .i64) (.pair (.sl .str) .unit)))) .unit)) x0) v0) (i0 : fq (.pair .str (.pair (.sl (.pair (.int .i64) (.pair (.int .i64) (.pair (.sl .str) .unit)))) .unit)) x0) (z0 : gT reachBytes (.pair .str (.pair (.sl (.pair (.int .i64) (.pair (.int .i64) (.pair (.sl .str) .unit)))) .unit)) x0) (hT : Go.Lib.TabIs Tryd.prog W "internal/strconv.uint64pow10" .u64 Go.Lib.pow10Tab) : Calls Tryd.prog 4 #[v0] W (fun e w' => e = .returned (.bool true) ∧ Below W.heap.size W w') := by
 obtain ⟨tb,hok,ht⟩:=aMB (P:=Tryd.prog) (g:=0) (by kernel_rfl) hT
 have hg:Go.Fw.Good Tryd.prog tb (eN table nk 30000 (0+13)):=Dr 30000 (fun f fd _ h=>ahR f fd h) (ayn ht) _
 refine adD (es:=[.v (.pair .str (.pair (.sl (.pair (.int .i64) (.pair (.int .i64) (.pair (.sl .str) .unit)))) .unit)) x0]) hg hok ?_ (.cons r0 .nil)
 rw [va4 0,awM x0 i0 z0]; rfl
def avw:DataW Unit→Value
 | .lit (.int k n)=>.int k n
 | _=>.nilIface
def RN:DataW Unit→Array Value
 | .agg ds=>(ds.map avw).toArray
 | _=>#[]
noncomputable def agB (os:Os):World:=
 {World.holding Tryd.prog os ⟨#[],#[],[]⟩ with heap:=((((World.holding Tryd.prog os ⟨#[],#[],[]⟩).heap.modify 2 fun
   | .cells _ t frozen=>.cells (RN Rows.laid_math_bits_deBruijn32tab) t frozen
   | o=>o).modify 3 fun
   | .cells _ t frozen=>.cells (RN Rows.laid_math_bits_deBruijn64tab) t frozen
   | o=>o).modify 0 fun
   | .cells _ t frozen=>.cells (RN Rows.laid_internal_strconv_uint64pow10) t frozen
   | o=>o)}
theorem au5 (os:Os) (args:Array Value):laidMet Tryd.prog Rows.licenceValidRow.laid ((agB os).forCall (fun _ _=>0) ⟨#[],args,[]⟩).memory:=
 laidMet_of_run' 8 (by kernel_rfl) (by kernel_rfl)
theorem jT {W : World} (h : laidMet Tryd.prog Rows.licenceValidRow.laid W) : Go.Lib.TabIs Tryd.prog W "internal/strconv.uint64pow10" .u64 Go.Lib.pow10Tab :=
 Go.Lib.tabIs_of_head (g := 0) (t := 104) (e := 95) (n := 20) (rest := []) (by kernel_rfl) (by kernel_rfl) (by kernel_rfl) (by kernel_rfl) (by kernel_rfl) (by kernel_rfl) (show laidMet Tryd.prog [("internal/strconv.uint64pow10", Go.Lib.tabData .u64 Go.Lib.pow10Tab)] W from h.tail.tail)
theorem own:ownKnob Tryd.prog.godebug=none:=by kernel_rfl
set_option maxRecDepth 100000 in
theorem lifted (os:Os) (started:os.Started) (H:Type) (enc:TypeId×Value→H):
  ReturnsInHanded {} Tryd.checked os 4 .any (fun w args=>(Rows.licenceValidSpec.pre enc Tryd.prog Tryd.f4 Rows.licenceValidRow.domain false w args∧laidMet Tryd.prog Rows.licenceValidRow.laid w)∧sizedMet enc Tryd.prog Tryd.f4 (OpenSpec.ofChange Rows.licenceValidSpec) false w args) (Rows.licenceValidSpec.post enc Tryd.prog Tryd.f4 false true false false):=by
 refine returnsInHanded_of_change_and (C:=Tryd.checked) (X:=fun w _=>laidMet Tryd.prog Rows.licenceValidRow.laid w) (fun _ _ _ hh h=>h.of_heap hh) own started (by kernel_rfl) Tryd.func4
  (ChangeSpec.witness_at (enc:=enc) (C:=Tryd.checked) (os:=os) (X:=fun w _=>laidMet Tryd.prog Rows.licenceValidRow.laid w) false (agB os) #[.agg #[.string ⟨#[]⟩,.slice none 0 0]] 8 rfl (by kernel_rfl) (by kernel_rfl) (by kernel_rfl) (by kernel_rfl) (by kernel_rfl) (au5 os _)) ?_
 intro W base args ds gs before hval0 hW hcnd hsz0 hL _
 have hval:∀ (j:Nat) t v,Tryd.f4.params[j]?=some t→args[j]?=some v→Value.okWide Tryd.prog W .any base t v:=hval0
 have hW':=hW
 obtain ⟨p,q,hA0,hV,rfl,hfz,hnd⟩:=hW
 have hAll:DataW.TrodAll enc Tryd.prog W 0 (fun _=>true) true Tryd.f4.params.toList args.toList ds p:=hA0
 have hA:=hAll
 rw [Tryd.params4] at hA hval
 obtain ⟨v0,vs0,d0,ds0,p0,q0,hargs,rfl,rfl,h0,r0⟩:=trodAll_cons hA
 obtain ⟨rfl,rfl,rfl⟩:=trodAll_nil r0
 obtain rfl:args=#[v0]:=by cases args; simp_all
 obtain ⟨rfl,rfl⟩:=trodVars_none hV
 obtain ⟨x0,e0,i0,z0⟩:=Go.Fw.ax5 (P:=Tryd.prog) (T:=(.pair .str (.pair (.sl (.pair (.int .i64) (.pair (.int .i64) (.pair (.sl .str) .unit)))) .unit))) (by kernel_rfl) rfl (hval 0 25 v0 rfl rfl) h0 (Go.Fw.aM6 (j:=0) hsz0 (by rw [Tryd.params4]; rfl) rfl)
 refine (walk v0 W x0 e0 i0 z0 (jT hL)).mono fun e W' ⟨he,bel⟩=>?_
 subst he
 exact ⟨_,rfl,_,_,_,[],_,[],hW',trodAll_mk1 (shut_bool Tryd.underlying4 _),Go.Fw.SX (by kernel_rfl) bel _ _ _ _ (by kernel_rfl) hAll,rfl,bel.frame _,fun h=>by cases h⟩
theorem over:Rows.licenceValidRow.holds Tryd.pinned (OpenSpec.ofChange Rows.licenceValidSpec):=
 OpenClaim.holds_of_wide 4 Tryd.f4 rfl rfl rfl rfl rfl rfl rfl ⟨rfl,rfl,rfl,rfl,rfl⟩ rfl rfl rfl rfl rfl (by kernel_rfl) Tryd.func4 (by kernel_rfl)
  (of_decide_eq_true (by kernel_rfl)) (by unfold Func.isWrapper; first | (rw [if_pos (by decide+kernel)]; kernel_rfl) | (rw [if_neg (by decide+kernel)]; exact ⟨rfl,rfl⟩))
  (fun os started H enc _=>lifted os started H enc)
theorem proved:Rows.LicenceValidSaid:=over
#print axioms proved
end Go.Proofs.YtbdlccajpcomjaaDoor.licenceValid
namespace Go.Proofs.YtbdlccajpcomjaaDoor
theorem avt:Rows.LicenceValidSaid:=licenceValid.proved
end Go.Proofs.YtbdlccajpcomjaaDoor
namespace Go.Proofs.YtbdlccajpcomjaaDoor
theorem licenceValid_card:Rows.LicenceValidCardSaid:=
 Claim7.holds_tied_plain_at .later [] [.data, .data, .data] true (true, "59d4d5859f5182b766d83bdb3104cc30bae833b6f79d17027d82d9e8eb29ad2d") false
  avt (fun _ h=>by cases h) (by kernel_rfl) (fun _ h=>by cases h) licenceValid_row_tie rfl ⟨rfl,rfl⟩ (by kernel_rfl) rfl
  (fun f fn hf hfn=>by
   obtain rfl : f = 4 := SL ((show Tryd.prog.funcNamed "anceps/ancepslaw17.LicenceValid" = some 4 by kernel_rfl).symm.trans hf) |>.symm
   obtain rfl:fn=Tryd.f4:=(SL (Tryd.func4.symm.trans hfn)).symm
   exact ⟨by kernel_rfl,fun j t ht=>by
    rw [Tryd.params4] at ht
    have h3:t=25:=by
     rcases j with _ | j
     ·simpa using ht.symm
     ·simp at ht
    subst h3
    exact (show Tryd.prog.wantsStandIn 25=false by kernel_rfl)⟩)
  (by kernel_rfl)
end Go.Proofs.YtbdlccajpcomjaaDoor
