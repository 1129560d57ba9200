import Derived.Test.YtngkconohhikpaaRows
import Derived.Test.YtngkconohhikpaaFwT8
import Derived.Test.YtngkconohhikpaaFwG
import Derived.Test.YtngkconohhikpaaFwK16
import Derived.WalkKit
import Derived.ProofKit
import Derived.OpenShut
import Derived.ShutString
import Derived.ChangeOld
import Derived.Below
import Derived.SizedLaws
set_option linter.unusedVariables false
set_option linter.unusedSimpArgs false
namespace Go.Proofs.Ytngkconohhikpaa.weightAlways
open Go.ChangeShapes Go.WideShapes Go.ChangeAt Go.RowKit
open Go.ChangeMaps (open_string shut_string)
set_option linter.unusedVariables false
open Go.Fw Go.Fw.L16 in
theorem walk8 (a0 a1 : Int) (a2 : Bool) (W : World) (w0 : inR .u8 a0) (w1 : inR .u8 a1) : Calls Try.prog 8 #[.int .u8 a0, .int .u8 a1, .bool a2] W (fun e w' => e = .returned (.bool true) ∧ Below W.heap.size W w') := by
  have hg : Go.Fw.Good Try.prog (acall table noPrims 60 21) := acall_good 60 (fun f fd _ h => Go.Fw.L16.tab_ok f fd h) (fun f es res h => by simp [noPrims] at h) 21
  have hq : a0.tmod 3 ∈ ([0, 1, 2] : List Int) := by
    have h1 : (0:Int) ≤ a0 := w0.1
    have h2 : 0 ≤ a0.tmod 3 := Int.tmod_nonneg 3 h1
    have h3 : a0.tmod 3 < 3 := Int.tmod_lt_of_pos a0 (by decide)
    simp; omega
  have hc : a1.tmod 4 ∈ ([0, 1, 2, 3] : List Int) := by
    have h1 : (0:Int) ≤ a1 := w1.1
    have h2 : 0 ≤ a1.tmod 4 := Int.tmod_nonneg 4 h1
    have h3 : a1.tmod 4 < 4 := Int.tmod_lt_of_pos a1 (by decide)
    simp; omega
  exact call_true (es := [.v (.int .u8) a0, .v (.int .u8) a1, .v .bool a2]) (G := fun _ _ => True) hg (by rw [all8]; exact fin_ok a2 _ hq _ hc) (.cons (arg_int w0) (.cons (arg_int w1) (.cons (arg_bool a2) .nil)))
theorem own : ownKnob Try.prog.godebug = none := by kernel_rfl
set_option maxRecDepth 100000 in
theorem lifted (os : Os) (started : os.Started) (H : Type) (enc : TypeId × Value → H) :
    ReturnsInHanded {} Try.checked os 8 .any (Rows.weightAlwaysSpec.pre6 enc Try.prog Try.f8 Rows.weightAlwaysRow.domain false) (Rows.weightAlwaysSpec.post enc Try.prog Try.f8 false true false false) := by
  refine returnsInHanded_of_change_sized (C := Try.checked) own started (by kernel_rfl) Try.func8
    (ChangeSpec.witness6 (enc := enc) (C := Try.checked) false ⟨#[], #[.int .u8 0, .int .u8 0, .bool false], []⟩ 8 (by kernel_rfl) (by kernel_rfl) (by kernel_rfl) (by kernel_rfl)) ?_
  intro W base args ds gs before hval0 hW hcnd hsz0 _
  have hsz : (DataW.weightsEach Try.prog (Try.f8.params.toList ++ Rows.weightAlwaysSpec.plain.varTypes Try.prog) (ds ++ gs)).all (· ≤ reachBytes) = true := hsz0
  have hval : ∀ (j : Nat) t v, Try.f8.params[j]? = some t → args[j]? = some v → Value.okWide Try.prog W .any base t v := hval0
  have hW' := hW
  obtain ⟨p, q, hA0, hV, rfl, hfz, hnd⟩ := hW
  have hA : DataW.TrodAll enc Try.prog W 0 (fun _ => true) true Try.f8.params.toList args.toList ds p := hA0
  rw [Try.params8] at hA hval hsz
  obtain ⟨v0, vs0, d0, ds0, p0, q0, hargs, rfl, rfl, h0, r0⟩ := trodAll_cons hA
  obtain ⟨v1, vs1, d1, ds1, p1, q1, rfl, rfl, rfl, h1, r1⟩ := trodAll_cons r0
  obtain ⟨v2, vs2, d2, ds2, p2, q2, rfl, rfl, rfl, h2, r2⟩ := trodAll_cons r1
  obtain ⟨rfl, rfl, rfl⟩ := trodAll_nil r2
  obtain rfl : args = #[v0, v1, v2] := by cases args; simp_all
  obtain ⟨rfl, rfl⟩ := trodVars_none hV
  obtain ⟨a0, rfl, rfl, rfl, w0⟩ := open_int Try.underlying5 (hval 0 5 v0 rfl rfl) h0
  obtain ⟨a1, rfl, rfl, rfl, w1⟩ := open_int Try.underlying5 (hval 1 5 v1 rfl rfl) h1
  obtain ⟨a2, rfl, rfl, rfl⟩ := open_bool Try.underlying4 (hval 2 4 v2 rfl rfl) h2
  clear hA0 hval0 hsz0 hsz
  refine (walk8 a0 a1 a2 W (Go.Fw.wf_inR w0) (Go.Fw.wf_inR w1)).mono fun e W' ⟨he, bel⟩ => ?_
  subst he
  exact ⟨_, rfl, _, _, _, [], _, [], hW', trodAll_mk1 (shut_bool Try.underlying4 _), (trodAll_cons_mk (shut_int Try.underlying5 w0) (trodAll_cons_mk (shut_int Try.underlying5 w1) (trodAll_cons_mk (shut_bool Try.underlying4 _) trodAll_mk0))), rfl, bel.frame _, fun h => by cases h⟩
theorem over : Rows.weightAlwaysRow.holds Try.pinned (OpenSpec.ofChange Rows.weightAlwaysSpec) :=
  OpenClaim.holds_of_wide 8 Try.f8 rfl rfl rfl rfl rfl rfl rfl ⟨rfl, rfl, rfl, rfl, rfl⟩ rfl rfl rfl rfl rfl (by kernel_rfl) Try.func8 (by kernel_rfl)
    (of_decide_eq_true (by kernel_rfl)) (by unfold Func.isWrapper; first | (rw [if_pos (by decide +kernel)]; kernel_rfl) | (rw [if_neg (by decide +kernel)]; exact ⟨rfl, rfl⟩))
    (fun os started H enc _ => lifted os started H enc)
theorem proved : Rows.WeightAlwaysSaid := over
#print axioms proved
end Go.Proofs.Ytngkconohhikpaa.weightAlways
namespace Go.Proofs.Ytngkconohhikpaa
/-- The row, under a short name, for the claim. -/
theorem weightAlways_holds : Rows.WeightAlwaysSaid := weightAlways.proved
end Go.Proofs.Ytngkconohhikpaa
