/- JunctionEnds: the row, from the law's pure theorem main6; no conditions. -/
import Derived.Test.YtggppceiapjadaaRows
import Derived.Test.YtggppceiapjadaaFwW19
import Derived.Test.YtggppceiapjadaaFwH19ends
import Derived.Test.YtggppceiapjadaaFwQ
import Derived.WalkKit
import Derived.ProofKit
import Derived.OpenShut
import Derived.ShutString
import Derived.ChangeOld
import Derived.Below
import Derived.SizedLaws
set_option linter.unusedVariables false
set_option linter.unusedSimpArgs false
namespace Go.Proofs.Ytggppceiapjadaa.junctionEnds
open Go.ChangeShapes Go.WideShapes Go.ChangeAt Go.RowKit
set_option linter.unusedVariables false
open Go.Fw Go.Fw.L19 in
theorem walk (v0 v1 : Value) (W : World) (x0 : den (.sl (.pair (.int .i64) (.pair (.int .i64) (.pair .str .unit))))) (x1 : den (.int .i64)) (r0 : ARep Try.prog W (fun _ _ => True) (.v (.sl (.pair (.int .i64) (.pair (.int .i64) (.pair .str .unit)))) x0) v0) (r1 : ARep Try.prog W (fun _ _ => True) (.v (.int .i64) x1) v1) (i0 : InR (.sl (.pair (.int .i64) (.pair (.int .i64) (.pair .str .unit)))) x0) (i1 : InR (.int .i64) x1) : Calls Try.prog 6 #[v0, v1] W (fun e w' => e = .returned (.bool true) ∧ Below W.heap.size W w') := by
  have hg : Go.Fw.Good Try.prog (acall table prims 1000 (0 + 13)) := acall_good 1000 (fun f fd _ h => tab_ok f fd h) prims_good _
  refine call_true (es := [.v (.sl (.pair (.int .i64) (.pair (.int .i64) (.pair .str .unit)))) x0, .v (.int .i64) x1]) hg ?_ (.cons r0 (.cons r1 .nil))
  rw [va6 0, main6 x0 x1]; rfl
theorem own : ownKnob Try.prog.godebug = none := by kernel_rfl
set_option maxRecDepth 100000 in
theorem lifted (os : Os) (started : os.Started) (H : Type) (enc : TypeId × Value → H) :
    ReturnsInHanded {} Try.checked os 6 .any (Rows.junctionEndsSpec.pre6 enc Try.prog Try.f6 Rows.junctionEndsRow.domain false) (Rows.junctionEndsSpec.post enc Try.prog Try.f6 false true false false) := by
  refine returnsInHanded_of_change_sized (C := Try.checked) own started (by kernel_rfl) Try.func6
    (ChangeSpec.witness6 (enc := enc) (C := Try.checked) false ⟨#[], #[.slice none 0 0, .int .i64 0], []⟩ 6 (by kernel_rfl) (by kernel_rfl) (by kernel_rfl) (by kernel_rfl)) ?_
  intro W base args ds gs before hval0 hW hcnd hsz0 _
  have hval : ∀ (j : Nat) t v, Try.f6.params[j]? = some t → args[j]? = some v → Value.okWide Try.prog W .any base t v := hval0
  have hW' := hW
  obtain ⟨p, q, hA0, hV, rfl, hfz, hnd⟩ := hW
  have hAll : DataW.TrodAll enc Try.prog W 0 (fun _ => true) true Try.f6.params.toList args.toList ds p := hA0
  have hA := hAll
  rw [Try.params6] at hA hval
  obtain ⟨v0, vs0, d0, ds0, p0, q0, hargs, rfl, rfl, h0, r0⟩ := trodAll_cons hA
  obtain ⟨v1, vs1, d1, ds1, p1, q1, rfl, rfl, rfl, h1, r1⟩ := trodAll_cons r0
  obtain ⟨rfl, rfl, rfl⟩ := trodAll_nil r1
  obtain rfl : args = #[v0, v1] := by cases args; simp_all
  obtain ⟨rfl, rfl⟩ := trodVars_none hV
  obtain ⟨x0, e0, i0⟩ := Go.Fw.open_arg (P := Try.prog) (T := (.sl (.pair (.int .i64) (.pair (.int .i64) (.pair .str .unit))))) (by kernel_rfl) rfl (hval 0 28 v0 rfl rfl) h0
  obtain ⟨x1, e1, i1⟩ := Go.Fw.open_arg (P := Try.prog) (T := (.int .i64)) (by kernel_rfl) rfl (hval 1 3 v1 rfl rfl) h1
  refine (walk v0 v1 W x0 x1 e0 e1 i0 i1).mono fun e W' ⟨he, bel⟩ => ?_
  subst he
  exact ⟨_, rfl, _, _, _, [], _, [], hW', trodAll_mk1 (shut_bool Try.underlying4 _), Go.Fw.args_stay (by kernel_rfl) bel _ _ _ _ (by kernel_rfl) hAll, rfl, bel.frame _, fun h => by cases h⟩
theorem over : Rows.junctionEndsRow.holds Try.pinned (OpenSpec.ofChange Rows.junctionEndsSpec) :=
  OpenClaim.holds_of_wide 6 Try.f6 rfl rfl rfl rfl rfl rfl rfl ⟨rfl, rfl, rfl, rfl, rfl⟩ rfl rfl rfl rfl rfl (by kernel_rfl) Try.func6 (by kernel_rfl)
    (of_decide_eq_true (by kernel_rfl)) (by unfold Func.isWrapper; first | (rw [if_pos (by decide +kernel)]; kernel_rfl) | (rw [if_neg (by decide +kernel)]; exact ⟨rfl, rfl⟩))
    (fun os started H enc _ => lifted os started H enc)
theorem proved : Rows.JunctionEndsSaid := over
#print axioms proved
end Go.Proofs.Ytggppceiapjadaa.junctionEnds
namespace Go.Proofs.Ytggppceiapjadaa
/-- The row, under a short name, for the claim. -/
theorem junctionEnds_holds : Rows.JunctionEndsSaid := junctionEnds.proved
end Go.Proofs.Ytggppceiapjadaa
