/- BinomialRatio: the row, from the law's pure theorem main10; no conditions. -/
import Derived.Test.YtnobiophckdjfaaRows
import Derived.Test.YtnobiophckdjfaaFwWq51
import Derived.Test.YtnobiophckdjfaaFwHq51ratio
import Derived.Test.YtnobiophckdjfaaFwB5
import Derived.WalkKit
import Derived.ProofKit
import Derived.OpenShut
import Derived.ShutString
import Derived.ChangeOld
import Derived.Below
import Derived.SizedLaws
set_option linter.unusedVariables false
set_option linter.unusedSimpArgs false
namespace Go.Proofs.Ytnobiophckdjfaa.binomialRatio
open Go.ChangeShapes Go.WideShapes Go.ChangeAt Go.RowKit
set_option linter.unusedVariables false
open Go.Fw Go.Fw.L51 in
theorem walk (v0 v1 : Value) (W : World) (x0 : den (.pair (.int .i64) (.pair (.int .i64) .unit))) (x1 : den (.pair .bool (.pair (.pair (.sl (.int .i64)) .unit) (.pair (.pair (.sl (.int .i64)) .unit) .unit)))) (r0 : ARep Try.prog W (fun _ _ => True) (.v (.pair (.int .i64) (.pair (.int .i64) .unit)) x0) v0) (r1 : ARep Try.prog W (fun _ _ => True) (.v (.pair .bool (.pair (.pair (.sl (.int .i64)) .unit) (.pair (.pair (.sl (.int .i64)) .unit) .unit))) x1) v1) (i0 : InR (.pair (.int .i64) (.pair (.int .i64) .unit)) x0) (i1 : InR (.pair .bool (.pair (.pair (.sl (.int .i64)) .unit) (.pair (.pair (.sl (.int .i64)) .unit) .unit))) x1) : Calls Try.prog 10 #[v0, v1] W (fun e w' => e = .returned (.bool true) ∧ Below W.heap.size W w') := by
 have hg : Go.Fw.Good Try.prog (acall table prims 2000 (0 + 12)) := acall_good 2000 (fun f fd _ h => tab_ok f fd h) prims_good _
 refine call_true (es := [.v (.pair (.int .i64) (.pair (.int .i64) .unit)) x0, .v (.pair .bool (.pair (.pair (.sl (.int .i64)) .unit) (.pair (.pair (.sl (.int .i64)) .unit) .unit))) x1]) hg ?_ (.cons r0 (.cons r1 .nil))
 rw [va10 0, main10 x0 x1 i0 i1]; rfl
theorem own : ownKnob Try.prog.godebug = none := by kernel_rfl
set_option maxRecDepth 100000 in
theorem lifted (os : Os) (started : os.Started) (H : Type) (enc : TypeId × Value → H) :
  ReturnsInHanded {} Try.checked os 10 .any (Rows.binomialRatioSpec.pre6 enc Try.prog Try.f10 Rows.binomialRatioRow.domain false) (Rows.binomialRatioSpec.post enc Try.prog Try.f10 false true false false) := by
 refine returnsInHanded_of_change_sized (C := Try.checked) own started (by kernel_rfl) Try.func10
  (ChangeSpec.witness6 (enc := enc) (C := Try.checked) false ⟨#[], #[.agg #[.int .i64 0, .int .i64 0], .agg #[.bool false, .slice none 0 0, .slice none 0 0]], []⟩ 10 (by kernel_rfl) (by kernel_rfl) (by kernel_rfl) (by kernel_rfl)) ?_
 intro W base args ds gs before hval0 hW hcnd hsz0 _
 have hval : ∀ (j : Nat) t v, Try.f10.params[j]? = some t → args[j]? = some v → Value.okWide Try.prog W .any base t v := hval0
 have hW' := hW
 obtain ⟨p, q, hA0, hV, rfl, hfz, hnd⟩ := hW
 have hAll : DataW.TrodAll enc Try.prog W 0 (fun _ => true) true Try.f10.params.toList args.toList ds p := hA0
 have hA := hAll
 rw [Try.params10] at hA hval
 obtain ⟨v0, vs0, d0, ds0, p0, q0, hargs, rfl, rfl, h0, r0⟩ := trodAll_cons hA
 obtain ⟨v1, vs1, d1, ds1, p1, q1, rfl, rfl, rfl, h1, r1⟩ := trodAll_cons r0
 obtain ⟨rfl, rfl, rfl⟩ := trodAll_nil r1
 obtain rfl : args = #[v0, v1] := by cases args; simp_all
 obtain ⟨rfl, rfl⟩ := trodVars_none hV
 obtain ⟨x0, e0, i0⟩ := Go.Fw.open_arg (P := Try.prog) (T := (.pair (.int .i64) (.pair (.int .i64) .unit))) (by kernel_rfl) rfl (hval 0 36 v0 rfl rfl) h0
 obtain ⟨x1, e1, i1⟩ := Go.Fw.open_arg (P := Try.prog) (T := (.pair .bool (.pair (.pair (.sl (.int .i64)) .unit) (.pair (.pair (.sl (.int .i64)) .unit) .unit)))) (by kernel_rfl) rfl (hval 1 26 v1 rfl rfl) h1
 refine (walk v0 v1 W x0 x1 e0 e1 i0 i1).mono fun e W' ⟨he, bel⟩ => ?_
 subst he
 exact ⟨_, rfl, _, _, _, [], _, [], hW', trodAll_mk1 (shut_bool Try.underlying4 _), Go.Fw.args_stay (by kernel_rfl) bel _ _ _ _ (by kernel_rfl) hAll, rfl, bel.frame _, fun h => by cases h⟩
theorem over : Rows.binomialRatioRow.holds Try.pinned (OpenSpec.ofChange Rows.binomialRatioSpec) :=
 OpenClaim.holds_of_wide 10 Try.f10 rfl rfl rfl rfl rfl rfl rfl ⟨rfl, rfl, rfl, rfl, rfl⟩ rfl rfl rfl rfl rfl (by kernel_rfl) Try.func10 (by kernel_rfl)
  (of_decide_eq_true (by kernel_rfl)) (by unfold Func.isWrapper; first | (rw [if_pos (by decide +kernel)]; kernel_rfl) | (rw [if_neg (by decide +kernel)]; exact ⟨rfl, rfl⟩))
  (fun os started H enc _ => lifted os started H enc)
theorem proved : Rows.BinomialRatioSaid := over
#print axioms proved
end Go.Proofs.Ytnobiophckdjfaa.binomialRatio
namespace Go.Proofs.Ytnobiophckdjfaa
theorem binomialRatio_holds : Rows.BinomialRatioSaid := binomialRatio.proved
end Go.Proofs.Ytnobiophckdjfaa
