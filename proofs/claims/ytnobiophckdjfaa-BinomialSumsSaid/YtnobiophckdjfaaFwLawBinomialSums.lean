/- BinomialSums: the row, from the law's pure theorem main9; no conditions. -/
import Derived.Test.YtnobiophckdjfaaRows
import Derived.Test.YtnobiophckdjfaaFwWs51
import Derived.Test.YtnobiophckdjfaaFwHs51sums
import Derived.Test.YtnobiophckdjfaaFwB5
import Derived.WalkKit
import Derived.ProofKit
import Derived.OpenShut
import Derived.ShutString
import Derived.ChangeOld
import Derived.Below
import Derived.SizedLaws
set_option linter.unusedVariables false
set_option linter.unusedSimpArgs false
namespace Go.Proofs.Ytnobiophckdjfaa.binomialSums
open Go.ChangeShapes Go.WideShapes Go.ChangeAt Go.RowKit
set_option linter.unusedVariables false
open Go.Fw Go.Fw.L51 in
theorem walk (v0 : Value) (W : World) (x0 : den (.pair (.int .u8) (.pair (.int .u8) (.pair (.int .u8) (.pair (.int .u8) .unit))))) (r0 : ARep Try.prog W (fun _ _ => True) (.v (.pair (.int .u8) (.pair (.int .u8) (.pair (.int .u8) (.pair (.int .u8) .unit)))) x0) v0) (i0 : InR (.pair (.int .u8) (.pair (.int .u8) (.pair (.int .u8) (.pair (.int .u8) .unit)))) x0) : Calls Try.prog 9 #[v0] W (fun e w' => e = .returned (.bool true) ∧ Below W.heap.size W w') := by
 have hg : Go.Fw.Good Try.prog (acall table prims 2000 (0 + 12)) := acall_good 2000 (fun f fd _ h => tab_ok f fd h) prims_good _
 refine call_true (es := [.v (.pair (.int .u8) (.pair (.int .u8) (.pair (.int .u8) (.pair (.int .u8) .unit)))) x0]) hg ?_ (.cons r0 .nil)
 rw [va9 0, main9 x0 i0]; rfl
theorem own : ownKnob Try.prog.godebug = none := by kernel_rfl
set_option maxRecDepth 100000 in
theorem lifted (os : Os) (started : os.Started) (H : Type) (enc : TypeId × Value → H) :
  ReturnsInHanded {} Try.checked os 9 .any (Rows.binomialSumsSpec.pre6 enc Try.prog Try.f9 Rows.binomialSumsRow.domain false) (Rows.binomialSumsSpec.post enc Try.prog Try.f9 false true false false) := by
 refine returnsInHanded_of_change_sized (C := Try.checked) own started (by kernel_rfl) Try.func9
  (ChangeSpec.witness6 (enc := enc) (C := Try.checked) false ⟨#[], #[.agg #[.int .u8 0, .int .u8 0, .int .u8 0, .int .u8 0]], []⟩ 9 (by kernel_rfl) (by kernel_rfl) (by kernel_rfl) (by kernel_rfl)) ?_
 intro W base args ds gs before hval0 hW hcnd hsz0 _
 have hval : ∀ (j : Nat) t v, Try.f9.params[j]? = some t → args[j]? = some v → Value.okWide Try.prog W .any base t v := hval0
 have hW' := hW
 obtain ⟨p, q, hA0, hV, rfl, hfz, hnd⟩ := hW
 have hAll : DataW.TrodAll enc Try.prog W 0 (fun _ => true) true Try.f9.params.toList args.toList ds p := hA0
 have hA := hAll
 rw [Try.params9] at hA hval
 obtain ⟨v0, vs0, d0, ds0, p0, q0, hargs, rfl, rfl, h0, r0⟩ := trodAll_cons hA
 obtain ⟨rfl, rfl, rfl⟩ := trodAll_nil r0
 obtain rfl : args = #[v0] := by cases args; simp_all
 obtain ⟨rfl, rfl⟩ := trodVars_none hV
 obtain ⟨x0, e0, i0⟩ := Go.Fw.open_arg (P := Try.prog) (T := (.pair (.int .u8) (.pair (.int .u8) (.pair (.int .u8) (.pair (.int .u8) .unit))))) (by kernel_rfl) rfl (hval 0 43 v0 rfl rfl) h0
 refine (walk v0 W x0 e0 i0).mono fun e W' ⟨he, bel⟩ => ?_
 subst he
 exact ⟨_, rfl, _, _, _, [], _, [], hW', trodAll_mk1 (shut_bool Try.underlying4 _), Go.Fw.args_stay (by kernel_rfl) bel _ _ _ _ (by kernel_rfl) hAll, rfl, bel.frame _, fun h => by cases h⟩
theorem over : Rows.binomialSumsRow.holds Try.pinned (OpenSpec.ofChange Rows.binomialSumsSpec) :=
 OpenClaim.holds_of_wide 9 Try.f9 rfl rfl rfl rfl rfl rfl rfl ⟨rfl, rfl, rfl, rfl, rfl⟩ rfl rfl rfl rfl rfl (by kernel_rfl) Try.func9 (by kernel_rfl)
  (of_decide_eq_true (by kernel_rfl)) (by unfold Func.isWrapper; first | (rw [if_pos (by decide +kernel)]; kernel_rfl) | (rw [if_neg (by decide +kernel)]; exact ⟨rfl, rfl⟩))
  (fun os started H enc _ => lifted os started H enc)
theorem proved : Rows.BinomialSumsSaid := over
#print axioms proved
end Go.Proofs.Ytnobiophckdjfaa.binomialSums
namespace Go.Proofs.Ytnobiophckdjfaa
theorem binomialSums_holds : Rows.BinomialSumsSaid := binomialSums.proved
end Go.Proofs.Ytnobiophckdjfaa
