/- what is known of the library's functions. -/
import Derived.Test.YtggppceiapjadaaFwNg
import Derived.Test.YtggppceiapjadaaFwZs19
import Derived.Test.YtggppceiapjadaaFwKs19
import Derived.Test.YtggppceiapjadaaFwB5
import Derived.Lib.Strings
import Derived.Lib.Slices
import Derived.Lib.Walk
set_option linter.unusedVariables false
set_option linter.unusedSimpArgs false
namespace Go.Fw.L19
open Go Go.Fw
open Go.Proofs in
set_option maxHeartbeats 1000000 in
set_option maxRecDepth 100000 in
theorem stringslite_IndexByte (s : ByteArray) (c : Int) (w : World) : Calls Try.prog 109 #[.string s, .int .u8 c] w fun e w' => e = .returned (.int .i64 (Lib.indexByte s.data.toList c.toNat.toUInt8)) ∧ w' = w := by
  go_enter Try.func109, Try.ntmps109
  go_wp2
  rw [run_callFunc_extern Try.func112 (by kernel_rfl) (by kernel_rfl) (by kernel_rfl) (e := Extern.BytealgIndexByte.indexByte) (by kernel_rfl), Lib.run_indexByteString]
  simp only [Result.andThen]
  rw [Oper.upon_value]
  go_wp2
  go_ret
  exact ⟨rfl, rfl⟩
open Go.Proofs Go.Shelf in
def gren : Ren := ⟨fun x => if x = 4 then 49 else x, fun x => if x = 22 then 28 else if x = 25 then 55 else x, fun x => x⟩
open Go.Proofs Go.Shelf in
theorem grow_lays : Lays8.n4 Try.prog gren := by
  refine { mixed := by kernel_rfl, f4 := ⟨"slices.Grow[[]anceps/api.Sound,anceps/api.Sound]", by decide, by kernel_rfl⟩, t0 := by kernel_rfl, a0 := ?_, z0 := ?_, v0 := ?_, t3 := by kernel_rfl, a3 := ?_, z3 := ?_, v3 := ?_, t4 := by kernel_rfl, a4 := ?_, z4 := ?_, v4 := ?_, t9 := by kernel_rfl, a9 := ?_, z9 := ?_, v9 := ?_, t20 := by kernel_rfl, a20 := ?_, z20 := ?_, v20 := ?_, t22 := by kernel_rfl, a22 := ?_, z22 := ?_, v22 := ?_ }
  all_goals (intro w; kernel_rfl)
theorem prims_good : Good Go.Proofs.Try.prog (.of fun f es => (prims f).bind fun p => p es) := by
  intro f es res h w G vals hA
  simp only [Cal.of, prims] at h
  split at h
  · have h : (ctr23 (S23 0)).prim es = some res := h
    unfold Ctr.prim at h
    obtain ⟨a, ha, h⟩ := Option.bind_eq_some_iff.1 h
    obtain ⟨b, hb, h⟩ := Option.bind_eq_some_iff.1 h
    have := (ctr23 (S23 0)).ok es a ha
    subst this
    have hb2 : (if a.1.length ≤ 4398046511104 then some a.1 else none) = some b := hb
    split at hb2
    · rename_i hl
      cases hb2; cases h
      exact clone_good (P := Go.Proofs.Try.prog) (f := 23) (e := 55) (T := (.pair (.int .i64) (.pair (.int .i64) (.pair .str .unit)))) (lim := 4398046511104) (by decide +kernel) (by kernel_rfl) (fun xs => by kernel_rfl) a.1 hl w G vals hA
    · simp at hb2
  · have h : (ctr49 (S49 0)).prim es = some res := h
    unfold Ctr.prim at h
    obtain ⟨a, ha, h⟩ := Option.bind_eq_some_iff.1 h
    obtain ⟨b, hb, h⟩ := Option.bind_eq_some_iff.1 h
    have := (ctr49 (S49 0)).ok es a ha
    subst this
    have hb2 : (if 0 ≤ a.1 ∧ a.1 ≤ (4398046511104 : Int) then some [] else none) = some b := hb
    split at hb2
    · rename_i hl
      cases hb2; cases h
      exact grow_good2 (P := Go.Proofs.Try.prog) (ρ := gren) grow_lays (T := (.pair (.int .i64) (.pair (.int .i64) (.pair .str .unit)))) (lim := 4398046511104) (by decide +kernel) ⟨_, Go.Proofs.Try.func49, by kernel_rfl, by kernel_rfl⟩ a.1 hl w G vals hA
    · simp at hb2
  · have h : (ctr109 (S109 0)).prim es = some res := h
    unfold Ctr.prim at h
    obtain ⟨a, ha, h⟩ := Option.bind_eq_some_iff.1 h
    obtain ⟨b, hb, h⟩ := Option.bind_eq_some_iff.1 h
    have := (ctr109 (S109 0)).ok es a ha
    subst this
    cases hb; cases h
    exact idx_good stringslite_IndexByte ⟨_, Go.Proofs.Try.func109, by kernel_rfl, by kernel_rfl⟩ a.1 a.2.1 w G vals hA
  · simp at h
end Go.Fw.L19
