/- what is known of the library's functions. -/
import Derived.Test.YtggppceiapjadaaFwZm19
import Derived.Test.YtggppceiapjadaaFwKm19
import Derived.Test.YtggppceiapjadaaFwB5
import Derived.Lib.Strings
import Derived.Lib.Slices
import Derived.Lib.Walk
set_option linter.unusedVariables false
set_option linter.unusedSimpArgs false
namespace Go.Fw.L19
open Go Go.Fw
open Go.Proofs in
set_option maxHeartbeats 1000000 in
set_option maxRecDepth 100000 in
theorem stringslite_IndexByte (s : ByteArray) (c : Int) (w : World) : Calls Try.prog 109 #[.string s, .int .u8 c] w fun e w' => e = .returned (.int .i64 (Lib.indexByte s.data.toList c.toNat.toUInt8)) ∧ w' = w := by
  go_enter Try.func109, Try.ntmps109
  go_wp2
  rw [run_callFunc_extern Try.func112 (by kernel_rfl) (by kernel_rfl) (by kernel_rfl) (e := Extern.BytealgIndexByte.indexByte) (by kernel_rfl), Lib.run_indexByteString]
  simp only [Result.andThen]
  rw [Oper.upon_value]
  go_wp2
  go_ret
  exact ⟨rfl, rfl⟩
theorem prims_good : Good Go.Proofs.Try.prog (.of fun f es => (prims f).bind fun p => p es) := by
  intro f es res h w G vals hA
  simp only [Cal.of, prims] at h
  split at h
  · have h : (ctr23 (S23 0)).prim es = some res := h
    unfold Ctr.prim at h
    obtain ⟨a, ha, h⟩ := Option.bind_eq_some_iff.1 h
    obtain ⟨b, hb, h⟩ := Option.bind_eq_some_iff.1 h
    have := (ctr23 (S23 0)).ok es a ha
    subst this
    have hb2 : (if a.1.length ≤ 4398046511104 then some a.1 else none) = some b := hb
    split at hb2
    · rename_i hl
      cases hb2; cases h
      exact clone_good (P := Go.Proofs.Try.prog) (f := 23) (e := 55) (T := (.pair (.int .i64) (.pair (.int .i64) (.pair .str .unit)))) (lim := 4398046511104) (by decide +kernel) (by kernel_rfl) (fun xs => by kernel_rfl) a.1 hl w G vals hA
    · simp at hb2
  · have h : (ctr109 (S109 0)).prim es = some res := h
    unfold Ctr.prim at h
    obtain ⟨a, ha, h⟩ := Option.bind_eq_some_iff.1 h
    obtain ⟨b, hb, h⟩ := Option.bind_eq_some_iff.1 h
    have := (ctr109 (S109 0)).ok es a ha
    subst this
    cases hb; cases h
    exact idx_good stringslite_IndexByte ⟨_, Go.Proofs.Try.func109, by kernel_rfl, by kernel_rfl⟩ a.1 a.2.1 w G vals hA
  · simp at h
end Go.Fw.L19
