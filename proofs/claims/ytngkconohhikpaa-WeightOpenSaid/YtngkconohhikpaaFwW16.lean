/- law16: what is known of the library's functions. -/
import Derived.Test.YtngkconohhikpaaFwZ16
import Derived.Test.YtngkconohhikpaaFwK16
import Derived.Test.YtngkconohhikpaaFwN
set_option linter.unusedVariables false
set_option linter.unusedSimpArgs false
namespace Go.Fw.L16
open Go Go.Fw
abbrev Opt : Ty := .pair (.int .i64) (.pair (.int .i64) (.pair (.int .i64) .unit))
theorem prims_good : Good Go.Proofs.Try.prog (.of fun f es => (prims f).bind fun p => p es) := by
  intro f es res h w G vals hA
  simp only [Cal.of, prims] at h
  split at h
  · have h : (ctr27 (S27 0)).prim es = some res := h
    unfold Ctr.prim at h
    obtain ⟨a, ha, h⟩ := Option.bind_eq_some_iff.1 h
    obtain ⟨b, hb, h⟩ := Option.bind_eq_some_iff.1 h
    have := (ctr27 (S27 0)).ok es a ha
    subst this
    have hb2 : (if a.1.length ≤ 5864062014805 then some a.1 else none) = some b := hb
    split at hb2
    · rename_i hl
      cases hb2; cases h
      exact clone_good (P := Go.Proofs.Try.prog) (f := 27) (e := 33) (T := Opt) (lim := 5864062014805) (by decide +kernel) (by kernel_rfl) (fun xs => by kernel_rfl) a.1 hl w G vals hA
    · simp at hb2
  · have h : (ctr28 (S28 0)).prim es = some res := h
    unfold Ctr.prim at h
    obtain ⟨a, ha, h⟩ := Option.bind_eq_some_iff.1 h
    obtain ⟨b, hb, h⟩ := Option.bind_eq_some_iff.1 h
    have := (ctr28 (S28 0)).ok es a ha
    subst this
    have hb2 : (if a.1.length ≤ 17592186044416 then some a.1 else none) = some b := hb
    split at hb2
    · rename_i hl
      cases hb2; cases h
      exact clone_good (P := Go.Proofs.Try.prog) (f := 28) (e := 3) (T := .int .i64) (lim := 17592186044416) (by decide +kernel) (by kernel_rfl) (fun xs => by kernel_rfl) a.1 hl w G vals hA
    · simp at hb2
  · simp at h
end Go.Fw.L16
