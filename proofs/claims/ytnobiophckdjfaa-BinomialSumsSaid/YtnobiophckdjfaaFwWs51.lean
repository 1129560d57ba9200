/- what is known of the library's functions. -/
import Derived.Test.YtnobiophckdjfaaFwRev
import Derived.Test.YtnobiophckdjfaaFwZs51
import Derived.Test.YtnobiophckdjfaaFwKs51
import Derived.Test.YtnobiophckdjfaaFwB5
import Derived.Lib.Strings
import Derived.Lib.Slices
import Derived.Lib.Walk
set_option linter.unusedVariables false
set_option linter.unusedSimpArgs false
namespace Go.Fw.L51
open Go Go.Fw
open Go.Proofs Go.Shelf in
def rren : Ren := ⟨fun x => if x = 112 then 120 else x, fun x => match x with | 0 => 0 | 3 => 3 | 4 => 4 | 28 => 22 | x => x, fun x => x⟩
open Go.Proofs Go.Shelf in
theorem rev_lays : Lays.n112 Try.prog rren := by
 refine { mixed := by kernel_rfl, f112 := by kernel_rfl, t0 := by kernel_rfl, a0 := ?_, z0 := ?_, v0 := ?_, t3 := by kernel_rfl, a3 := ?_, z3 := ?_, v3 := ?_, t4 := by kernel_rfl, a4 := ?_, z4 := ?_, v4 := ?_, t28 := by kernel_rfl, a28 := ?_, z28 := ?_, v28 := ?_ }
 all_goals (intro w; kernel_rfl)
theorem prims0_good : Good Go.Proofs.Try.prog (.of fun f es => (prims0 f).bind fun p => p es) := by
 refine ⟨?_, ?_⟩
 ·intro f es res h w G vals hA
  simp only [Cal.of, prims0] at h
  split at h
  ·have h : (ctr117 (S117 0)).prim es = some res := h
   unfold Ctr.prim at h
   obtain ⟨a, ha, h⟩ := Option.bind_eq_some_iff.1 h
   obtain ⟨b, hb, h⟩ := Option.bind_eq_some_iff.1 h
   have := (ctr117 (S117 0)).ok es a ha
   subst this
   have hb2 : (if a.1.length ≤ 17592186044416 then some a.1 else none) = some b := hb
   split at hb2
   ·rename_i hl
    cases hb2; cases h
    exact clone_good (P := Go.Proofs.Try.prog) (f := 117) (e := 3) (T := (.int .i64)) (lim := 17592186044416) (by decide +kernel) (by kernel_rfl) (fun xs => by kernel_rfl) a.1 hl w G vals hA
   ·simp at hb2
  ·have h : (ctr120 (S120 0)).prim es = some res := h
   unfold Ctr.prim at h
   obtain ⟨a, ha, h⟩ := Option.bind_eq_some_iff.1 h
   obtain ⟨b, hb, h⟩ := Option.bind_eq_some_iff.1 h
   have := (ctr120 (S120 0)).ok es a ha
   subst this
   exact absurd hA und_args
  ·simp at h
 ·intro f e T xs res h hs
  simp only [Cal.of, prims0] at h
  split at h
  ·have h : (ctr117 (S117 0)).prim [.und, .own true e T .no xs] = some res := h
   unfold Ctr.prim at h
   obtain ⟨a, ha, h⟩ := Option.bind_eq_some_iff.1 h
   have hu := (ctr117 (S117 0)).ok _ a ha
   cases hu
  ·have h : (ctr120 (S120 0)).prim [.und, .own true e T .no xs] = some res := h
   unfold Ctr.prim at h
   obtain ⟨a, ha, h⟩ := Option.bind_eq_some_iff.1 h
   have hu := (ctr120 (S120 0)).ok _ a ha
   obtain ⟨b, hb, h⟩ := Option.bind_eq_some_iff.1 h
   exact rev_good (P := Go.Proofs.Try.prog) (ρ := rren) rev_lays ⟨_, Go.Proofs.Try.func120, by kernel_rfl, by kernel_rfl⟩ (a := a.1) (b := b) hu hb h
  ·simp at h
theorem rc70_good (m : Nat) : Good Go.Proofs.Try.prog (rc70 m) := recC_good (acall_good 2000 (fun f fd _ h => tab_ok f fd h) prims0_good _) ok70 m
theorem prims_good : Good Go.Proofs.Try.prog (.of fun f es => (prims f).bind fun p => p es) := by
 refine ⟨fun f es res h w G vals hA => ?_, fun f e T xs res h hs => ?_⟩
 ·simp only [Cal.of, prims] at h
  split at h
  ·exact (rc70_good 250).call 70 es res h w G vals hA
  ·exact prims0_good.call f es res h w G vals hA
 ·simp only [Cal.of, prims] at h
  split at h
  ·exact (rc70_good 250).wr 70 e T xs res h hs
  ·exact prims0_good.wr f e T xs res h hs
end Go.Fw.L51
