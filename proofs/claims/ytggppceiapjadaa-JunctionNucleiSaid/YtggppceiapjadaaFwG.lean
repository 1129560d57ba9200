/- The glue: a call that the machine says is true. -/
import Derived.Test.YtggppceiapjadaaFwS24
set_option linter.unusedVariables false
set_option linter.unusedSimpArgs false
namespace Go.Fw
open Go Go.RowKit

def isTrue : Option (List E) → Bool
  | some [.v .bool true] => true
  | _ => false
theorem isTrue_some {x : Option (List E)} (h : isTrue x = true) : x = some [.v .bool true] := by
  unfold isTrue at h
  split at h
  · rfl
  · simp at h

theorem call_true {P : Program} {cl : Cal} {f : FuncId} {es : List E} {vals : List Value} {w : World} {G : Nat → Nat → Prop} (hg : Good P cl) (h : isTrue (cl f es) = true) (hA : ArgsRep P w G es vals) :
    Calls P f vals.toArray w (fun e w' => e = .returned (.bool true) ∧ Below w.heap.size w w') := by
  refine Calls.mono (hg f es _ (isTrue_some h) w G vals hA).2 ?_
  rintro e w' ⟨v, rob, rfl, hb, hres⟩
  obtain ⟨rs, rfl, h1⟩ := hres.scal rfl
  have h2 := h1 w' (fun _ _ => True) 0
  unfold Flat at h2
  obtain ⟨rfl, _⟩ := h2
  exact ⟨rfl, hb⟩

theorem wf_inR {k : IntKind} {m : Int} (h : (Lit.int k m).wf = true) : inR k m := by
  unfold inR; simpa only [Lit.wf, Bool.and_eq_true, decide_eq_true_eq] using h

theorem arg_int {P : Program} {w : World} {G : Nat → Nat → Prop} {k : IntKind} {m : Int} (h : inR k m) : ARep P w G (.v (.int k) m) (.int k m) := ⟨[.int k m], by unfold Flat; exact ⟨rfl, h, rfl⟩, rfl⟩
theorem arg_bool {P : Program} {w : World} {G : Nat → Nat → Prop} (b : Bool) : ARep P w G (.v .bool b) (.bool b) := ⟨[.bool b], by unfold Flat; exact ⟨rfl, rfl⟩, rfl⟩

end Go.Fw
