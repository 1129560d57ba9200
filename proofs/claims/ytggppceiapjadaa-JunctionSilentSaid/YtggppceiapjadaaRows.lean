/-
  No cell of these rows narrows 'for every input' (looked for: loops, veiled, ifaces, maps, wideKeys, modest, calm, conditions, laid).
  DERIVED. THE GIVEN ROWS OF THIS SEAT. 5 by the template 'for every input the law returns true; each argument reads behind the call as it read before'; 0 by the template 'total and deterministic' (their statements: YtggppceiapjadaaTotals.lean).
  GIVEN WITH THE SEED: the statements are not yours to turn. If you find one false, say at which input.
  Laid BY PROGRAM, IN A SANDBOX (cutbox-rows.mjs): the forced cells as the released guide's own fill.sh prints them over the translation c31313a9835b89af… (all of the seat's roots in one cut). By AI agents, Wed Nov 11 2026. No macro, syntax, notation, axiom, sorry.
-/
import Derived.Test.YtggppceiapjadaaChecked
import GoSem.Claim
import GoSem.ClaimJoined
import GoSem.ClaimMapViews
import Derived.JoinedTies
import Derived.KernelRfl
namespace Go.Proofs.Ytggppceiapjadaa
/- THE CELL 'sum', in the pinned program and in every row, IS THE sha256 OF THE DUMP (.gsa) THAT YtggppceiapjadaaProg.lean LOADS. Nothing in Lean hashes anything: it is a label: what it is worth is what the hold of that sum in a sandbox is worth. -/
noncomputable def Try.pinned : Pinned := { name := "ytggppceiapjadaa", sum := "c31313a9835b89aff78e45b1b01305232b94425c6a9f2a87675af5a05289ae74", checked := Try.checked }
namespace Rows
def none {H : Type} : Left H := { results := [], args := [] }

/-- 'ancepslaw19.JunctionApplied': WHATEVER THE INPUT: true; the input reads as it did. -/
def junctionAppliedSpec : ChangeSpec := { name := "junctionApplied", fn := fun _ => fun
  | [d1, d2, d3] => { results := [.lit (.bool true)], args := [d1, d2, d3] }
  | _ => none }
def junctionAppliedRow : OpenClaim := { program := "ytggppceiapjadaa", sum := "c31313a9835b89aff78e45b1b01305232b94425c6a9f2a87675af5a05289ae74", func := "anceps/ancepslaw19.JunctionApplied", spec := "junctionApplied", inPlace := ["internal/bytealg.IndexByteString", "internal/abi.NoEscape", "internal/bytealg.MakeNoZero"], unfollowed := true, recurses := true, apart := false }
def JunctionAppliedSaid : Prop := junctionAppliedRow.holds Try.pinned (OpenSpec.ofChange junctionAppliedSpec)

/-- ITS FALSE NEIGHBOUR: 'it returns false'. Refute it at one input. -/
def junctionAppliedWrong : ChangeSpec := { name := "junctionApplied", fn := fun _ => fun
  | [d1, d2, d3] => { results := [.lit (.bool false)], args := [d1, d2, d3] }
  | _ => none }
def JunctionAppliedWrongFalsely : Prop := junctionAppliedRow.holds Try.pinned (OpenSpec.ofChange junctionAppliedWrong)

/-- 'ancepslaw19.JunctionNuclei': WHATEVER THE INPUT: true; the input reads as it did. -/
def junctionNucleiSpec : ChangeSpec := { name := "junctionNuclei", fn := fun _ => fun
  | [d1, d2, d3] => { results := [.lit (.bool true)], args := [d1, d2, d3] }
  | _ => none }
def junctionNucleiRow : OpenClaim := { program := "ytggppceiapjadaa", sum := "c31313a9835b89aff78e45b1b01305232b94425c6a9f2a87675af5a05289ae74", func := "anceps/ancepslaw19.JunctionNuclei", spec := "junctionNuclei", inPlace := ["internal/bytealg.IndexByteString", "internal/abi.NoEscape", "internal/bytealg.MakeNoZero"], unfollowed := true, recurses := true, apart := false }
def JunctionNucleiSaid : Prop := junctionNucleiRow.holds Try.pinned (OpenSpec.ofChange junctionNucleiSpec)

/-- ITS FALSE NEIGHBOUR: 'it returns false'. Refute it at one input. -/
def junctionNucleiWrong : ChangeSpec := { name := "junctionNuclei", fn := fun _ => fun
  | [d1, d2, d3] => { results := [.lit (.bool false)], args := [d1, d2, d3] }
  | _ => none }
def JunctionNucleiWrongFalsely : Prop := junctionNucleiRow.holds Try.pinned (OpenSpec.ofChange junctionNucleiWrong)

/-- 'ancepslaw19.JunctionMore': WHATEVER THE INPUT: true; the input reads as it did. -/
def junctionMoreSpec : ChangeSpec := { name := "junctionMore", fn := fun _ => fun
  | [d1, d2, d3] => { results := [.lit (.bool true)], args := [d1, d2, d3] }
  | _ => none }
def junctionMoreRow : OpenClaim := { program := "ytggppceiapjadaa", sum := "c31313a9835b89aff78e45b1b01305232b94425c6a9f2a87675af5a05289ae74", func := "anceps/ancepslaw19.JunctionMore", spec := "junctionMore", inPlace := ["internal/bytealg.IndexByteString", "internal/abi.NoEscape", "internal/bytealg.MakeNoZero"], unfollowed := true, recurses := true, apart := false }
def JunctionMoreSaid : Prop := junctionMoreRow.holds Try.pinned (OpenSpec.ofChange junctionMoreSpec)

/-- ITS FALSE NEIGHBOUR: 'it returns false'. Refute it at one input. -/
def junctionMoreWrong : ChangeSpec := { name := "junctionMore", fn := fun _ => fun
  | [d1, d2, d3] => { results := [.lit (.bool false)], args := [d1, d2, d3] }
  | _ => none }
def JunctionMoreWrongFalsely : Prop := junctionMoreRow.holds Try.pinned (OpenSpec.ofChange junctionMoreWrong)

/-- 'ancepslaw19.JunctionEnds': WHATEVER THE INPUT: true; the input reads as it did. -/
def junctionEndsSpec : ChangeSpec := { name := "junctionEnds", fn := fun _ => fun
  | [d1, d2] => { results := [.lit (.bool true)], args := [d1, d2] }
  | _ => none }
def junctionEndsRow : OpenClaim := { program := "ytggppceiapjadaa", sum := "c31313a9835b89aff78e45b1b01305232b94425c6a9f2a87675af5a05289ae74", func := "anceps/ancepslaw19.JunctionEnds", spec := "junctionEnds", inPlace := ["internal/bytealg.IndexByteString", "internal/abi.NoEscape", "internal/bytealg.MakeNoZero"], unfollowed := true, recurses := true, apart := false }
def JunctionEndsSaid : Prop := junctionEndsRow.holds Try.pinned (OpenSpec.ofChange junctionEndsSpec)

/-- ITS FALSE NEIGHBOUR: 'it returns false'. Refute it at one input. -/
def junctionEndsWrong : ChangeSpec := { name := "junctionEnds", fn := fun _ => fun
  | [d1, d2] => { results := [.lit (.bool false)], args := [d1, d2] }
  | _ => none }
def JunctionEndsWrongFalsely : Prop := junctionEndsRow.holds Try.pinned (OpenSpec.ofChange junctionEndsWrong)

/-- 'ancepslaw19.JunctionSilent': WHATEVER THE INPUT: true; the input reads as it did. -/
def junctionSilentSpec : ChangeSpec := { name := "junctionSilent", fn := fun _ => fun
  | [d1, d2, d3] => { results := [.lit (.bool true)], args := [d1, d2, d3] }
  | _ => none }
def junctionSilentRow : OpenClaim := { program := "ytggppceiapjadaa", sum := "c31313a9835b89aff78e45b1b01305232b94425c6a9f2a87675af5a05289ae74", func := "anceps/ancepslaw19.JunctionSilent", spec := "junctionSilent", inPlace := ["internal/bytealg.IndexByteString", "internal/abi.NoEscape", "internal/bytealg.MakeNoZero"], unfollowed := true, recurses := true, apart := false }
def JunctionSilentSaid : Prop := junctionSilentRow.holds Try.pinned (OpenSpec.ofChange junctionSilentSpec)

/-- ITS FALSE NEIGHBOUR: 'it returns false'. Refute it at one input. -/
def junctionSilentWrong : ChangeSpec := { name := "junctionSilent", fn := fun _ => fun
  | [d1, d2, d3] => { results := [.lit (.bool false)], args := [d1, d2, d3] }
  | _ => none }
def JunctionSilentWrongFalsely : Prop := junctionSilentRow.holds Try.pinned (OpenSpec.ofChange junctionSilentWrong)

/- THE SECOND FORM. 'bulk': how many values and letters a reading holds, each counted each time it is reached (what is shared counts as often as it is met; a slice's spare places count too). A statement '..UptoSaid' is the law's where the arguments, and the package variables that the reading takes, are together of bulk at most 1048576: NARROWER than '..Said'. Prove '..Said' where nothing that the law and all that it calls make is longer than what came in: it says more and counts as full. Else prove '..UptoSaid'. A law counts once. -/
mutual
def uptoBulk {H : Type} : DataW H → Nat
  | .lit (.string bytes) => bytes.length + 1
  | .lit _ => 1
  | .nil => 1
  | .ptr d => uptoBulk d + 1
  | .slice elems spare => uptoBulkAll elems + uptoBulkAll spare + 1
  | .agg parts => uptoBulkAll parts + 1
  | .iface _ d => uptoBulk d + 1
  | .map entries => uptoBulkEntries entries + 1
  | .held _ => 1
def uptoBulkAll {H : Type} : List (DataW H) → Nat
  | [] => 0
  | d :: r => uptoBulk d + uptoBulkAll r
def uptoBulkEntries {H : Type} : List (Lit × DataW H) → Nat
  | [] => 0
  | x :: r => uptoBulkEntry x + uptoBulkEntries r
def uptoBulkEntry {H : Type} : Lit × DataW H → Nat
  | (.string bytes, d) => bytes.length + uptoBulk d + 1
  | (_, d) => uptoBulk d + 1
 end
def uptoSmall : (H : Type) → List (DataW H) → Bool := fun _ ds => decide (uptoBulkAll ds ≤ 1048576)
def OpenSpec.upto (s : _root_.Go.ChangeSpec) : _root_.Go.OpenSpec := { _root_.Go.OpenSpec.ofChange s with cond := some uptoSmall }

/-- 'ancepslaw19.JunctionApplied', WHERE WHAT IT READS IS OF BULK AT MOST 1048576: true; the input reads as it did. -/
def junctionAppliedUptoRow : OpenClaim := { program := "ytggppceiapjadaa", sum := "c31313a9835b89aff78e45b1b01305232b94425c6a9f2a87675af5a05289ae74", func := "anceps/ancepslaw19.JunctionApplied", spec := "junctionApplied", inPlace := ["internal/bytealg.IndexByteString", "internal/abi.NoEscape", "internal/bytealg.MakeNoZero"], unfollowed := true, recurses := true, apart := false, narrowed := true }
def JunctionAppliedUptoSaid : Prop := junctionAppliedUptoRow.holds Try.pinned (OpenSpec.upto junctionAppliedSpec)

/-- 'ancepslaw19.JunctionNuclei', WHERE WHAT IT READS IS OF BULK AT MOST 1048576: true; the input reads as it did. -/
def junctionNucleiUptoRow : OpenClaim := { program := "ytggppceiapjadaa", sum := "c31313a9835b89aff78e45b1b01305232b94425c6a9f2a87675af5a05289ae74", func := "anceps/ancepslaw19.JunctionNuclei", spec := "junctionNuclei", inPlace := ["internal/bytealg.IndexByteString", "internal/abi.NoEscape", "internal/bytealg.MakeNoZero"], unfollowed := true, recurses := true, apart := false, narrowed := true }
def JunctionNucleiUptoSaid : Prop := junctionNucleiUptoRow.holds Try.pinned (OpenSpec.upto junctionNucleiSpec)

/-- 'ancepslaw19.JunctionMore', WHERE WHAT IT READS IS OF BULK AT MOST 1048576: true; the input reads as it did. -/
def junctionMoreUptoRow : OpenClaim := { program := "ytggppceiapjadaa", sum := "c31313a9835b89aff78e45b1b01305232b94425c6a9f2a87675af5a05289ae74", func := "anceps/ancepslaw19.JunctionMore", spec := "junctionMore", inPlace := ["internal/bytealg.IndexByteString", "internal/abi.NoEscape", "internal/bytealg.MakeNoZero"], unfollowed := true, recurses := true, apart := false, narrowed := true }
def JunctionMoreUptoSaid : Prop := junctionMoreUptoRow.holds Try.pinned (OpenSpec.upto junctionMoreSpec)

/-- 'ancepslaw19.JunctionEnds', WHERE WHAT IT READS IS OF BULK AT MOST 1048576: true; the input reads as it did. -/
def junctionEndsUptoRow : OpenClaim := { program := "ytggppceiapjadaa", sum := "c31313a9835b89aff78e45b1b01305232b94425c6a9f2a87675af5a05289ae74", func := "anceps/ancepslaw19.JunctionEnds", spec := "junctionEnds", inPlace := ["internal/bytealg.IndexByteString", "internal/abi.NoEscape", "internal/bytealg.MakeNoZero"], unfollowed := true, recurses := true, apart := false, narrowed := true }
def JunctionEndsUptoSaid : Prop := junctionEndsUptoRow.holds Try.pinned (OpenSpec.upto junctionEndsSpec)

/-- 'ancepslaw19.JunctionSilent', WHERE WHAT IT READS IS OF BULK AT MOST 1048576: true; the input reads as it did. -/
def junctionSilentUptoRow : OpenClaim := { program := "ytggppceiapjadaa", sum := "c31313a9835b89aff78e45b1b01305232b94425c6a9f2a87675af5a05289ae74", func := "anceps/ancepslaw19.JunctionSilent", spec := "junctionSilent", inPlace := ["internal/bytealg.IndexByteString", "internal/abi.NoEscape", "internal/bytealg.MakeNoZero"], unfollowed := true, recurses := true, apart := false, narrowed := true }
def JunctionSilentUptoSaid : Prop := junctionSilentUptoRow.holds Try.pinned (OpenSpec.upto junctionSilentSpec)

end Rows
end Go.Proofs.Ytggppceiapjadaa
