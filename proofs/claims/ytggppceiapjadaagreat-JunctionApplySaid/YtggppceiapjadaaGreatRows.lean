/-
  No cell of these rows narrows 'for every input' (looked for: loops, veiled, ifaces, maps, wideKeys, modest, calm, conditions, laid).
  DERIVED. THE GIVEN ROWS OF THIS SEAT. 3 by the template 'for every input the law returns true; each argument reads behind the call as it read before'; 0 by the template 'total and deterministic' (their statements: YtggppceiapjadaaGreatTotals.lean).
  GIVEN WITH THE SEED: the statements are not yours to turn. If you find one false, say at which input.
  Laid BY PROGRAM, IN A SANDBOX (cutbox-rows.mjs): the forced cells as the released guide's own fill.sh prints them over the translation ec20bb3a652213b0… (all of the seat's roots in one cut). By AI agents, Wed Nov 11 2026. No macro, syntax, notation, axiom, sorry.
-/
import Derived.Test.YtggppceiapjadaaGreatChecked
import GoSem.Claim
import GoSem.ClaimJoined
import GoSem.ClaimMapViews
import Derived.JoinedTies
import Derived.KernelRfl
namespace Go.Proofs.YtggppceiapjadaaGreat
/- THE CELL 'sum', in the pinned program and in every row, IS THE sha256 OF THE DUMP (.gsa) THAT YtggppceiapjadaaGreatProg.lean LOADS. Nothing in Lean hashes anything: it is a label: what it is worth is what the hold of that sum in a sandbox is worth. -/
noncomputable def Tryz.pinned : Pinned := { name := "ytggppceiapjadaagreat", sum := "ec20bb3a652213b0d16e7435e54325d1adbf88cae33410ceb307a0905c289d87", checked := Tryz.checked }
namespace Rows
def none {H : Type} : Left H := { results := [], args := [] }

/-- 'ancepslaw19.JunctionApply': WHATEVER THE INPUT: true; the input reads as it did. -/
def junctionApplySpec : ChangeSpec := { name := "junctionApply", fn := fun _ => fun
  | [d1, d2, d3] => { results := [.lit (.bool true)], args := [d1, d2, d3] }
  | _ => none }
def junctionApplyRow : OpenClaim := { program := "ytggppceiapjadaagreat", sum := "ec20bb3a652213b0d16e7435e54325d1adbf88cae33410ceb307a0905c289d87", func := "anceps/ancepslaw19.JunctionApply", spec := "junctionApply", inPlace := ["internal/bytealg.IndexByteString", "internal/abi.NoEscape", "internal/bytealg.MakeNoZero"], unfollowed := true, recurses := true, apart := false }
def JunctionApplySaid : Prop := junctionApplyRow.holds Tryz.pinned (OpenSpec.ofChange junctionApplySpec)

/-- ITS FALSE NEIGHBOUR: 'it returns false'. Refute it at one input. -/
def junctionApplyWrong : ChangeSpec := { name := "junctionApply", fn := fun _ => fun
  | [d1, d2, d3] => { results := [.lit (.bool false)], args := [d1, d2, d3] }
  | _ => none }
def JunctionApplyWrongFalsely : Prop := junctionApplyRow.holds Tryz.pinned (OpenSpec.ofChange junctionApplyWrong)

/-- 'ancepslaw19.JunctionJoints': WHATEVER THE INPUT: true; the input reads as it did. -/
def junctionJointsSpec : ChangeSpec := { name := "junctionJoints", fn := fun _ => fun
  | [d1, d2] => { results := [.lit (.bool true)], args := [d1, d2] }
  | _ => none }
def junctionJointsRow : OpenClaim := { program := "ytggppceiapjadaagreat", sum := "ec20bb3a652213b0d16e7435e54325d1adbf88cae33410ceb307a0905c289d87", func := "anceps/ancepslaw19.JunctionJoints", spec := "junctionJoints", inPlace := ["internal/bytealg.IndexByteString", "internal/abi.NoEscape", "internal/bytealg.MakeNoZero"], unfollowed := true, recurses := true, apart := false }
def JunctionJointsSaid : Prop := junctionJointsRow.holds Tryz.pinned (OpenSpec.ofChange junctionJointsSpec)

/-- ITS FALSE NEIGHBOUR: 'it returns false'. Refute it at one input. -/
def junctionJointsWrong : ChangeSpec := { name := "junctionJoints", fn := fun _ => fun
  | [d1, d2] => { results := [.lit (.bool false)], args := [d1, d2] }
  | _ => none }
def JunctionJointsWrongFalsely : Prop := junctionJointsRow.holds Tryz.pinned (OpenSpec.ofChange junctionJointsWrong)

/-- 'ancepslaw19.JunctionCheapest': WHATEVER THE INPUT: true; the input reads as it did. -/
def junctionCheapestSpec : ChangeSpec := { name := "junctionCheapest", fn := fun _ => fun
  | [d1, d2, d3] => { results := [.lit (.bool true)], args := [d1, d2, d3] }
  | _ => none }
def junctionCheapestRow : OpenClaim := { program := "ytggppceiapjadaagreat", sum := "ec20bb3a652213b0d16e7435e54325d1adbf88cae33410ceb307a0905c289d87", func := "anceps/ancepslaw19.JunctionCheapest", spec := "junctionCheapest", inPlace := ["internal/bytealg.IndexByteString", "internal/abi.NoEscape", "internal/bytealg.MakeNoZero"], unfollowed := true, recurses := true, apart := false }
def JunctionCheapestSaid : Prop := junctionCheapestRow.holds Tryz.pinned (OpenSpec.ofChange junctionCheapestSpec)

/-- ITS FALSE NEIGHBOUR: 'it returns false'. Refute it at one input. -/
def junctionCheapestWrong : ChangeSpec := { name := "junctionCheapest", fn := fun _ => fun
  | [d1, d2, d3] => { results := [.lit (.bool false)], args := [d1, d2, d3] }
  | _ => none }
def JunctionCheapestWrongFalsely : Prop := junctionCheapestRow.holds Tryz.pinned (OpenSpec.ofChange junctionCheapestWrong)

/- THE SECOND FORM. 'bulk': how many values and letters a reading holds, each counted each time it is reached (what is shared counts as often as it is met; a slice's spare places count too). A statement '..UptoSaid' is the law's where the arguments, and the package variables that the reading takes, are together of bulk at most 1048576: NARROWER than '..Said'. Prove '..Said' where nothing that the law and all that it calls make is longer than what came in: it says more and counts as full. Else prove '..UptoSaid'. A law counts once. -/
mutual
def uptoBulk {H : Type} : DataW H → Nat
  | .lit (.string bytes) => bytes.length + 1
  | .lit _ => 1
  | .nil => 1
  | .ptr d => uptoBulk d + 1
  | .slice elems spare => uptoBulkAll elems + uptoBulkAll spare + 1
  | .agg parts => uptoBulkAll parts + 1
  | .iface _ d => uptoBulk d + 1
  | .map entries => uptoBulkEntries entries + 1
  | .held _ => 1
def uptoBulkAll {H : Type} : List (DataW H) → Nat
  | [] => 0
  | d :: r => uptoBulk d + uptoBulkAll r
def uptoBulkEntries {H : Type} : List (Lit × DataW H) → Nat
  | [] => 0
  | x :: r => uptoBulkEntry x + uptoBulkEntries r
def uptoBulkEntry {H : Type} : Lit × DataW H → Nat
  | (.string bytes, d) => bytes.length + uptoBulk d + 1
  | (_, d) => uptoBulk d + 1
 end
def uptoSmall : (H : Type) → List (DataW H) → Bool := fun _ ds => decide (uptoBulkAll ds ≤ 1048576)
def OpenSpec.upto (s : _root_.Go.ChangeSpec) : _root_.Go.OpenSpec := { _root_.Go.OpenSpec.ofChange s with cond := some uptoSmall }

/-- 'ancepslaw19.JunctionApply', WHERE WHAT IT READS IS OF BULK AT MOST 1048576: true; the input reads as it did. -/
def junctionApplyUptoRow : OpenClaim := { program := "ytggppceiapjadaagreat", sum := "ec20bb3a652213b0d16e7435e54325d1adbf88cae33410ceb307a0905c289d87", func := "anceps/ancepslaw19.JunctionApply", spec := "junctionApply", inPlace := ["internal/bytealg.IndexByteString", "internal/abi.NoEscape", "internal/bytealg.MakeNoZero"], unfollowed := true, recurses := true, apart := false, narrowed := true }
def JunctionApplyUptoSaid : Prop := junctionApplyUptoRow.holds Tryz.pinned (OpenSpec.upto junctionApplySpec)

/-- 'ancepslaw19.JunctionJoints', WHERE WHAT IT READS IS OF BULK AT MOST 1048576: true; the input reads as it did. -/
def junctionJointsUptoRow : OpenClaim := { program := "ytggppceiapjadaagreat", sum := "ec20bb3a652213b0d16e7435e54325d1adbf88cae33410ceb307a0905c289d87", func := "anceps/ancepslaw19.JunctionJoints", spec := "junctionJoints", inPlace := ["internal/bytealg.IndexByteString", "internal/abi.NoEscape", "internal/bytealg.MakeNoZero"], unfollowed := true, recurses := true, apart := false, narrowed := true }
def JunctionJointsUptoSaid : Prop := junctionJointsUptoRow.holds Tryz.pinned (OpenSpec.upto junctionJointsSpec)

/-- 'ancepslaw19.JunctionCheapest', WHERE WHAT IT READS IS OF BULK AT MOST 1048576: true; the input reads as it did. -/
def junctionCheapestUptoRow : OpenClaim := { program := "ytggppceiapjadaagreat", sum := "ec20bb3a652213b0d16e7435e54325d1adbf88cae33410ceb307a0905c289d87", func := "anceps/ancepslaw19.JunctionCheapest", spec := "junctionCheapest", inPlace := ["internal/bytealg.IndexByteString", "internal/abi.NoEscape", "internal/bytealg.MakeNoZero"], unfollowed := true, recurses := true, apart := false, narrowed := true }
def JunctionCheapestUptoSaid : Prop := junctionCheapestUptoRow.holds Tryz.pinned (OpenSpec.upto junctionCheapestSpec)

end Rows
end Go.Proofs.YtggppceiapjadaaGreat
